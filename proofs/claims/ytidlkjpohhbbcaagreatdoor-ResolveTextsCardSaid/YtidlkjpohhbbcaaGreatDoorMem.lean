/- A part of the proof. -/
import Derived.KernelRfl
import Derived.Below
import Derived.Laws.OwnMore
import Derived.Deep.Draws
import Derived.Laws.Rows
import Derived.Tactics
import Derived.Orders
import Derived.Deep.Quiet
import Derived.WalkKit
import Derived.WalkLawsBesides
set_option linter.all false
namespace Go.Scarf
theorem qJ{p:Prop}(h:p:=by symm;first|(rw[decide_eq_true_iff];omega)|(rw[decide_eq_false_iff_not];omega)|(rw[decide_eq_decide];omega)):p:=h
theorem qW{p:Prop}(h:p:=by assumption):p:=h
theorem qK{p:Prop}(h:p:=by grind):p:=h
theorem qX{p:Prop}(h:p:=by simp_all):p:=h
theorem qV{p:Prop}(h:p:=by first|(rw[gZ (show k<aL s1 by omega)];first|exact (Sx<|hmj.symm.trans qW).symm|exact (Xw Py).symm|exact (Rx (hmj.symm.trans qW) (by first|exact Bl|exact Pt)).symm)|(rw[fZ (show ¬k<aL s1 by omega)];rfl)):p:=h
theorem qB{p:Prop}(h:p:=by intro x hx;simp only[ids,jQ,lZ,List.map_nil,qQ,mQ,oQ]at hx ⊢;grind):p:=h
theorem qN{p:Prop}(h:p:=by simp only[maxLen];omega):p:=h
theorem qM{p:Prop}(h:p:=by simp;omega):p:=h
theorem qP{p:Prop}(h:p:=by first|(rw[EG,Sq (b:=nodeB<|.node k t ks xs) qW];rfl)|(rw[EG,Km (b:=nodeB<|.node k t ks xs) qW];show _ = !(true&&(h || decide (k≠7)));first|(rw[fZ (show ¬k≠7 by omega),Bool.or_false];rfl)|(rw[gZ (show k≠7 by omega),Bool.or_true];rfl))):p:=h
theorem qR{p:Prop}(h:p:=by rw[Int.toNat_natCast,Nat.zero_add]):p:=h
theorem qT{p:Prop}(h:p:=by first|(rw[gZ (show k<aL s1 by omega),Bool.true_and];exact hmj)|(rw[fZ (show ¬k<aL s1 by omega)];rfl)):p:=h
theorem qU{p:Prop}(h:p:=by have:=Pb (x:=x) (aS hc0);omega):p:=h
theorem qY{p:Prop}(h:p:=by rw[zQ];omega):p:=h
theorem qH{p:Prop}(h:p:=by first|(simp only[ids,jQ,lZ,List.map_nil,qQ,mQ,oQ,List.not_mem_nil,or_false,or_assoc]at hx ⊢;exact hx)|(simp only[ids,jQ,lZ,List.map_nil,qQ,mQ,oQ]at hx ⊢;grind)):p:=h
theorem qG{p:Prop}(h:p:=by simp[Yi,nb1]):p:=h
theorem qF{p:Prop}(h:p:=by first|(rw[uQ Aa])|(rw[tQ Aa])):p:=h
theorem qD{p:Prop}(h:p:=by have:=Mk<|s[j]' Aa;rw[dQ];omega):p:=h
theorem qA{p:Prop}(h:p:=by decide +kernel):p:=h
theorem zJ{p:Prop}(h:p:=by (try simp only[dQ,kQ,cZ]);omega):p:=h
theorem zW{p:Prop}(h:p:=by have:=Td<|List.getElem_mem (l:=xs) (n:=j) Aa;omega):p:=h
theorem zK{p:Prop}(h:p:=by first|exact Vx (by rintro⟨h1,h2⟩;omega)|exact Vw hy1 (by rintro⟨h1,h2⟩;omega)):p:=h
theorem zX{p:Prop}(h:p:=by cases h):p:=h
theorem zV{p:Prop}(h:p:=by (try simp only[dQ,kQ,cZ]);first|(rw[tQ Aa]at hL;omega)|(rw[uQ Aa]at hL;omega)):p:=h
theorem zB{p:Prop}(h:p:=by simp[Value.oneCell']):p:=h
theorem zN{p:Prop}(h:p:=by intro h h5;first|exact K0|(exfalso;omega)):p:=h
theorem zM{p:Prop}(h:p:=by intro x hx;simp only[mQ]at hx ⊢;grind):p:=h
theorem zP{p:Prop}(h:p:=by intro h;first|exact B0|(exfalso;omega)):p:=h
theorem zR{p:Prop}(h:p:=by simp only[dQ,kQ,cZ];(first|rw[uQ hc0]at hl|rw[tQ (by simp[hc0])]at hl);simp only[kQ,cZ]at hl;omega):p:=h
theorem zS{p:Prop}(h:p:=by first|(simp;omega)|omega):p:=h
theorem zT{p:Prop}(h:p:=by rw[fZ (show ¬q<aL ((s1:Str).take k) by omega)];decide):p:=h
theorem zU{p:Prop}(h:p:=by intro b hb;rw[pQ.1 hb];exact hS):p:=h
theorem zY{p:Prop}(h:p:=by rw[hb.set];exact h):p:=h
theorem zH{p:Prop}(h:p:=by show ¬bZ (d.take m) (aL (d.take m)-1)=48;rw[jZ,Nat.min_eq_left hm2];exact hlast):p:=h
theorem zG{p:Prop}(h:p:=by first|(rw[Lf,uQ hm];simp;done)|(rw[Lf,hm];simp;done)):p:=h
theorem zF{p:Prop}(h:p:=by unfold blankB;simpa using hc1):p:=h
theorem zD{p:Prop}(h:p:=by rw[iQ hj3,List.all_append,ha,<-hsd];simp[hgood]):p:=h
theorem zA{p:Prop}(h:p:=by have:=Lib.itoa_length_le x.exp qU qU;simp;omega):p:=h
theorem jJ{p:Prop}(h:p:=by unfold Wp;rw[<-hqk,<-hxh];simp_all):p:=h
theorem jW{p:Prop}(h:p:=by first|omega|(intro h;cases h)|(intro _;omega)):p:=h
theorem jK{p:Prop}(h:p:=by simp;exact hb):p:=h
theorem jV{p:Prop}(h:p:=by rw[Db (hF.memHeap<|kZ _<|List.mem_append_left _<|hBn _ _ hSU) 0];rfl):p:=h
theorem jB{p:Prop}(h:p:=by first|(rw[kG,uQ hk6,I4 hjk,hm];simp;done)|(rw[kG,tQ hk6];simp;done)):p:=h
theorem jN{p:Prop}(h:p:=by rw[<-show max ((Ac (xs.take j):Nat):Int) ((Nb xs[j]:Nat):Int)=((Ac (xs.take<|j+1):Nat):Int) from by rw[Ox xs j Aa];omega];exact x_max O O):p:=h
theorem jM{p:Prop}(h:p:=by have h1:=Pd s q;have h2:=Xo (Utf8.decode (bs s) q).1;rw[dQ];omega):p:=h
theorem jP{p:Prop}(h:p:=by simp only[xQ,eq_self,true_iff,false_iff,Bool.false_eq_true];omega):p:=h
theorem jR{p:Prop}(h:p:=by rintro⟨h1,h2,-⟩;have h3:=hp1;simp_all):p:=h
theorem jS{p:Prop}(h:p:=by first|exact (W4 Aa).symm|exact (Bl).symm):p:=h
theorem jT{p:Prop}(h:p:=by rw[Ni,hq];rfl):p:=h
theorem jU{p:Prop}(h:p:=by rw[hm];exact hs):p:=h
theorem jY{p:Prop}(h:p:=by have:=List.length_pos_iff.2<|Li (s:=x.digits) (aS hc1);omega):p:=h
theorem jH{p:Prop}(h:p:=by have h1:=Re<|eQ hj;exact fQ (Nat.mul_le_mul_left ind Aa) hd):p:=h
theorem jG{p:Prop}(h:p:=by rw[jQ];exact (hV.append<|RX.one (Lc hQ.rep).2.2.2.2).sub qB):p:=h
theorem jF{p:Prop}(h:p:=by have:=Rk (λc=>decide (0<=Lib.indexByte [45,43,46,48,49,50,51,52,53,54,55,56,57,101,69] c))<|s.drop a;rw[zQ]at this;omega):p:=h
theorem jD{p:Prop}(h:p:=by have h1:=ho.1;have h2:=ho.2;simp;omega):p:=h
theorem jA{p:Prop}(h:p:=by rw[<-hfs.2.1,<-hfs.2.2.1,<-hDt];first|exact (Nw Aa Aa).symm|(have h0:D=[]:=List.eq_nil_of_length_eq_zero Aa;rw[h0];rfl)):p:=h
theorem bJ{p:Prop}(h:p:=by simp[hp]):p:=h
theorem bW{p:Prop}(h:p:=by simp[Ai]):p:=h
theorem bK{p:Prop}(h:p:=by rw[<-hok,hokt];decide):p:=h
theorem bV{p:Prop}(h:p:=by rw[jZ];omega):p:=h
theorem bB{p:Prop}(h:p:=by simp[ev,Ic,hd]):p:=h
theorem bN{p:Prop}(h:p:=by rw[ne_eq,List.drop_eq_nil_iff];omega):p:=h
theorem bM{p:Prop}(h:p:=by simp[World.shape?,hF.heap (i:=0) O]):p:=h
theorem bP{p:Prop}(h:p:=by simpa using Nat.succ_le_of_lt hc.lt):p:=h
theorem bR{p:Prop}(h:p:=by rw[h0];decide):p:=h
theorem bS{p:Prop}(h:p:=by have hh:=(Lc hx4).1;rw[Vq hil];unfold Di;simp_all):p:=h
theorem bT{p:Prop}(h:p:=by simp[hy]):p:=h
theorem bU{p:Prop}(h:p:=by first|(rw[tQ zT];done)|(rw[uQ<|gZ (show q<aL ((s1:Str).take k) by omega)]at hre ⊢;exact hre)):p:=h
theorem bY{p:Prop}(h:p:=by simp only[qQ,sQ];exact List.Perm.append_left [_,_]<|List.perm_append_comm_assoc [_,_] ex _):p:=h
theorem bH{p:Prop}(h:p:=by simpa using hS _ hSa):p:=h
theorem bG{p:Prop}(h:p:=by have hr:=Pb (x:=x) qX;omega):p:=h
theorem bF{p:Prop}(h:p:=by rw[hr];exact aZ):p:=h
theorem bD{p:Prop}(h:p:=by simp[hq]):p:=h
theorem bA{p:Prop}(h:p:=by rw[<-Ah hcl,List.all_append,hA];simp[hh]):p:=h
theorem wJ{p:Prop}(h:p:=by have:=Zl 48 x.exp.toNat;have:=Pb (x:=x) qX;first|omega|(simp only[dQ,kQ,cZ];omega)):p:=h
theorem wW{p:Prop}(h:p:=by unfold FU;simp_all):p:=h
theorem wK{p:Prop}(h:p:=by subst hv;exact hF.alloc _):p:=h
theorem wX{p:Prop}(h:p:=by intro q hq;rw[pQ.1 hq];exact⟨hg,Da⟩):p:=h
theorem wV{p:Prop}(h:p:=by rcases (by first|exact .inl qW|exact .inr qW:r=34\/r=92)with rfl|rfl <;> decide):p:=h
theorem wB{p:Prop}(h:p:=by first|(rw[uQ<|gZ (show q<aL ((s1:Str).take k) by omega)];done)|(rw[tQ zT];done)):p:=h
theorem wN{p:Prop}(h:p:=by rw[hlct];exact Nat.le_of_ble_eq_true O):p:=h
theorem wM{p:Prop}(h:p:=by simp[hx]):p:=h
theorem wP{p:Prop}(h:p:=by simp[hz]):p:=h
theorem wR{p:Prop}(h:p:=by rw[hl0];exact uZ):p:=h
theorem wS{p:Prop}(h:p:=by simp[Yi,nb2]):p:=h
theorem wT{p:Prop}(h:p:=by rw[List.getElem?_eq_getElem Aa];exact yQ some<|Lh.2 (by show _=34;omega)):p:=h
theorem wU{p:Prop}(h:p:=by rw[hq2];(try simp only[dQ,kQ,cZ]);first|(rw[tQ hpn]at hlim;omega)|omega):p:=h
theorem wY{p:Prop}(h:p:=by rw[jQ];exact (hV.append hQ).sub qB):p:=h
theorem wH{p:Prop}(h:p:=by unfold ids;rw[jQ];exact List.mem_append_left _<|List.mem_map_of_mem h1):p:=h
theorem wG{p:Prop}(h:p:=by have hr:=Pb (x:=x) qX;have:=Lib.itoa_length_le x.exp Aa Aa;simp;omega):p:=h
theorem wF{p:Prop}(h:p:=by first|exact or_a hg2|exact ST hg2 (by rw[decide_eq_true_iff];omega)):p:=h
theorem wD{p:Prop}(h:p:=by have hh:=(Lc hx4).1;have h0:¬i=0:=Aa;rw[Vq hil];unfold Di;simp_all):p:=h
theorem wA{p:Prop}(h:p:=by cases e):p:=h
theorem kJ{p:Prop}(h:p:=by rw[<-Yh (s:=((s1:Str).drop (k+1))) (p:=0) Aa];exact Cb 0 jX O O Aa):p:=h
theorem kW{p:Prop}(h:p:=by simpa[ev,hd]using hx):p:=h
theorem kK{p:Prop}(h:p:=by have h1:=hd;rw[Nb]at h1;exact fQ (Nat.mul_le_mul_left ind Aa) h1):p:=h
theorem kV{p:Prop}(h:p:=by have:=Qn s [45];have:=Xg [101,69]<|Lib.trimPrefix s [45];omega):p:=h
theorem kB{p:Prop}(h:p:=by rw[Nb]at hd2;omega):p:=h
theorem kM{p:Prop}(h:p:=by unfold Tg;simp_all):p:=h
theorem kP{p:Prop}(h:p:=by have:=UInt8.toNat_lt c;omega):p:=h
theorem kR{p:Prop}(h:p:=by rw[Pl];omega):p:=h
theorem kS{p:Prop}(h:p:=by rw[hE0]):p:=h
theorem kT{p:Prop}(h:p:=by rw[K4 Aa hm2];exact hd0 Aa):p:=h
theorem kU{p:Prop}(h:p:=by intro h;simp_all;try omega):p:=h
theorem kY{p:Prop}(h:p:=by have:=Nf s;omega):p:=h
theorem kH{p:Prop}(h:p:=by intro b hb _;unfold ids at hb ⊢;rw[jQ];exact kZ _ hb):p:=h
theorem kF{p:Prop}(h:p:=by intro e;have:=yQ List.length e;rw[rQ,cZ]at this;omega):p:=h
theorem kD{p:Prop}(h:p:=by rw[hl0];rfl):p:=h
open List renaming length->aL
theorem aS{p q:Prop}(h:p)(e:p->q:=by intro h;simpa using h):q:=e h
def O{α:Sort _}{a:α}:a=a:=rfl
def Da{p:Prop}(h:p:=by simp):p:=h
def Aa{p:Prop}(h:p:=by omega):p:=h
def Ja{p:Prop}(h:p:=by decide):p:=h
def Ua{p:Prop}(h:p:=by kernel_rfl):p:=h
def Bf{a b:Nat}(h:Nat.ble a b=true:=by rfl):a<=b:=Nat.le_of_ble_eq_true h
open Go.RowKit
def N2:Value->Prop
  | .int k n=>k.min<=n/\n<=k.max
  | .bool _=>True
  | .string s=>s.size<=9223372036854775807
  | _=>False
inductive D where
  | lit (v:Value)
  | agg (ds:List D)
  | slice (ds:List D)
def CellsAt(S:Nat->Prop)(w:World)(ad:Addr)(cs:List Value):Prop :=
  ∀i (h:i<aL cs),w.cell? (ad.add i)=some cs[i]/\S ad.block
mutual
def Rep(S:Nat->Prop)(w:World):D->List Value->Prop
  | .lit v,cs=>cs=[v]/\N2 v
  | .agg ds,cs=>RepL S w ds cs
  | .slice ds,cs=>∃(A:Option Addr)(c:Nat),cs=[.slice A (aL ds) c]/\aL ds<=c/\c<=9223372036854775807 /\
      (ds≠[]->∃ad,A=some ad/\∃es,CellsAt S w ad es/\RepL S w ds es)
def RepL(S:Nat->Prop)(w:World):List D->List Value->Prop
  | [],cs=>cs=[]
  | d::ds,cs=>∃c1 c2,cs=c1++c2/\Rep S w d c1/\RepL S w ds c2
end
theorem Tb(a:Addr)(n:Nat):(a.add n).block=a.block:=by
  unfold Addr.add;grind
theorem Jo(a:Addr)(i j:Nat):(a.add i).add j=a.add (i+j):=by
  unfold Addr.add;grind
theorem Ln(a:Addr):a.add 0=a:=by simp[Addr.add]
def CellsAt.keep{S:Nat->Prop}{w w':World}{ad:Addr}{cs:List Value}(h:CellsAt S w ad cs)
    (hk:∀b,S b->b<w.heap.size->w'.heap[b]? = w.heap[b]?):CellsAt S w' ad cs:=λi hi=>by
  obtain⟨hc,hs⟩:=h i hi;have hb:=World.block_lt_of_cell? _ _ hc;rw[Tb]at hb;refine⟨?_,hs⟩;rw[<-hc];exact World.cell?_of_block (w:=w) (by rw[Tb];exact hk _ hs hb)
theorem CellsAt.weaken{S S':Nat->Prop}{w:World}{ad:Addr}{cs:List Value}(h:CellsAt S w ad cs)
    (hk:∀b,S b->b<w.heap.size->S' b):CellsAt S' w ad cs:=λi hi=>by
  obtain⟨hc,hs⟩:=h i hi;have hb:=World.block_lt_of_cell? _ _ hc;grind [Tb]
mutual
theorem Rep.keep{S:Nat->Prop}{w w':World}(hk:∀b,S b->b<w.heap.size->w'.heap[b]? = w.heap[b]?) :
    ∀{d:D}{cs:List Value},Rep S w d cs->Rep S w' d cs
  | .lit v,cs,h=>by unfold Rep at h ⊢;exact h
  | .agg ds,cs,h=>by unfold Rep at h ⊢;exact RepL.keep hk h
  | .slice ds, cs, h => by
    unfold Rep at h ⊢;obtain⟨A,c,rfl,h1,h2,h3⟩:=h;refine⟨A,c,O,h1,h2,λhne=>?_⟩;obtain⟨ad,rfl,es,hc,hr⟩:=h3 hne;exact⟨ad,O,es,hc.keep hk,RepL.keep hk hr⟩
theorem RepL.keep{S:Nat->Prop}{w w':World}(hk:∀b,S b->b<w.heap.size->w'.heap[b]? = w.heap[b]?) :
    ∀{ds:List D}{cs:List Value},RepL S w ds cs->RepL S w' ds cs
  | [],cs,h=>by unfold RepL at h ⊢;exact h
  | d :: ds, cs, h => by
    unfold RepL at h ⊢;obtain⟨c1,c2,rfl,h1,h2⟩:=h;exact⟨c1,c2,O,Rep.keep hk h1,RepL.keep hk h2⟩
end
mutual
theorem Rep.weaken{S S':Nat->Prop}{w:World}(hk:∀b,S b->b<w.heap.size->S' b) :
    ∀{d:D}{cs:List Value},Rep S w d cs->Rep S' w d cs
  | .lit v,cs,h=>by unfold Rep at h ⊢;exact h
  | .agg ds,cs,h=>by unfold Rep at h ⊢;exact RepL.weaken hk h
  | .slice ds, cs, h => by
    unfold Rep at h ⊢;obtain⟨A,c,rfl,h1,h2,h3⟩:=h;refine⟨A,c,O,h1,h2,λhne=>?_⟩;obtain⟨ad,rfl,es,hc,hr⟩:=h3 hne;exact⟨ad,O,es,hc.weaken hk,RepL.weaken hk hr⟩
theorem RepL.weaken{S S':Nat->Prop}{w:World}(hk:∀b,S b->b<w.heap.size->S' b) :
    ∀{ds:List D}{cs:List Value},RepL S w ds cs->RepL S' w ds cs
  | [],cs,h=>by unfold RepL at h ⊢;exact h
  | d :: ds, cs, h => by
    unfold RepL at h ⊢;obtain⟨c1,c2,rfl,h1,h2⟩:=h;exact⟨c1,c2,O,Rep.weaken hk h1,RepL.weaken hk h2⟩
end
theorem RepL.append{S:Nat->Prop}{w:World}:∀{ds es:List D}{cs ct:List Value},RepL S w ds cs->RepL S w es ct->RepL S w (ds++es) (cs++ct)
  | [],es,cs,ct,h,k=>by unfold RepL at h;subst h;simpa using k
  | d :: ds, es, cs, ct, h, k => by
    unfold RepL at h;obtain⟨c1,c2,rfl,h1,h2⟩:=h;simp only[List.cons_append,List.append_assoc];unfold RepL;exact⟨c1,c2++ct,O,h1,RepL.append h2 k⟩
def Gc:D->Nat
  | .lit _=>1
  | .slice _=>1
  | .agg ds=>sizeL ds
where sizeL:List D->Nat
  | []=>0
  | d::ds=>Gc d+sizeL ds
mutual
theorem Rep.length{S:Nat->Prop}{w:World}:∀{d:D}{cs:List Value},Rep S w d cs->aL cs=Gc d
  | .lit v,cs,h=>by unfold Rep at h;simp[h.1,Gc]
  | .agg ds,cs,h=>by unfold Rep at h;simpa[Gc]using RepL.length h
  | .slice ds,cs,h=>by unfold Rep at h;obtain⟨A,c,rfl,_⟩:=h;simp[Gc]
theorem RepL.length{S:Nat->Prop}{w:World}:∀{ds:List D}{cs:List Value},RepL S w ds cs->aL cs=Gc.sizeL ds
  | [],cs,h=>by unfold RepL at h;simp[h,Gc.sizeL]
  | d :: ds, cs, h => by
    unfold RepL at h;obtain⟨c1,c2,rfl,h1,h2⟩:=h;simp[Gc.sizeL,Rep.length h1,RepL.length h2]
end
theorem RepL.get{S:Nat->Prop}{w:World}{sz:Nat}:∀{ds:List D}{cs:List Value},RepL S w ds cs->(∀d∈ds,Gc d=sz)->∀i (hi:i<aL ds),
    Rep S w ds[i] ((cs.drop (i*sz)).take sz)/\(i+1)*sz<=aL cs
  | [],_,_,_,i,hi=>absurd hi Da
  | d :: ds, cs, h, hs, i, hi => by
    unfold RepL at h;obtain⟨c1,c2,rfl,h1,h2⟩:=h;have l1:aL c1=sz:=(Rep.length h1).trans (hs d Da);cases i with
    | zero=>exact⟨by simpa[l1]using h1,by simp[l1]⟩
    | succ i =>
      obtain⟨g,gl⟩:=RepL.get h2 (λd hd=>hs d (by simp[hd])) i (aS hi);have e:(i+1)*sz=sz+i*sz:=by rw[Nat.add_mul,Nat.one_mul,Nat.add_comm]
      refine⟨?_,by rw[Nat.add_mul,Nat.one_mul];simp[l1];omega⟩;have e2:(c1++c2).drop ((i+1)*sz)=c2.drop (i*sz):=by
        rw[e,List.drop_append,List.drop_eq_nil_of_le Aa,l1,Nat.add_sub_cancel_left,List.nil_append]
      rw[e2];simpa using g
structure Same (Ds:List Nat) (w w':World):Prop where
  os:w'.os=w.os
  tape:w'.tape=w.tape
  output:w'.output=w.output
  size:w.heap.size<=w'.heap.size
  block:∀b,b<w.heap.size->b∉Ds->w'.heap[b]? = w.heap[b]?
def Same.refl(Ds:List Nat)(w:World):Same Ds w w:=⟨rfl,rfl,rfl,Nat.le_refl _,λ_ _ _=>rfl⟩
def Same.trans{Ds:List Nat}{a b c:World}(h:Same Ds a b)(k:Same Ds b c):Same Ds a c :=
  ⟨k.os.trans h.os,k.tape.trans h.tape,k.output.trans h.output,Nat.le_trans h.size k.size,
    λi hi hn=>(k.block i (Nat.lt_of_lt_of_le hi h.size) hn).trans (h.block i hi hn)⟩
def Same.mono{Ds Ds':List Nat}{w w':World}(h:Same Ds w w')(hd:∀b∈Ds,b<w.heap.size->b∈Ds'):Same Ds' w w' :=
  ⟨h.os,h.tape,h.output,h.size,λb hb hn=>h.block b hb λhi=>hn<|hd b hi hb⟩
def Same.below{w w':World}(h:Same [] w w'):Below w.heap.size w w' :=
  ⟨h.os,h.tape,h.output,h.size,λb hb=>h.block b hb Da⟩
def Same.of_below{w w':World}(h:Below w.heap.size w w'):Same [] w w' :=
  ⟨h.os,h.tape,h.output,h.size,λb hb _=>h.block b hb⟩
def Same.alloc(w:World)(o:Obj):Same [] w (w.alloc o):=.of_below ((Below.refl _ _).alloc (Nat.le_refl _) o)
def Same.drew(w:World):Same [] w w.drew:=.of_below (Below.refl _ _).drew
def Same.setCell(w:World)(a:Addr)(v:Value):Same [a.block] w (w.setCell a v) :=
  ⟨rfl,rfl,rfl,Da,λb _ hn=>Below.heap_setCell _ _ _ _ (aS hn)⟩
def Rep.same{S:Nat->Prop}{Ds:List Nat}{w w':World}{d:D}{cs:List Value}(h:Rep S w d cs)(hs:Same Ds w w')(hd:∀b∈Ds,¬S b):Rep S w' d cs :=
  h.keep λb hb hl=>hs.block b hl λhi=>hd b hi hb
def Rep.ext{S:Nat->Prop}{w w':World}{d:D}{cs:List Value}(h:Rep S w d cs)(hs:Same [] w w'):Rep S w' d cs:=h.same hs Da
def RepL.same{S:Nat->Prop}{Ds:List Nat}{w w':World}{ds:List D}{cs:List Value}(h:RepL S w ds cs)(hs:Same Ds w w')(hd:∀b∈Ds,¬S b):RepL S w' ds cs :=
  h.keep λb hb hl=>hs.block b hl λhi=>hd b hi hb
def CellsAt.same{S:Nat->Prop}{Ds:List Nat}{w w':World}{ad:Addr}{cs:List Value}(h:CellsAt S w ad cs)(hs:Same Ds w w')(hd:∀b∈Ds,¬S b):CellsAt S w' ad cs :=
  h.keep λb hb hl=>hs.block b hl λhi=>hd b hi hb
class FR (w0:outParam World) (Ds:outParam (List Nat)) (bs:outParam (List<|Nat × Obj)) (w:World):Prop where
  same:Same Ds w0 w
  own:∀p∈bs,w.heap[p.1]? = some p.2/\(w0.heap.size<=p.1\/p.1∈Ds)
  desc:bs.Pairwise (λp q=>q.1≠p.1)
theorem FR.start(w:World)(Ds:List Nat):FR w Ds [] w:=⟨.refl _ _,Da,Da⟩
section
variable {b i:Nat}{o:Obj}{w':World}{cs:Array Value}{T:TypeId}{fz:Nat × Nat}
variable {w0 w:World}{Ds:List Nat}{bs:List (Nat × Obj)}
theorem Pa{w:World}(h:w.heap[b]? = some o):b<w.heap.size:=qK
theorem FR.lt(h:FR w0 Ds bs w)(hi:bs[i]? = some (b,o)):b<w.heap.size :=
  Pa (h.own (b,o)<|List.mem_of_getElem? hi).1
theorem FR.geD(h:FR w0 Ds bs w)(hi:bs[i]? = some (b,o)):w0.heap.size<=b\/b∈Ds :=
  (h.own (b,o)<|List.mem_of_getElem? hi).2
theorem FR.ge(h:FR w0 [] bs w)(hi:bs[i]? = some (b,o)):w0.heap.size<=b:=by
  rcases h.geD hi with h|h
  ·exact h
  cases h
theorem FR.open_{bs:List (Nat × Obj)}(h:∀p∈bs,w.heap[p.1]? = some p.2/\p.1∈Ds)(hd:bs.Pairwise (λp q=>q.1≠p.1)):FR w Ds bs w :=
  ⟨.refl _ _,λp hp=>⟨(h p hp).1,.inr (h p hp).2⟩,hd⟩
theorem FR.heap(h:FR w0 Ds bs w)(hi:bs[i]? = some (b,o)):w.heap[b]? = some o :=
  (h.own (b,o)<|List.mem_of_getElem? hi).1
theorem FR.drew(h:FR w0 Ds bs w):FR w0 Ds bs w.drew:=⟨h.same.trans<|(Same.drew w).mono Da,h.own,h.desc⟩
theorem FR.alloc(h:FR w0 Ds bs w)(o:Obj):FR w0 Ds ((w.heap.size,o)::bs) (w.alloc o):=by
  refine⟨h.same.trans<|(Same.alloc w o).mono Da,λp hp=>?_,?_⟩
  ·rcases List.mem_cons.1 hp with rfl|hp
   ·exact⟨heap_alloc_new w o,.inl h.same.size⟩
   have := h.own p hp;exact⟨(Below.heap_alloc w o p.1<|Pa this.1).trans this.1,this.2⟩
  exact List.pairwise_cons.2 ⟨λq hq=>by have:=Pa (h.own q hq).1;show q.1≠w.heap.size;omega,h.desc⟩
theorem FR.ext(h:FR w0 Ds bs w)(hs:Same [] w w'):FR w0 Ds bs w' :=
  ⟨h.same.trans<|hs.mono Da,λp hp=>by
    have:=h.own p hp;exact⟨(hs.block p.1 (Pa this.1) Da).trans this.1,this.2⟩,h.desc⟩
theorem FR.touch{E:List Nat}(h:FR w0 Ds bs w)(hs:Same E w w')(he:∀b∈E,(b<w0.heap.size->b∈Ds)/\∀p∈bs,p.1≠b):FR w0 Ds bs w':=by
  refine⟨⟨hs.os.trans h.same.os,hs.tape.trans h.same.tape,hs.output.trans h.same.output,Nat.le_trans h.same.size hs.size,λb hb hn=>?_⟩,λp hp=>?_,h.desc⟩
  ·exact (hs.block b (Nat.lt_of_lt_of_le hb h.same.size) λhi=>hn<|(he b hi).1 hb).trans (h.same.block b hb hn)
  have := h.own p hp;exact⟨(hs.block p.1 (Pa this.1) λhi=>(he p.1 hi).2 p hp O).trans this.1,this.2⟩
theorem FR.clear(h:FR w0 Ds bs w):FR w0 Ds [] w:=⟨h.same,Da,Da⟩
theorem FR.drop(h:FR w0 Ds bs w)(k:Nat):FR w0 Ds (bs.drop k) w :=
  ⟨h.same,λp hp=>h.own p<|List.mem_of_mem_drop hp,h.desc.sublist<|List.drop_sublist k bs⟩
theorem Ir{α:Type}:∀(l:List α)(k:Nat){p:α},l[k]? = some p->(p::l.eraseIdx k).Perm l
  | [],k,p,h=>by simp at h
  | x::l,0,p,h=>by simp at h;subst h;exact .refl _
  | x :: l, k + 1, p, h => by
    have h':l[k]? = some p:=aS h
    have:=Ir l k h';exact (List.Perm.swap x p _).trans (this.cons x)
theorem FR.front(h:FR w0 Ds bs w)(k:Nat){p:Nat × Obj}(hk:bs[k]? = some p):FR w0 Ds (p::bs.eraseIdx k) w:=by
  have hp:(p::bs.eraseIdx k).Perm bs:=Ir bs k hk;exact⟨h.same,λq hq=>h.own q<|hp.mem_iff.1 hq,(hp.pairwise_iff fun {a b} hab e=>hab e.symm).2 h.desc⟩
theorem FR.perm{bs':List (Nat × Obj)}(h:FR w0 Ds bs w)(hp:bs'.Perm bs):FR w0 Ds bs' w :=
  ⟨h.same,λq hq=>h.own q<|hp.mem_iff.1 hq,(hp.pairwise_iff fun {a b} hab e=>hab e.symm).2 h.desc⟩
theorem FR.toseg(h:FR w0 Ds bs w)(k:Nat){p:Nat × Obj}(hk:bs[k]? = some p):FR w0 Ds (bs.eraseIdx k++([p]++[])) w :=
  h.perm (by
    have h1:(bs.eraseIdx k++[p]).Perm (p::bs.eraseIdx k):=List.perm_append_comm;exact h1.trans<|Ir bs k hk)
def LQ{bs:List (Nat × Obj)}(h:bs.Pairwise (λp q=>q.1≠p.1)){j:Nat}{p q:Nat × Obj}(hi:bs[i]? = some p)(hj:bs[j]? = some q)(hne:i≠j):p.1≠q.1:=by
  obtain⟨hi',rfl⟩:=List.getElem?_eq_some_iff.1 hi;obtain⟨hj',rfl⟩:=List.getElem?_eq_some_iff.1 hj;rcases Nat.lt_or_ge i j with hlt|hge
  ·exact λe=>List.pairwise_iff_getElem.1 h i j hi' hj' hlt e.symm
  exact List.pairwise_iff_getElem.1 h j i hj' hi' Aa
theorem FR.change(h:FR w0 Ds bs w)(i:Nat){o':Obj}(hi:bs[i]? = some (b,o))(hs:Same [b] w w')(hn:w'.heap[b]? = some o') :
    FR w0 Ds (bs.set i (b,o')) w':=by
  have hge:=h.geD hi;obtain⟨hi',he⟩:=List.getElem?_eq_some_iff.1 hi;refine⟨⟨hs.os.trans h.same.os,hs.tape.trans h.same.tape,hs.output.trans h.same.output,Nat.le_trans h.same.size hs.size,λc hc hnn=>?_⟩,λp hp=>?_,?_⟩
  ·exact (hs.block c (Nat.lt_of_lt_of_le hc h.same.size) (λhm=>by
     simp only[List.mem_singleton]at hm;subst hm;rcases hge with h1|h1
     ·omega
     exact hnn h1)).trans (h.same.block c hc hnn)
  ·rw[List.mem_iff_getElem?]at hp
   obtain⟨j,hj⟩:=hp;rw[List.getElem?_set]at hj;split at hj
   ·grind
   rename_i hij
   have:=h.own p<|List.mem_of_getElem? hj;refine⟨?_,this.2⟩;refine (hs.block p.1 (Pa this.1) ?_).trans this.1;have hne:=LQ h.desc hj hi λe=>hij e.symm;grind
  refine List.pairwise_iff_getElem.2 λa c ha hc hac => ?_;have ha':a<aL bs:=qK
  have hc':c<aL bs:=qK
  have e1:((bs.set i (b,o'))[a]' ha).1=(bs[a]).1:=qK
  have e2:((bs.set i (b,o'))[c]' hc).1=(bs[c]).1:=qK
  rw[e1,e2];exact List.pairwise_iff_getElem.1 h.desc a c ha' hc' hac
def Db{w:World}(h:w.heap[b]? = some (.cells cs T fz))(i:Nat):w.cell? ⟨b,i,none⟩=cs[i]? :=
  cell_of_row w b i cs T fz h
theorem FR.cell(h:FR w0 Ds bs w)(i:Nat){off:Nat}{v:Value}(hi:bs[i]? = some (b,.cells cs T fz))(hv:cs[off]? = some v) :
    w.cell? ⟨b,off,none⟩=some v:=(Db (h.heap hi) off).trans hv
end
end Go.Scarf
namespace Go.Scarf
open List renaming length->aL
open Go.RowKit
variable {x y:Code}{id t u:Nat}{v:Value}{w':World}{f:FuncId}{args:Array Value}
def Ic(s:Nat->Value)(d:Nat)(v:Value):Nat->Value:=λi=>bif Nat.beq i d then v else s i
def F1(s:Nat->Value):Option Nat->Value->Nat->Value
  | some d,v=>Ic s d v
  | none,_=>s
def ev(n:Nat)(s:Nat->Value):Operand->Value
  | .tmp t=>bif Nat.blt t n then s t else undef
  | .const v=>v
  | .global g=>.pointer (some ⟨g,0,none⟩)
  | .func f=>.func (.func f) #[] #[]
def Bi(n:Nat)(s:Nat->Value):Act:=⟨Array.ofFn (n:=n) λi=>s i.val,[]⟩
def Gh(s:Nat->Value):List (Nat × Value)->Nat->Value
  | []=>s
  | (d,v)::l=>Ic (Gh s l) d v
def AllEq(s:Nat->Value):List (Nat × Value)->Prop
  | []=>True
  | (d,v)::l=>s d=v/\AllEq s l
theorem P5(s:Nat->Value)(d:Nat)(v:Value)(h:s d=v):Ic s d v=s:=by
  funext i
  simp only[Ic];cases hi:Nat.beq i d with
  | true=>simp_all
  | false=>rfl
theorem AllEq.eq{s:Nat->Value}:∀{l:List (Nat × Value)},AllEq s l->s=Gh s l
  | [],_=>rfl
  | (d, v) :: l, h => by
    show s=Ic (Gh s l) d v;rw[<-AllEq.eq h.2,P5 s d v h.1]
theorem Ke(n:Nat)(s:Nat->Value)(t:Nat):(Bi n s).tmps.getD t undef=ev n s (.tmp t):=by
  simp only[Bi,ev];rw[Array.getD_eq_getD_getElem?,Array.getElem?_ofFn];by_cases h:t<n
  ·have ht : Nat.blt t n = true := by simp_all
   grind
  have : Nat.blt t n = false := by rw[Bool.eq_false_iff, ne_eq, Nat.blt_eq];exact h
  grind
def Ej(n:Nat)(s:Nat->Value):(Bi n s).eval=ev n s:=by
  funext x
  cases x with
  | tmp t=>exact Ke n s t
  | const v=>rfl
  | global g=>rfl
  | func f=>rfl
theorem Kh(n:Nat)(s:Nat->Value)(d:Option Nat)(v:Value):(Bi n s).put d v=Bi n (F1 s d v):=by
  cases d with
  | none=>rfl
  | some d =>
    simp only[Act.put,Bi,F1,Act.mk.injEq,and_true]
    ext i h1 h2
    ·simp
    simp only[Array.size_setIfInBounds, Array.size_ofFn]at h1;rw[Array.getElem_setIfInBounds,Array.getElem_ofFn]
    ·simp only[Array.getElem_ofFn, Ic]
     by_cases hd:d=i
     ·subst hd
      simp
     have:Nat.beq i d=false:=by
       rw[Bool.eq_false_iff];intro hh;simp_all
     grind
    grind
def C6(n:Nat)(args:Array Value)(h:args.size<=n) :
    ({ tmps:=args++Array.replicate (n-args.size) undef,defers:=[] }:Act)=Bi n (λi=>args.getD i undef):=by
  simp only[Bi,Act.mk.injEq,and_true]
  ext i h1 h2
  ·simp
   omega
  simp only[Array.size_append, Array.size_replicate]at h1;rw[Array.getElem_append,Array.getElem_ofFn];split
  ·simp[*]
  simp[*]
inductive Kt where
  | done
  | seq (y:Code) (k:Kt)
  | block (id:Nat) (k:Kt)
  | inv (n:Nat) (I:(Nat->Value)->World->Prop) (k:Kt)
def Kt.post(P:Program)(R:Exit->Act->World->Prop):Kt->Exit->Act->World->Prop
  | .done=>R
  | .seq y k=>Exit.then (y.wp P (Kt.post P R k)) (Kt.post P R k)
  | .block id k=>Exit.inBlock id (Kt.post P R k)
  | .inv n I k=>Exit.then (λa w=>∃s,a=Bi n s/\I s w) (Kt.post P R k)
def Kt.out(id:Nat):Kt->Option Kt
  | .done=>none
  | .seq _ k=>k.out id
  | .block id' k=>if id'=id then some k else k.out id
  | .inv _ _ k=>k.out id
section
variable (P:Program)(R:Exit->Act->World->Prop)(n:Nat)
def Cg(c:Code)(k:Kt)(s:Nat->Value)(w:World):Prop:=c.wp P (k.post P R) (Bi n s) w
def Eg(e:Exit)(k:Kt)(s:Nat->Value)(w:World):Prop:=k.post P R e (Bi n s) w
def Og(ops:List Oper)(k:Kt)(rest:List Oper)(s:Nat->Value)(w:World):Prop:=wpList P ops.toArray (k.post P R) rest (Bi n s) w
end
section
variable {P:Program}{R:Exit->Act->World->Prop}{n:Nat}{k:Kt}{s:Nat->Value}{w:World}
def Wi(h:Cg P R n x (.seq y k) s w):Cg P R n (.seq x y) k s w:=wp_seq h
def Ju{c:Code}(h:Cg P R n c (.block id k) s w):Cg P R n (.block id c) k s w:=wp_block h
def Gw(h:Eg P R n .normal k s w):Cg P R n .skip k s w:=wp_skip h
def Rf(h:Eg P R n .ret k s w):Cg P R n .ret k s w:=wp_ret h
def KN(h:Eg P R n (.exit id) k s w):Cg P R n (.exit id) k s w:=wp_exit h
def MQ{l:Nat}(h:Eg P R n .normal k s w):Cg P R n (.label l) k s w:=wp_label h
def Be{l:List Oper}(h:Og P R n l k l s w):Cg P R n (.region id l.toArray false) k s w:=wp_region_lit h
def L8{c:Operand}(hc:ev n s c=.bool true)(h:Cg P R n x k s w):Cg P R n (.cond c x y) k s w :=
  wp_cond_true (by rw[Ej];exact hc) h
def Zo{c:Operand}(hc:ev n s c=.bool false)(h:Cg P R n y k s w):Cg P R n (.cond c x y) k s w :=
  wp_cond_false (by rw[Ej];exact hc) h
def Vh(h:Cg P R n y k s w):Eg P R n .normal (.seq y k) s w:=h
def Dy(h:Eg P R n .normal k s w):Eg P R n .normal (.block id k) s w:=h
def Ha{I:(Nat->Value)->World->Prop}(h:I s w):Eg P R n .normal (.inv n I k) s w:=⟨s,rfl,h⟩
def BL(h:R .normal (Bi n s) w):Eg P R n .normal .done s w:=h
theorem Yd:∀{k:Kt},R .ret (Bi n s) w->Eg P R n .ret k s w
  | .done,h=>h
  | .seq _ k,h=>Yd (k:=k) h
  | .block _ k,h=>Yd (k:=k) h
  | .inv _ _ k,h=>Yd (k:=k) h
theorem Cr{id:Nat}:∀{k k':Kt},k.out id=some k'->Eg P R n .normal k' s w->Eg P R n (.exit id) k s w
  | .done,_,h,_=>by cases h
  | .seq _ k,_,h,g=>Cr (k:=k) h g
  | .block id' k, k', h, g => by
    simp only[Kt.out]at h;show (if id=id' then k.post P R .normal (Bi n s) w else k.post P R (.exit id) (Bi n s) w);by_cases hid:id'=id
    ·rw[if_pos hid]at h;rw[if_pos hid.symm]
     cases h;exact g
    rw[if_neg hid]at h;rw[if_neg λe => hid e.symm];exact Cr (k:=k) h g
  | .inv _ _ k,_,h,g=>Cr (k:=k) h g
def Sa{c:Code}(I:Nat->(Nat->Value)->World->Prop)(m:Nat)(h0:I m s w)
    (round:∀m s w,I m s w->Cg P R n c (.inv n (λs' w'=>∃m',m'<m/\I m' s' w') k) s w):Cg P R n (.loop c) k s w:=by
  intro b kk cs;have key:∀m s w,I m s w->∃e a' w',k.post P R e a' w'/\Arrives P (lone (b.at (Bi n s)<|.code c::.inLoop c::kk) cs w) b kk cs e a' w':=by
    intro m
    induction m using Nat.strongRecOn with
    | _ m ih =>
      intro s w hI;obtain⟨e,a₁,w₁,hq,harr⟩:=round m s w hI b (.inLoop c::kk) cs;cases e with
      | normal =>
        obtain⟨s₁,rfl,m',hlt,hI₁⟩:=hq;obtain⟨e₂,a₂,w₂,hq₂,harr₂⟩:=ih m' hlt s₁ w₁ hI₁;exact⟨e₂,a₂,w₂,hq₂,.of_steps (Steps.trans harr<|.one step_inLoop) harr₂⟩
      | exit id=>exact⟨_,a₁,w₁,hq,.pass (x:=.inLoop c) rfl (λ_ _=>.inl Da) harr⟩
      | goto l=>exact⟨_,a₁,w₁,hq,.pass (x:=.inLoop c) rfl (λ_ _=>.inl Da) harr⟩
      | ret=>exact⟨_,a₁,w₁,hq,.pass (x:=.inLoop c) rfl (λ_ _=>.inl Da) harr⟩
      | panic ch=>exact⟨_,a₁,w₁,hq,.pass (x:=.inLoop c) rfl (λ_ _=>.inl Da) harr⟩
      | outgrown=>exact⟨_,a₁,w₁,hq,.pass (x:=.inLoop c) rfl (λ_ _=>.inl Da) harr⟩
  obtain⟨e,a',w',hq,harr⟩:=key m s w h0;exact⟨e,a',w',hq,.of_steps (.one step_loop) harr⟩
def Eb{c:Code}(I:(Nat->Value)->World->Prop)(h:Cg P R n c (.inv n I k) s w)(hk:∀s w,I s w->Eg P R n .normal k s w):Cg P R n c k s w:=by
  refine Code.wp_mono (λe a w q=>?_) h;cases e with
  | normal =>
    obtain⟨s',rfl,hI⟩:=q;exact hk s' w hI
  | exit id=>exact q
  | goto l=>exact q
  | ret=>exact q
  | panic ch=>exact q
  | outgrown=>exact q
def Ka(ops:List Oper)(n:Nat)(s:Nat->Value)(o:Oper):Bool :=
  match o.guard with
  | none=>true
  | some (j, want) =>
    match (ops[j]?).bind (·.dst)with
    | some d => match ev n s (.tmp d)with
      | .bool b=>b==want
      | _=>false
    | none=>false
theorem wanted_eq(ops:List Oper)(n:Nat)(s:Nat->Value)(o:Oper):Region.wanted o (yielded ops.toArray (Bi n s).tmps)=Ka ops n s o:=by
  unfold Region.wanted Ka;cases hg:o.guard with
  | none=>rfl
  | some p =>
    obtain⟨j,want⟩:=p;simp only[yielded,List.getElem?_toArray];cases hd:(ops[j]?).bind (·.dst)with
    | none=>simp
    | some d =>
      simp only[Option.bind_some];have e:(Bi n s).tmps[d]? = if d<n then some (s d) else none:=by
        simp only[Bi];rw[Array.getElem?_ofFn];grind
      rw[e];simp only[ev];by_cases h:d<n
      ·rw[if_pos h, show Nat.blt d n = true by rw[Nat.blt_eq];exact h]
       grind
      have hf : Nat.blt d n = false := by rw[Bool.eq_false_iff, ne_eq, Nat.blt_eq];exact h
      rw[if_neg h,hf];simp[undef]
variable {ops rest:List Oper}{o:Oper}
def Fk(h:Eg P R n .normal k s w):Og P R n ops k [] s w:=h
variable {d:Nat}{dst:Option Nat}{op:Op}{ty:TypeId}{pos:String}{aft:Array Edge}{g:Option (Nat × Bool)}
def YN(hrun:(execOp (ev n s) o).run P w=.ok (.value v) w')(h:Og P R n ops k rest (F1 s o.dst v) w')(hw:Ka ops n s o=true) :
    Og P R n ops k (o::rest) s w:=by
  unfold Og wpList;rw[wanted_eq,if_pos hw];refine .inl ?_;unfold Oper.wp;rw[Ej,hrun,Oper.upon_value,Kh];exact h
def Ba(hrun:(execOp (ev n s) ⟨some d,op,ty,pos,aft,g⟩).run P w=.ok (.value v) w')(h:Og P R n ops k rest (Ic s d v) w')(hw:Ka ops n s ⟨some d,op,ty,pos,aft,g⟩=true:=by rfl) :
    Og P R n ops k (⟨some d,op,ty,pos,aft,g⟩::rest) s w:=YN hrun h hw
def Z0(hrun:(execOp (ev n s) ⟨none,op,ty,pos,aft,g⟩).run P w=.ok .skip w')(h:Og P R n ops k rest s w')(hw:Ka ops n s ⟨none,op,ty,pos,aft,g⟩=true:=by rfl) :
    Og P R n ops k (⟨none,op,ty,pos,aft,g⟩::rest) s w:=by
  unfold Og wpList;rw[wanted_eq,if_pos hw];refine .inl ?_;unfold Oper.wp;rw[Ej,hrun,Oper.upon_skip,Kh];exact h
def VQ(h:Og P R n ops k rest (Ic s d undef) w)(hw:Ka ops n s ⟨some d,op,ty,pos,aft,g⟩=false:=by rfl):Og P R n ops k (⟨some d,op,ty,pos,aft,g⟩::rest) s w:=by
  unfold Og wpList;rw[wanted_eq,hw,Kh];exact h
def o_offn(h:Og P R n ops k rest s w)(hw:Ka ops n s ⟨none,op,ty,pos,aft,g⟩=false:=by rfl):Og P R n ops k (⟨none,op,ty,pos,aft,g⟩::rest) s w:=by
  unfold Og wpList;rw[wanted_eq,hw,Kh];exact h
def Za(Q:Value->World->Prop):Ending->World->Prop:=λe w=>∃v,e=.returned v/\Q v w
def W6{Q:Value->World->Prop}(hrun:(execOp (ev n s) o).run P w=.ok (.enter f args) w')(hc:Calls P f args w' (Za Q))
    (h:∀v w'',Q v w''->Og P R n ops k rest (F1 s o.dst v) w'') (hw:Ka ops n s o=true):Og P R n ops k (o::rest) s w:=by
  unfold Og wpList;rw[wanted_eq,if_pos hw];refine .inl ?_;unfold Oper.wp;rw[Ej,hrun,Oper.upon_enter];refine hc.mono λe w'' ⟨v,he,hq⟩=>?_;subst he;show wpList P ops.toArray (k.post P R) rest ((Bi n s).put o.dst v) w'';rw[Kh];exact h v w'' hq
def Xb{Q:Value->World->Prop}(hc:Calls P f args w' (Za Q))(hrun:(execOp (ev n s) ⟨some d,op,ty,pos,aft,g⟩).run P w=.ok (.enter f args) w')
    (h:∀v w'',Q v w''->Og P R n ops k rest (Ic s d v) w'') (hw:Ka ops n s ⟨some d,op,ty,pos,aft,g⟩=true:=by rfl):Og P R n ops k (⟨some d,op,ty,pos,aft,g⟩::rest) s w:=W6 hrun hc h hw
end
section
variable {P:Program}{n:Nat}{s:Nat->Value}{w:World}{Q:Value->World->Prop}{fn:Func}
def Yl{c:Code}{Q:Value->World->Prop}{l:List (Nat × Value)}(hf:P.funcs[f]? = some fn)(hb:fn.body=some c)(hn:fn.ntmps=n)(hsz:args.size<=n)
    (hs:∀i,args.getD i undef=Gh (λ_=>undef) l i)
    (h:Cg P (bodyPost P fn (Za Q)) n c .done (Gh (λ_=>undef) l) w):Calls P f args w (Za Q):=by
  refine calls_of_wp hf hb ?_;rw[hn,C6 n args hsz,show (λi=>args.getD i undef)=Gh (λ_=>undef) l from funext hs];exact h
theorem args_0:∀i,(#[]:Array Value).getD i undef=Gh (λ_=>undef) [] i:=by grind [Gh]
def BN(a:Value):∀i,(#[a]:Array Value).getD i undef=Gh (λ_=>undef) [(0,a)] i:=λi=>by
  rcases i with _|i
  ·rfl
  simp[Gh,Ic,Array.getD,Nat.beq];try exact λh=>absurd h Aa
theorem YK(a b:Value):∀i,(#[a,b]:Array Value).getD i undef=Gh (λ_=>undef) [(0,a),(1,b)] i:=λi=>by
  rcases i with _|_|i
  ·rfl
  ·rfl
  simp[Gh, Ic, Array.getD, Nat.beq];grind
theorem KZ(a b c:Value):∀i,(#[a,b,c]:Array Value).getD i undef=Gh (λ_=>undef) [(0,a),(1,b),(2,c)] i:=λi=>by
  rcases i with _|_|_|i
  ·rfl
  ·rfl
  ·rfl
  simp[Gh, Ic, Array.getD, Nat.beq];grind
theorem args_4(a b c d:Value):∀i,(#[a,b,c,d]:Array Value).getD i undef=Gh (λ_=>undef) [(0,a),(1,b),(2,c),(3,d)] i:=λi=>by
  rcases i with _|_|_|_|i
  ·rfl
  ·rfl
  ·rfl
  ·rfl
  simp[Gh, Ic, Array.getD, Nat.beq];grind
theorem args_5(a b c d e:Value):∀i,(#[a,b,c,d,e]:Array Value).getD i undef=Gh (λ_=>undef) [(0,a),(1,b),(2,c),(3,d),(4,e)] i:=λi=>by
  rcases i with _|_|_|_|_|i
  ·rfl
  ·rfl
  ·rfl
  ·rfl
  ·rfl
  simp[Gh, Ic, Array.getD, Nat.beq];grind
def Nc(hr:(results fn (Bi n s).tmps).run P w=.ok v w)(h:Q v w):bodyPost P fn (Za Q) .ret (Bi n s) w:=⟨rfl,v,hr,v,rfl,h⟩
def XF(hr:(results fn (Bi n s).tmps).run P w=.ok v w)(h:Q v w):bodyPost P fn (Za Q) .normal (Bi n s) w:=⟨rfl,v,hr,v,rfl,h⟩
def OP(h:fn.results=#[]):(results fn (Bi n s).tmps).run P w=.ok (.tuple #[]) w:=results_none h _ P w
def JP(h:fn.results=#[.tmp t])(hv:ev n s (.tmp t)=v):(results fn (Bi n s).tmps).run P w=.ok v w:=by rw[results_tmp h,Ke,hv]
def UZ{x:Value}(h:fn.results=#[.tmp t,.tmp u])(hv:ev n s (.tmp t)=v)(hx:ev n s (.tmp u)=x):(results fn (Bi n s).tmps).run P w=.ok (.tuple #[v,x]) w:=by rw[results_tmp2 h,Ke,Ke,hv,hx]
theorem res_3{r:Nat}{x y:Value}(h:fn.results=#[.tmp t,.tmp u,.tmp r])(hv:ev n s (.tmp t)=v)(hx:ev n s (.tmp u)=x)(hy:ev n s (.tmp r)=y) :
    (results fn (Bi n s).tmps).run P w=.ok (.tuple #[v,x,y]) w:=by
  have:(results fn (Bi n s).tmps).run P w=.ok (.tuple #[(Bi n s).tmps.getD t undef,(Bi n s).tmps.getD u undef,(Bi n s).tmps.getD r undef]) w:=by simp[results,h]
  grind [Ke]
end
attribute [irreducible] Cg Eg Og
end Go.Scarf
namespace Go.Scarf
open List renaming length->aL
open Go.RowKit
variable {o oi oj:Oper}{a:Act}{K K':Act->World->Prop}{v:Value}{j:Nat}{w':World}
section
variable {P:Program}{md:Region.Mode}{ops:Array Oper}
def StepN(P:Program)(o:Oper)(a:Act)(w:World)(K:Act->World->Prop):Prop :=
  match (execOp a.eval o).run P w with
  | .ok (.value v) w'=>K (a.put o.dst v) w'
  | .ok .skip w'=>K (a.put o.dst undef) w'
  | .ok (.enter f args) w'=>Calls P f args w' (Za λv w''=>K (a.put o.dst v) w'')
  | _=>False
def opStep(P:Program)(ops:Array Oper)(i:Nat)(K:Act->World->Prop)(a:Act)(w:World):Prop :=
  match ops[i]? with
  | none=>K a w
  | some o=>if Region.wanted o (yielded ops a.tmps) then StepN P o a w K else K (a.put o.dst undef) w
theorem StepN.mono{w:World}(h:∀a w,K a w->K' a w)(hh:StepN P o a w K):StepN P o a w K':=by
  unfold StepN at *;generalize (execOp a.eval o).run P w=r at *;cases r with
  | ok n w' =>
    cases n <;> simp only[]at hh ⊢
    case value v=>exact h _ _ hh
    case skip=>exact h _ _ hh
    case enter f args=>exact hh.mono λe w'' ⟨v,he,hk⟩=>⟨v,he,h _ _ hk⟩
  | halt x w'=>grind
theorem opStep.mono{i:Nat}{w:World}(h:∀a w,K a w->K' a w)(hh:opStep P ops i K a w):opStep P ops i K' a w:=by
  unfold opStep at *;cases hi:ops[i]? with
  | none=>grind
  | some o =>
    simp only[hi]at hh ⊢;by_cases hw:Region.wanted o (yielded ops a.tmps)=true
    ·rw[if_pos hw]at hh ⊢
     exact hh.mono h
    grind
theorem T5{i:Nat}{w:World}{Q:Exit->Act->World->Prop}(h:∀a w,K a w->K' a w)(hh:opStep P ops i K a w):wpOp P ops Q i K' a w:=by
  unfold opStep at hh;unfold wpOp;cases hi:ops[i]? with
  | none=>grind
  | some o =>
    simp only[hi]at hh ⊢;by_cases hw:Region.wanted o (yielded ops a.tmps)=true
    ·rw[if_pos hw]at hh ⊢
     refine .inl ?_;unfold StepN at hh;unfold Oper.wp;generalize (execOp a.eval o).run P w=r at *;cases r with
     | ok n w' =>
       cases n <;> simp only[]at hh
       case value v=>rw[Oper.upon_value];exact h _ _ hh
       case skip=>rw[Oper.upon_skip];exact h _ _ hh
       case enter f args =>
         rw[Oper.upon_enter];exact hh.mono λe w'' ⟨v,he,hk⟩=>by subst he;exact h _ _ hk
     | halt x w'=>grind
    grind
structure Lt where
  l:List Nat
  D:World->Prop
  ps:List Nat
def Lt.contains(z:Lt)(i:Nat):Bool:=z.l.contains i
@[reducible] def Lt.of (l:List Nat):Lt:=⟨l,λ_=>True,[]⟩
instance : Coe (List Nat) Lt:=⟨Lt.of⟩
def W3(P:Program)(md:Region.Mode)(ops:Array Oper)(zs:Lt)(Q:Act->World->Prop):Nat->(World->Prop)->Array Bool->Act->World->Prop
  | 0,_,listed,a,w=>Region.ready md ops listed=[]/\Q a w
  | fuel + 1, C, listed, a, w => C w /\ (Region.ready md ops listed = [] -> Q a w) /\
    ∀i∈Region.ready md ops listed,opStep P ops i (λa' w'=>if zs.contains i then zs.D w'/\W3 P md ops zs Q fuel zs.D (listed.setIfInBounds i true) a' w' else C w'/\W3 P md ops zs Q fuel C (listed.setIfInBounds i true) a' w') a w
theorem Sm{zs:Lt}{Q:Act->World->Prop}{Q':Exit->Act->World->Prop}(hq:∀a w,Q a w->Q' .normal a w) :
    ∀(fuel:Nat)(C:World->Prop)(listed:Array Bool)(a:Act)(w:World),W3 P md ops zs Q fuel C listed a w->wpAny P md ops Q' fuel listed a w
  | 0,_,_,_,_,h=>⟨h.1,hq _ _ h.2⟩
  | fuel+1,C,_,_,_,h=>⟨λh0=>hq _ _<|h.2.1 h0,λi hi=>T5 (λa' w' hh=>by
      by_cases hz:zs.contains i=true
      ·rw[if_pos hz]at hh;exact Sm hq fuel _ _ a' w' hh.2
      rw[if_neg hz]at hh;exact Sm hq fuel _ _ a' w' hh.2)<|h.2.2 i hi⟩
theorem ZE{C C':World->Prop}{zs:Lt}{Q:Act->World->Prop}(hc:∀w,C' w->C w) :
    ∀(fuel:Nat)(listed:Array Bool)(a:Act)(w:World),W3 P md ops zs Q fuel C' listed a w->W3 P md ops zs Q fuel C listed a w
  | 0,_,_,_,h=>h
  | fuel+1,_,_,_,h=>⟨hc _ h.1,h.2.1,λi hi=>(h.2.2 i hi).mono λa' w' hh=>by
      by_cases hz:zs.contains i=true
      ·rw[if_pos hz]at hh ⊢;exact hh
      rw[if_neg hz]at hh ⊢;exact⟨hc _ hh.1,ZE hc fuel _ a' w' hh.2⟩⟩
def YieldsC(P:Program)(ops:Array Oper)(C:World->Prop)(o:Oper)(v:Value)(a:Act):Prop :=
  (Region.wanted o (yielded ops a.tmps)=true/\∀w,C w->(execOp a.eval o).run P w=.ok (.value v) w) \/
  (Region.wanted o (yielded ops a.tmps)=false/\v=undef)
theorem YieldsC.step{C:World->Prop}{i:Nat}{w:World}(hi:ops[i]? = some o)(hy:YieldsC P ops C o v a)(hw:C w)
     (h:K (a.put o.dst v) w):opStep P ops i K a w:=by
  unfold opStep;simp only[hi];rcases hy with ⟨hg,hv⟩|⟨hg,rfl⟩
  ·grind [StepN]
  grind
theorem YieldsC.of_same{C:World->Prop}{a':Act}(hy:YieldsC P ops C o v a)(he:execOp a'.eval o=execOp a.eval o)
    (hw:Region.wanted o (yielded ops a'.tmps)=Region.wanted o (yielded ops a.tmps)):YieldsC P ops C o v a':=by grind [YieldsC]
theorem Kw{C:World->Prop}(hj:ops[j]? = some oj)(hap:oi.apart ops oj=true)
    (hsi:∀cs b,oi.op≠.select cs b) (hsj:∀cs b,oj.op≠.select cs b)   {w:World}
    (hy:YieldsC P ops C oi v a) (h:opStep P ops j K (a.put oi.dst v) w) :
    opStep P ops j (λa' w'=>YieldsC P ops C oi v a'/\K (a'.put oi.dst v) w') a w:=by
  obtain⟨h1,h2,h3⟩:=Oper.apart_spec hap;have keep:∀(a:Act),YieldsC P ops C oi v a->∀u,YieldsC P ops C oi v (a.put oj.dst u):=λa hy u =>
    hy.of_same (execOp_put oi hsi a oj.dst u h3) (wanted_put oi a oj.dst u h3)
  unfold opStep at *;simp only[hj]at *;rw[wanted_put oj a oi.dst v h1]at h;split
  ·rename_i hw
   simp only[hw,if_true]at h;unfold StepN at *;rw[execOp_put oj hsj a oi.dst v h1]at h;generalize (execOp a.eval oj).run P w=r at *;cases r with
   | ok n w' =>
     cases n <;> simp only[]at h ⊢
     case value u=>exact⟨keep a hy u,by rw[<-Act.put_comm a v u h2];exact h⟩
     case skip=>exact⟨keep a hy _,by rw[<-Act.put_comm a v undef h2];exact h⟩
     case enter f args=>exact h.mono λe w'' ⟨u,he,hk⟩=>⟨u,he,keep a hy u,by rw[<-Act.put_comm a v u h2];exact hk⟩
   | halt x w'=>grind
  rename_i hw
  simp only[hw]at h;exact⟨keep a hy _,by rw[<-Act.put_comm a v undef h2];exact h⟩
theorem HH{C:World->Prop}(hj:ops[j]? = some oj)(hap:oi.apart ops oj=true)
    (hsi:∀cs b,oi.op≠.select cs b) (hsj:∀cs b,oj.op≠.select cs b)   {w:World}
    (hy:YieldsC P ops C oi v a) (h:opStep P ops j K a w):opStep P ops j (λa' w'=>YieldsC P ops C oi v a'/\K a' w') a w:=by
  obtain⟨h1,h2,h3⟩:=Oper.apart_spec hap;have keep:∀(a:Act),YieldsC P ops C oi v a->∀u,YieldsC P ops C oi v (a.put oj.dst u):=λa hy u =>
    hy.of_same (execOp_put oi hsi a oj.dst u h3) (wanted_put oi a oj.dst u h3)
  unfold opStep at *;simp only[hj]at *;grind [StepN]
def OT{zs:Lt}{Q:Act->World->Prop}{i:Nat}(hi:ops[i]? = some oi)(hsel:∀(j:Nat) (o:Oper) cs b,ops[j]? = some o->o.op≠.select cs b)
    (hiz:¬zs.contains i=true) :
    ∀(fuel : Nat)(C : World -> Prop)(listed : Array Bool)(a : Act)(w : World),
      (∀j oj,ops[j]? = some oj->j≠i->listed.getD j true=false->(∀e∈oj.after,Region.binds md e=true->e.on≠i)->oi.apart ops oj=true) ->
      (∀z oz,zs.contains z=true->ops[z]? = some oz->listed.getD z true=false->(∃e∈oz.after,Region.binds md e=true/\e.on=i)\/zs.ps.contains i=true) ->
      i∈Region.ready md ops listed->YieldsC P ops C oi v a->(zs.ps.contains i=true->YieldsC P ops zs.D oi v a)->C w ->
      W3 P md ops zs Q fuel C (listed.setIfInBounds i true) (a.put oi.dst v) w->W3 P md ops zs Q (fuel+1) C listed a w:=by
  intro fuel
  induction fuel with
  | zero =>
    intro C listed a w _ _ hr hy _ hw H;refine⟨hw,λh=>(by rw[h]at hr;cases hr),λj hj=>?_⟩;by_cases hji:j=i
    ·subst hji
     exact hy.step hi hw (by rw[if_neg hiz];exact⟨hw,H⟩)
    have := ready_mono hj hji;rw[H.1]at this;cases this
  | succ fuel ih =>
    intro C listed a w hfree hz hr hy hyD hw H;refine⟨hw,λh=>(by rw[h]at hr;cases hr),λj hj=>?_⟩;by_cases hji:j=i
    ·subst hji
     exact hy.step hi hw (by rw[if_neg hiz];exact⟨hw,H⟩)
    have h1 := H.2.2 j (ready_mono hj hji);obtain⟨hjun,oj,hoj,hall⟩:=mem_ready.1 hj;have hnot:∀e∈oj.after,Region.binds md e=true->e.on≠i:=λe he hb heq=>by
      have h1:=hall e he hb;have h0:=(mem_ready.1 hr).1;rw[heq]at h1;rcases Nat.lt_or_ge i listed.size with h'|h'
      ·simp[h']at h0 h1;rw[h0]at h1;cases h1
      simp[Array.getElem?_eq_none h']at h1
    have hap:=hfree j oj hoj hji hjun hnot;have hun':∀k,(listed.setIfInBounds j true).getD k true=false->listed.getD k true=false:=λk hun=>by
      by_cases hjk:j=k
      ·subst hjk;exact hjun
      rw[getD_set_ne true hjk]at hun;exact hun
    have hfree':∀k ok,ops[k]? = some ok->k≠i->(listed.setIfInBounds j true).getD k true=false ->
        (∀e∈ok.after,Region.binds md e=true->e.on≠i)->oi.apart ops ok=true:=λk ok hk hki hun hno=>hfree k ok hk hki (hun' k hun) hno
    have hz':∀z oz,zs.contains z=true->ops[z]? = some oz->(listed.setIfInBounds j true).getD z true=false->(∃e∈oz.after,Region.binds md e=true/\e.on=i)\/zs.ps.contains i=true:=λz oz hm ho hun=>hz z oz hm ho<|hun' z hun;have hsi:=λcs b=>hsel i oi cs b hi;have hsj:=λcs b=>hsel j oj cs b hoj;by_cases hjz:zs.contains j=true
    ·have hps:zs.ps.contains i=true:=by
       rcases hz j oj hjz hoj hjun with ⟨e,he,hb,hon⟩|h
       ·exact absurd hon<|hnot e he hb
       exact h
     refine opStep.mono (λa' w' h3=>?_)<|Kw hoj hap hsi hsj (hyD hps) h1;obtain⟨hy',h4⟩:=h3;rw[if_pos hjz]at h4 ⊢;refine⟨h4.1,ih zs.D (listed.setIfInBounds j true) a' w' hfree' hz' (ready_mono hr<|Ne.symm hji) hy' (λ_=>hy') h4.1 ?_⟩;rw[Array.setIfInBounds_comm _ _ hji];exact h4.2
    have hk:opStep P ops j (λa' w'=>YieldsC P ops C oi v a'/\(zs.ps.contains i=true->YieldsC P ops zs.D oi v a')/\(if zs.contains j then zs.D w'/\W3 P md ops zs Q fuel zs.D ((listed.setIfInBounds i true).setIfInBounds j true) (a'.put oi.dst v) w' else C w'/\W3 P md ops zs Q fuel C ((listed.setIfInBounds i true).setIfInBounds j true) (a'.put oi.dst v) w')) a w:=by
      by_cases hps:zs.ps.contains i=true
      ·have h2 := Kw hoj hap hsi hsj hy h1
       exact (HH hoj hap hsi hsj (hyD hps) h2).mono λa' w' h=>⟨h.2.1,λ_=>h.1,h.2.2⟩
      exact (Kw hoj hap hsi hsj hy h1).mono λa' w' h=>⟨h.1,λh'=>absurd h' hps,h.2⟩
    refine opStep.mono (λa' w' h3=>?_) hk;obtain⟨hy',hyD',h4⟩:=h3;rw[if_neg hjz]at h4 ⊢;obtain⟨hcz,hrest⟩:=h4;refine⟨hcz,ih C (listed.setIfInBounds j true) a' w' hfree' hz' (ready_mono hr<|Ne.symm hji) hy' hyD' hcz ?_⟩;rw[Array.setIfInBounds_comm _ _ hji];exact hrest
end
inductive Ord where
  | nil
  | free (i:Nat) (r:Ord)
  | act (i:Nat) (r:Ord)
  | alt (i:Nat) (r:Ord) (s:Ord)
  | goto (L:Array Bool) (m:Nat)
def Ord.heads:Ord->List Nat
  | .act i _=>[i]
  | .alt i _ s=>i::s.heads
  | _=>[]
def Ord.depth:Ord->Nat
  | .nil=>0
  | .free _ r=>r.depth+1
  | .act _ r=>r.depth+1
  | .alt _ r _=>r.depth+1
  | .goto _ _=>0
def Oj(md:Region.Mode)(ops:Array Oper)(zs:Lt):Bool->Nat->Ord->Array Bool->Bool
  | _,n,.nil,listed=>n==0&&(Region.ready md ops listed).isEmpty
  | _,n,.free i rest,listed=>n != 0&&(Region.ready md ops listed).contains i&&Region.free md ops listed i && !zs.contains i &&
      (zs.ps.contains i || zs.l.all (λz=>listed.getD z true || match ops[z]? with|some oz=>oz.after.any (λe=>Region.binds md e&&e.on==i)|none=>true))&&Oj md ops zs true (n-1) rest (listed.setIfInBounds i true)
  | top,n,.act i rest,listed=>n != 0&&(!top || Region.ready md ops listed==[i])&&Oj md ops zs true (n-1) rest (listed.setIfInBounds i true)
  | top,n,.alt i rest s,listed=>n != 0&&(!top || Region.ready md ops listed==i::s.heads)&&Oj md ops zs true (n-1) rest (listed.setIfInBounds i true)&&Oj md ops zs false n s listed
  | _,n,.goto L m,listed=>n==m&&listed.toList==L.toList
def Dk(b:Bool)(D C:World->Prop)(next:(World->Prop)->World->Prop)(w:World):Prop :=
  if b then D w/\next D w else ∃C':World->Prop,(∀x,C' x->C x)/\C' w/\next C' w
section
variable (P:Program)(n:Nat)(ops:List Oper)(zs:Lt)(Q:Act->World->Prop)
def YQ(i:Nat)(next:(World->Prop)->(Nat->Value)->World->Prop)(C:World->Prop)(s:Nat->Value)(w:World):Prop :=
  match ops[i]? with
    | none=>False
    | some o =>
      if Ka ops n s o then
        match (execOp (ev n s) o).run P w with
        | .ok (.value v) w'=>Dk (zs.contains i) zs.D C (λC'=>next C' (F1 s o.dst v)) w'
        | .ok .skip w'=>Dk (zs.contains i) zs.D C (λC'=>next C' (F1 s o.dst undef)) w'
        | .ok (.enter f args) w'=>Calls P f args w' (Za λv w''=>Dk (zs.contains i) zs.D C (λC'=>next C' (F1 s o.dst v)) w'')
        | _=>False
      else Dk (zs.contains i) zs.D C (λC'=>next C' (F1 s o.dst undef)) w
def Dw:Ord->(C:World->Prop)->(Nat->Value)->World->Prop
  | .nil,_,s,w=>Q (Bi n s) w
  | .free i rest, C, s, w => match ops[i]? with
    | none=>False
    | some o=>∃v,((Ka ops n s o=true/\(∀w,C w->(execOp (ev n s) o).run P w=.ok (.value v) w)/\(zs.ps.contains i=true->∀w,zs.D w->(execOp (ev n s) o).run P w=.ok (.value v) w))\/(Ka ops n s o=false/\v=undef))/\Dw rest C (F1 s o.dst v) w
  | .act i rest,C,s,w=>YQ P n ops zs i (Dw rest) C s w
  | .alt i rest s',C,s,w=>YQ P n ops zs i (Dw rest) C s w/\Dw s' C s w
  | .goto L m,C,s,w=>W3 P .any ops.toArray zs Q m C L (Bi n s) w
end
section
variable {P:Program}{n:Nat}{ops:List Oper}{Q:Act->World->Prop}{zs:Lt}
def Yu{m:Nat}{next:(World->Prop)->(Nat->Value)->World->Prop}{C:World->Prop}{listed:Array Bool}{s:Nat->Value}{w:World}
    (ih:∀C' s' w',C' w'->next C' s' w'->W3 P .any ops.toArray zs Q m C' (listed.setIfInBounds j true) (Bi n s') w') (h:YQ P n ops zs j next C s w) :
    opStep P ops.toArray j (λa' w'=>if zs.contains j then zs.D w'/\W3 P .any ops.toArray zs Q m zs.D (listed.setIfInBounds j true) a' w' else C w'/\W3 P .any ops.toArray zs Q m C (listed.setIfInBounds j true) a' w') (Bi n s) w:=by
  unfold YQ at h;cases ho:ops[j]? with
  | none =>
    rw[ho]at h;exact h.elim
  | some o =>
    rw[ho]at h;have hoA:ops.toArray[j]? = some o:=aS ho
    have fin:∀(s':Nat->Value)(w':World),Dk (zs.contains j) zs.D C (λC'=>next C' s') w' ->
        (if zs.contains j then zs.D w'/\W3 P .any ops.toArray zs Q m zs.D (listed.setIfInBounds j true) (Bi n s') w' else C w'/\W3 P .any ops.toArray zs Q m C (listed.setIfInBounds j true) (Bi n s') w'):=by
      intro s' w' hh;unfold Dk at hh;by_cases hz:zs.contains j=true
      ·rw[if_pos hz]at hh ⊢
       exact⟨hh.1,ih _ _ w' hh.1 hh.2⟩
      rw[if_neg hz]at hh ⊢;obtain⟨C',hsub,hC',hD⟩:=hh;exact⟨hsub _ hC',ZE hsub _ _ _ _<|ih C' _ w' hC' hD⟩
    unfold opStep;simp only[hoA];rw[wanted_eq];simp only[]at h;split
    ·rename_i hw1
     rw[if_pos hw1]at h;unfold StepN;rw[Ej];generalize (execOp (ev n s) o).run P w=r at *;cases r with
     | ok nx w' =>
       cases nx <;> simp only[]at h ⊢
       case value v=>rw[Kh];exact fin _ _ h
       case skip=>rw[Kh];exact fin _ _ h
       case enter f args=>exact h.mono λe w'' ⟨v,he,hk⟩=>⟨v,he,by dsimp only;rw[Kh];exact fin _ _ hk⟩
     | halt x w'=>simp only[]at h
    rename_i hw1
    rw[if_neg hw1]at h;rw[Kh];exact fin _ _ h
theorem Mn(hs:Region.noSelect ops.toArray=true):∀(order:Ord),
    (∀(m:Nat)(C:World->Prop)(listed:Array Bool)(s:Nat->Value)(w:World),Oj .any ops.toArray zs true m order listed=true->C w->Dw P n ops zs Q order C s w->W3 P .any ops.toArray zs Q m C listed (Bi n s) w) /\
    (∀(m:Nat)(C:World->Prop)(listed:Array Bool)(s:Nat->Value)(w:World),Oj .any ops.toArray zs false m order listed=true->Dw P n ops zs Q order C s w->∀j∈order.heads,
      opStep P ops.toArray j (λa' w'=>if zs.contains j then zs.D w'/\W3 P .any ops.toArray zs Q (m-1) zs.D (listed.setIfInBounds j true) a' w' else C w'/\W3 P .any ops.toArray zs Q (m-1) C (listed.setIfInBounds j true) a' w') (Bi n s) w)
  | .nil=>⟨λm C listed s w hB _ h=>by
      simp only[Oj,Bool.and_eq_true,beq_iff_eq]at hB;obtain⟨rfl,hB⟩:=hB;exact⟨by simpa using hB,h⟩,λm C listed s w _ _ j hj=>by cases hj⟩
  | .goto L m'=>⟨λm C listed s w hB _ h=>by
      simp only[Oj,Bool.and_eq_true,beq_iff_eq]at hB;obtain⟨rfl,hB⟩:=hB;obtain rfl:listed=L:=Array.toList_inj.1 hB;exact h,λm C listed s w _ _ j hj=>by cases hj⟩
  | .free i rest=>⟨λm C listed s w hB hw h=>by
      simp only[Oj,Bool.and_eq_true]at hB;obtain⟨⟨⟨⟨⟨hm,hr⟩,hf⟩,hiz⟩,hzz⟩,hrest⟩:=hB;obtain⟨m,rfl⟩:∃q,m=q+1:=⟨m-1,by have:m≠0:=(aS hm);omega⟩;unfold Dw at h;cases ho:ops[i]? with
      | none=>rw[ho]at h;exact h.elim
      | some o =>
        rw[ho]at h;obtain⟨v,hy,hD⟩:=h;have hoA:ops.toArray[i]? = some o:=aS ho
        have hyC:YieldsC P ops.toArray C o v (Bi n s):=by
          unfold YieldsC;rw[wanted_eq,Ej];exact hy.imp (λh=>⟨h.1,h.2.1⟩) id
        have hyD:zs.ps.contains i=true->YieldsC P ops.toArray zs.D o v (Bi n s):=λhp=>by
          unfold YieldsC;rw[wanted_eq,Ej];exact hy.imp (λh=>⟨h.1,h.2.2 hp⟩) id
        refine OT hoA (Region.noSelect_spec hs) (aS hiz) m C listed (Bi n s) w (Region.free_spec hoA hf) (λz oz hm hoz hun=>?_) (aS hr) hyC hyD hw ?_
        ·rcases Bool.or_eq_true_iff.1 hzz with hp|hzz
         ·exact .inr hp
         have hzz := List.all_eq_true.1 hzz z (by unfold Lt.contains at hm;simpa using hm);rw[hun,hoz]at hzz;simp only[Bool.false_or,Array.any_eq_true']at hzz;obtain⟨e,he,hh⟩:=hzz;simp only[Bool.and_eq_true,beq_iff_eq]at hh;exact .inl ⟨e,he,hh.1,hh.2⟩
        rw[Kh];exact (Mn hs rest).1 m C _ _ w hrest hw hD,λm C listed s w _ _ j hj=>by cases hj⟩
  | .act i rest => by
    have key:∀(top:Bool)(m:Nat)(C:World->Prop)(listed:Array Bool)(s:Nat->Value)(w:World),Oj .any ops.toArray zs top m (.act i rest) listed=true->Dw P n ops zs Q (.act i rest) C s w ->
        opStep P ops.toArray i (λa' w'=>if zs.contains i then zs.D w'/\W3 P .any ops.toArray zs Q (m-1) zs.D (listed.setIfInBounds i true) a' w' else C w'/\W3 P .any ops.toArray zs Q (m-1) C (listed.setIfInBounds i true) a' w') (Bi n s) w:=by
      intro top m C listed s w hB h;simp only[Oj,Bool.and_eq_true]at hB;obtain⟨⟨hm,hr⟩,hrest⟩:=hB;unfold Dw at h;exact Yu (λC' s' w' hC' hD=>(Mn hs rest).1 (m-1) C' _ s' w' hrest hC' hD) h
    refine⟨λm C listed s w hB hw h=>?_,λm C listed s w hB h j hj=>?_⟩
    ·have h1 := key true m C listed s w hB h
     simp only[Oj,Bool.and_eq_true]at hB;obtain⟨⟨hm,hr⟩,hrest⟩:=hB;obtain⟨m,rfl⟩:∃q,m=q+1:=⟨m-1,by have:m≠0:=(aS hm);omega⟩;have hr':Region.ready .any ops.toArray listed=[i]:=aS hr
     refine⟨hw,λh0=>(by rw[h0]at hr';cases hr'),λj hj=>?_⟩;rw[hr']at hj;obtain rfl:j=i:=aS hj
     exact h1
    obtain rfl : j = i := by simpa[Ord.heads]using hj
    exact key false m C listed s w hB h
  | .alt i rest so => by
    have key:∀(top:Bool)(m:Nat)(C:World->Prop)(listed:Array Bool)(s:Nat->Value)(w:World),Oj .any ops.toArray zs top m (.alt i rest so) listed=true->Dw P n ops zs Q (.alt i rest so) C s w->∀j∈(Ord.alt i rest so).heads,
        opStep P ops.toArray j (λa' w'=>if zs.contains j then zs.D w'/\W3 P .any ops.toArray zs Q (m-1) zs.D (listed.setIfInBounds j true) a' w' else C w'/\W3 P .any ops.toArray zs Q (m-1) C (listed.setIfInBounds j true) a' w') (Bi n s) w:=by
      intro top m C listed s w hB h j hj;simp only[Oj,Bool.and_eq_true]at hB;obtain⟨⟨⟨hm,hr⟩,hrest⟩,hso⟩:=hB;unfold Dw at h;rcases List.mem_cons.1 hj with rfl|hj
      ·exact Yu (λC' s' w' hC' hD=>(Mn hs rest).1 (m-1) C' _ s' w' hrest hC' hD) h.1
      exact (Mn hs so).2 m C listed s w hso h.2 j hj
    refine⟨λm C listed s w hB hw h=>?_,λm C listed s w hB h=>key false m C listed s w hB h⟩;have h1:=key true m C listed s w hB h;simp only[Oj,Bool.and_eq_true]at hB;obtain⟨⟨⟨hm,hr⟩,hrest⟩,hso⟩:=hB;obtain⟨m,rfl⟩:∃q,m=q+1:=⟨m-1,by have:m≠0:=(aS hm);omega⟩;have hr':Region.ready .any ops.toArray listed=i::so.heads:=aS hr
    refine⟨hw,λh0=>(by rw[h0]at hr';cases hr'),λj hj=>?_⟩;rw[hr']at hj;exact h1 j hj
end
section
variable {P:Program}{R:Exit->Act->World->Prop}{n:Nat}{k:Kt}{s:Nat->Value}{w:World}{ops:List Oper}{zs:Lt}
def Dg(P:Program)(R:Exit->Act->World->Prop)(n:Nat)(ops:List Oper)(k:Kt)(zs:Lt)(order:Ord)(C:World->Prop)(s:Nat->Value)(w:World):Prop :=
  Dw P n ops zs (λa w=>k.post P R .normal a w) order C s w
theorem IN{id:Nat}(order:Ord)(zs:Lt)(C:World->Prop)(hm:P.follows .mixedOrders=true)(hs:Region.noSelect ops.toArray=true)
    (hB:Oj .any ops.toArray zs true ops.toArray.size order (Array.replicate ops.toArray.size false)=true) (hC:C w.drew) (h:Dg P R n ops k zs order C s w.drew):Cg P R n (.region id ops.toArray true) k s w:=by
  unfold Cg;refine wp_region_any hm<|Sm (zs:=zs) (Q:=k.post P R .normal) (λ_ _ h=>h) _ C _ _ _ ?_;exact (Mn hs order).1 _ C (Array.replicate ops.toArray.size false) s w.drew hB hC h
variable {C:World->Prop}{rest:Ord}{i d:Nat}{op:Op}{ty:TypeId}{pos:String}{aft:Array Edge}{g:Option (Nat × Bool)}
def d_nil(h:Eg P R n .normal k s w):Dg P R n ops k zs .nil C s w:=by
  unfold Eg at h;exact h
theorem d_free(hrun:∀w,C w->(execOp (ev n s) ⟨some d,op,ty,pos,aft,g⟩).run P w=.ok (.value v) w)(h:Dg P R n ops k zs rest C (Ic s d v) w)(hi:ops[i]? = some ⟨some d,op,ty,pos,aft,g⟩:=by rfl)(hw:Ka ops n s ⟨some d,op,ty,pos,aft,g⟩=true:=by rfl)(hps:zs.ps.contains i=false:=by rfl) :
    Dg P R n ops k zs (.free i rest) C s w:=by
  unfold Dg Dw;rw[hi];exact⟨v,.inl ⟨hw,hrun,λh=>by rw[hps]at h;cases h⟩,h⟩
def Wl(hi:ops[i]? = some ⟨some d,op,ty,pos,aft,g⟩)(hrun:∀w,C w->(execOp (ev n s) ⟨some d,op,ty,pos,aft,g⟩).run P w=.ok (.value v) w)(hD:∀w,zs.D w->(execOp (ev n s) ⟨some d,op,ty,pos,aft,g⟩).run P w=.ok (.value v) w)(h:Dg P R n ops k zs rest C (Ic s d v) w)(hw:Ka ops n s ⟨some d,op,ty,pos,aft,g⟩=true:=by rfl) :
    Dg P R n ops k zs (.free i rest) C s w:=by
  unfold Dg Dw;rw[hi];exact⟨v,.inl ⟨hw,hrun,λ_=>hD⟩,h⟩
def d_off(h:Dg P R n ops k zs rest C (Ic s d undef) w)(hi:ops[i]? = some ⟨some d,op,ty,pos,aft,g⟩:=by rfl)(hw:Ka ops n s ⟨some d,op,ty,pos,aft,g⟩=false:=by rfl) :
    Dg P R n ops k zs (.free i rest) C s w:=by
  unfold Dg Dw;rw[hi];exact⟨undef,.inr ⟨hw,O⟩,h⟩
def d_skip(h:Dg P R n ops k zs rest C (Ic s d undef) w)(hC:C w)(hi:ops[i]? = some ⟨some d,op,ty,pos,aft,g⟩:=by rfl)(hw:Ka ops n s ⟨some d,op,ty,pos,aft,g⟩=false:=by rfl)(hz:zs.contains i=false:=by rfl) :
    Dg P R n ops k zs (.act i rest) C s w:=by
  unfold Dg Dw YQ;rw[hi];simp only[hw,Bool.false_eq_true,if_false];unfold Dk;rw[hz];exact⟨C,λ_ h=>h,hC,h⟩
theorem d_val(C':World->Prop)(hsub:∀x,C' x->C x)(hrun:(execOp (ev n s) ⟨some d,op,ty,pos,aft,g⟩).run P w=.ok (.value v) w')(hC:C' w')(h:Dg P R n ops k zs rest C' (Ic s d v) w')
    (hi:ops[i]? = some ⟨some d,op,ty,pos,aft,g⟩:=by rfl) (hw:Ka ops n s ⟨some d,op,ty,pos,aft,g⟩=true:=by rfl) (hz:zs.contains i=false:=by rfl) :
    Dg P R n ops k zs (.act i rest) C s w:=by
  unfold Dg Dw YQ;rw[hi];simp only[hw,if_true,hrun];unfold Dk;rw[hz];exact⟨C',hsub,hC,h⟩
theorem d_enter{f:FuncId}{args:Array Value}{Q:Value->World->Prop}(hrun:(execOp (ev n s) ⟨some d,op,ty,pos,aft,g⟩).run P w=.ok (.enter f args) w')(hc:Calls P f args w' (Za Q))
    (h:∀v w'',Q v w''->∃C':World->Prop,(∀x,C' x->C x)/\C' w''/\Dg P R n ops k zs rest C' (Ic s d v) w'')
    (hi:ops[i]? = some ⟨some d,op,ty,pos,aft,g⟩:=by rfl) (hw:Ka ops n s ⟨some d,op,ty,pos,aft,g⟩=true:=by rfl) (hz:zs.contains i=false:=by rfl):Dg P R n ops k zs (.act i rest) C s w:=by
  unfold Dg Dw YQ;rw[hi];simp only[hw,if_true,hrun];refine hc.mono λe w'' ⟨v,he,hq⟩=>⟨v,he,?_⟩;unfold Dk;rw[hz];exact h v w'' hq
theorem UR(hrun:(execOp (ev n s) ⟨none,op,ty,pos,aft,g⟩).run P w=.ok .skip w')(h:Dg P R n ops k zs rest (λ_=>True) s w')
    (hi:ops[i]? = some ⟨none,op,ty,pos,aft,g⟩:=by rfl) (hw:Ka ops n s ⟨none,op,ty,pos,aft,g⟩=true:=by rfl) (hz:zs.contains i=true:=by rfl) (hDT:zs.D=(λ_=>True):=by rfl) :
    Dg P R n ops k zs (.act i rest) C s w:=by
  unfold Dg Dw YQ;rw[hi];simp only[hw,if_true,hrun];unfold Dk;rw[hz];unfold Dg at h;exact⟨by rw[hDT];trivial,by rw[hDT];exact h⟩
theorem d_unitD(hi:ops[i]? = some ⟨none,op,ty,pos,aft,g⟩)(hrun:(execOp (ev n s) ⟨none,op,ty,pos,aft,g⟩).run P w=.ok .skip w')(h:zs.D w'/\Dg P R n ops k zs rest zs.D s w')
    (hw:Ka ops n s ⟨none,op,ty,pos,aft,g⟩=true:=by rfl) (hz:zs.contains i=true:=by rfl) :
    Dg P R n ops k zs (.act i rest) C s w:=by
  unfold Dg at h;unfold Dg Dw YQ;rw[hi];simp only[hw,if_true,hrun];unfold Dk;rw[hz];exact h
theorem R7{C:World->Prop}{rest s':Ord}{i:Nat}(h1:Dg P R n ops k zs (.act i rest) C s w)(h2:Dg P R n ops k zs s' C s w):Dg P R n ops k zs (.alt i rest s') C s w:=by grind [Dg,Dw]
def Wg(P:Program)(R:Exit->Act->World->Prop)(n:Nat)(ops:List Oper)(k:Kt)(zs:Lt)(L:Array Bool)(m:Nat)(C:World->Prop)(s:Nat->Value)(w:World):Prop :=
  W3 P .any ops.toArray zs (λa w=>k.post P R .normal a w) m C L (Bi n s) w
end
attribute [irreducible] Dg Wg
end Go.Scarf
namespace Go.Scarf
open List renaming length->aL
open Go.RowKit
variable {x x1 x2 x3 y z:Operand}{v v1 v2 v3:Value}{a b:Int}{e t t':TypeId}{i m n:Nat}{l:List Value}{k k':IntKind}{A:Option Addr}{op:BinOp}{f:FuncId}{ats:Array TypeId}{args first:Array Value}
def one:Value->Bool
  | .agg _|.tuple _=>false
  | _=>true
abbrev Str:=List UInt8
abbrev bs(l:Str):ByteArray:=⟨l.toArray⟩
section
variable {P:Program}{ρ:Operand->Value}{w:World}{dst:Option Nat}{ty:TypeId}{pos:String}{aft:Array Edge}{g:Option (Nat × Bool)}
def Zn(h:ρ x=v):(execOp ρ ⟨dst,.move x,ty,pos,aft,g⟩).run P w=.ok (.value v) w:=by simp[execOp,h]
def Un(h:ρ x=v):(execOp ρ ⟨dst,.assign x,ty,pos,aft,g⟩).run P w=.ok (.value v) w:=by simp[execOp,h]
def TQ{c a b:Operand}(hc:ρ c=.bool true)(h:ρ a=v):(execOp ρ ⟨dst,.pick c a b,ty,pos,aft,g⟩).run P w=.ok (.value v) w:=by simp[execOp,hc,asBool,h]
def RP{c a b:Operand}(hc:ρ c=.bool false)(h:ρ b=v):(execOp ρ ⟨dst,.pick c a b,ty,pos,aft,g⟩).run P w=.ok (.value v) w:=by simp[execOp,hc,asBool,h]
def LK{a:Addr}(h:ρ x=.pointer (some a)):(execOp ρ ⟨dst,.nilCheck x,ty,pos,aft,g⟩).run P w=.ok (.value (.pointer (some a))) w:=by
  simp[execOp,h]
def TR(h:ρ x=v):(execOp ρ ⟨dst,.box t x,ty,pos,aft,g⟩).run P w=.ok (.value (.pointer (some ⟨w.heap.size,0,none⟩))) (w.alloc (.cells v.cells t)):=by simp[execOp,h,Instr.box,newVar,newRow,newObj,Sem.run]
def Ql{z:Value}(hz:∀w,(zeroValue t).run P w=.ok z w):(execOp ρ ⟨dst,.alloc t,ty,pos,aft,g⟩).run P w=.ok (.value (.pointer (some ⟨w.heap.size,0,none⟩))) (w.alloc (.cells z.cells t)):=by simp[execOp,Instr.alloc,newVar,newRow,newObj,Sem.run,hz]
theorem Bp(a:Addr)(w:World):∀(l:List Value)(i:Nat)(acc:Array Value),(∀j (h:j<aL l),w.cell? (a.add (i+j))=some l[j]) ->
    (loadCellsFrom a i (aL l) acc).run P w=.ok (acc++l.toArray) w
  | [],i,acc,_=>by simp[loadCellsFrom]
  | v :: l, i, acc, h => by
    have h0:=h 0 Da;simp only[Nat.add_zero,List.getElem_cons_zero]at h0;have hr:=Bp a w l (i+1) (acc.push v) (λj hj=>by
      have:=h (j+1) (aS hj);simp only[List.getElem_cons_succ]at this;rw[<-this];congr 2;omega)
    simp only[List.length_cons,loadCellsFrom];have:(load<|a.add i).run P w=.ok v w:=by simp[load,Sem.run,h0]
    simp[this,hr]
def Pp(a:Addr)(w:World)(l:List Value)(hm:aL l=m)(h:∀j (h:j<aL l),w.cell? (a.add j)=some l[j]):(loadCells a m).run P w=.ok l.toArray w:=by
  subst hm;have:=Bp (P:=P) a w l 0 #[] (λj hj=>by simpa using h j hj);simpa[loadCells]using this
def Xa{a:Addr}(ha:∀w,(isAgg t).run P w=.ok false w)(hc:w.cell? a=some v)(hx:ρ x=.pointer (some a):=by rfl) :
    (execOp ρ ⟨dst,.load t x,ty,pos,aft,g⟩).run P w=.ok (.value v) w:=by simp[execOp,Instr.loadAt,Instr.sureAddr,hx,loadVar,ha,load,Sem.run,hc]
def Ma{a:Addr}(ha:∀w,(isAgg t).run P w=.ok true w)(hs:∀w,(sizeOf t).run P w=.ok m w)(hx:ρ x=.pointer (some a))(hm:aL l=m)
    (hc:∀j (h:j<aL l),w.cell? (a.add j)=some l[j]):(execOp ρ ⟨dst,.load t x,ty,pos,aft,g⟩).run P w=.ok (.value (.agg l.toArray)) w:=by simp[execOp,Instr.loadAt,Instr.sureAddr,hx,loadVar,ha,hs,Pp a w l hm hc]
def N9{a:Addr}{u:Value}(hv:one v=true)(hc:w.cell? a=some u)(hf:w.frozen? a=false):(store a v).run P w=.ok () (w.setCell a v):=by cases v <;> first|(simp[one]at hv;done)|simp[store,Sem.run,hc,hf]
def Sh(w:World)(a:Addr):Nat->List Value->World
  | _,[]=>w
  | i,v::l=>Sh (w.setCell (a.add i) v) a (i+1) l
theorem P8(w:World)(a b:Addr)(v:Value):(w.setCell a v).frozen? b=w.frozen? b:=qX
theorem Qs(a:Addr):∀(l:List Value)(i:Nat)(w:World),(∀v∈l,one v=true)->(∀j,j<aL l->(∃u,w.cell? (a.add (i+j))=some u)/\w.frozen? (a.add (i+j))=false) ->
    (storeCells a l i).run P w=.ok () (Sh w a i l)
  | [],i,w,_,_=>by simp[storeCells,Sh]
  | v :: l, i, w, hv, h => by
    obtain⟨⟨u,hu⟩,hf⟩:=h 0 Da;simp only[Nat.add_zero]at hu hf;have h1:=N9 (P:=P) (hv v Da) hu hf;have hr:=Qs a l (i+1) (w.setCell (a.add i) v) (λx hx=>hv x wM) (λj hj=>by
      obtain⟨⟨u',hu'⟩,hf'⟩:=h (j+1) (aS hj);have e:i+1+j=i+(j+1):=Aa
      rw[e];exact⟨cell?_setCell_some (w:=w) (p:=a.add i) (x:=v) hu' |>.imp λ_ hh=>hh,by rw[P8];exact hf'⟩)
    simp only[storeCells,Sh];simp[h1,hr]
def O4{a:Addr}(hs:∀w,(sizeOf t).run P w=.ok (aL l) w)(hx:ρ x=.pointer (some a))(hy:ρ y=v)(hl:v.cells=l.toArray)
    (hv:∀v∈l,one v=true) (h:∀j,j<aL l->(∃u,w.cell? (a.add j)=some u)/\w.frozen? (a.add j)=false) :
    (execOp ρ ⟨dst,.store t x y,ty,pos,aft,g⟩).run P w=.ok .skip (Sh w a 0 l):=by
  have hr:=Qs (P:=P) a l 0 w hv (λj hj=>by simpa using h j hj);simp[execOp,Instr.storeAt,Instr.sureAddr,hx,hy,storeVar,hs,hl,hr]
def H6{a:Addr}{f:Field}(hs:∀w,(sizeOf f.type).run P w=.ok m w)(hm:m≠0):(fieldPlace a f).run P w=.ok (a.add f.offset) w:=by simp[fieldPlace,hs,hm]
def Hb(P:Program)(t:TypeId)(i off:Nat):Prop:=∃(fs:Array Field)(f:Field)(m:Nat),P.underlying t=some (.struct fs)/\fs[i]? = some f/\f.offset=off/\(∀w,(sizeOf f.type).run P w=.ok m w)/\m≠0
def Oa{off:Nat}{a:Addr}(hf:Hb P t i off)(hx:ρ x=.pointer (some a):=by rfl) :
    (execOp ρ ⟨dst,.fieldAddr t x i,ty,pos,aft,g⟩).run P w=.ok (.value (.pointer (some (a.add off)))) w:=by
  obtain⟨fs,f,m,ht,hi,ho,hs,hm⟩:=hf;subst ho;have hu:∀w,(underlying t).run P w=.ok (.struct fs) w:=run_underlying ht;simp[execOp,Instr.fieldAt,hu,hi,hx,Instr.sureAddr,H6 hs hm]
theorem IE{off b o o':Nat}(hf:Hb P t i off)(hx:ρ x=.pointer (some ⟨b,o,none⟩))(ho:o+off=o':=by rfl) :
    (execOp ρ ⟨dst,.fieldAddr t x i,ty,pos,aft,g⟩).run P w=.ok (.value (.pointer (some ⟨b,o',none⟩))) w:=by
  rw[Oa hf (hx:=hx)];subst ho;have e:(⟨b,o,none⟩:Addr).add off=⟨b,o+off,none⟩:=by unfold Addr.add;split <;> simp_all
  rw[e]
def Ug(P:Program)(t:TypeId)(e m:Nat):Prop:=P.underlying t=some (.slice e)/\∀w,(sizeOf e).run P w=.ok m w
theorem D3{t e:Nat}{ad:Addr}{len cap:Nat}{i:Int}(ht:Ug P t e m)(hx:ρ x=.slice (some ad) len cap)(hy:ρ y=.int k i)(h0:0<=i)(h1:i<len) :
    (execOp ρ ⟨dst,.indexAddr t x y,ty,pos,aft,g⟩).run P w=.ok (.value (.pointer (some (ad.add (i.toNat*m))))) w:=by
  have hu:∀w,(underlying t).run P w=.ok (.slice e) w:=run_underlying ht.1;simp[execOp,Instr.indexAt,hx,hy,asIntOf,hu,h0,h1,ht.2]
def Cb{s:Str}(i:Nat)(ht:P.underlying t=some .string)(hx:ρ x=.string (bs s))(hy:ρ y=.int k (i:Int))(h1:i<aL s) :
    (execOp ρ ⟨dst,.index t x y,ty,pos,aft,g⟩).run P w=.ok (.value (.int .u8 (s[i].toNat:Int))) w:=by
  have hu:∀w,(underlying t).run P w=.ok .string w:=run_underlying ht;have hb:i<(bs s).size:=h1;have hg:(bs s)[i]? = some s[i]:=by
    have:(bs s)[i]? = some ((bs s)[i]' hb):=by simp[hb]
    rw[this];rfl
  simp[execOp,Instr.index,hx,hy,asIntOf,hu,hg]
def II{c:Nat}(ht:P.underlying t=some (.slice e))(hx:ρ x=.slice A n c) :
    (execOp ρ ⟨dst,.call ⟨.builtin .len,#[x],#[t]⟩,ty,pos,aft,g⟩).run P w=.ok (.value (.int .i64 (n:Int))) w:=by
  have hu:∀w,(underlying t).run P w=.ok (.slice e) w:=run_underlying ht;simp[execOp,resolve,invoke,builtin,Builtin.len_,hx,hu,goInt]
def XE{c:Nat}(ht:P.underlying t=some (.slice e))(hx:ρ x=.slice A n c) :
    (execOp ρ ⟨dst,.call ⟨.builtin .cap,#[x],#[t]⟩,ty,pos,aft,g⟩).run P w=.ok (.value (.int .i64 (c:Int))) w:=by
  have hu:∀w,(underlying t).run P w=.ok (.slice e) w:=run_underlying ht;simp[execOp,resolve,invoke,builtin,Builtin.cap_,hx,hu,goInt]
def LE{s:Str}(ht:P.underlying t=some .string)(hx:ρ x=.string (bs s)) :
    (execOp ρ ⟨dst,.call ⟨.builtin .len,#[x],#[t]⟩,ty,pos,aft,g⟩).run P w=.ok (.value (.int .i64 (aL s:Int))) w:=by
  have hu:∀w,(underlying t).run P w=.ok .string w:=run_underlying ht;simp[execOp,resolve,invoke,builtin,Builtin.len_,hx,hu,goInt];rfl
def Pc:(eqGuard op t x y (.int k a) (.int k' b)).run P w=.ok () w:=by
  unfold eqGuard;split <;> simp
def Cl{c:Int}(hx:ρ x=.int k a)(hy:ρ y=.int k b)(h:k.wrap (a+b)=c) :
    (execOp ρ ⟨dst,.binOp .add t x y t',ty,pos,aft,g⟩).run P w=.ok (.value (.int k c)) w:=by simp[execOp,hx,hy,Pc,binOp,Op.intArith,h]
def Ho{c:Int}(hx:ρ x=.int k a)(hy:ρ y=.int k b)(h:k.wrap (a-b)=c) :
    (execOp ρ ⟨dst,.binOp .sub t x y t',ty,pos,aft,g⟩).run P w=.ok (.value (.int k c)) w:=by simp[execOp,hx,hy,Pc,binOp,Op.intArith,h]
def Ro{c:Int}(hx:ρ x=.int k a)(hy:ρ y=.int k b)(h:k.wrap (a*b)=c) :
    (execOp ρ ⟨dst,.binOp .mul t x y t',ty,pos,aft,g⟩).run P w=.ok (.value (.int k c)) w:=by simp[execOp,hx,hy,Pc,binOp,Op.intArith,h]
def DQ{c:Int}(hx:ρ x=.int k a)(hy:ρ y=.int k b)(h0:b≠0)(h:k.wrap (a.tdiv b)=c) :
    (execOp ρ ⟨dst,.binOp .quo t x y t',ty,pos,aft,g⟩).run P w=.ok (.value (.int k c)) w:=by simp[execOp,hx,hy,Pc,binOp,Op.intDiv,h0,h]
def BH{c:Int}(h:a.tmod b=c)(hx:ρ x=.int k a:=by rfl)(hy:ρ y=.int k b:=by rfl)(h0:b≠0:=by decide) :
    (execOp ρ ⟨dst,.binOp .rem t x y t',ty,pos,aft,g⟩).run P w=.ok (.value (.int k c)) w:=by simp[execOp,hx,hy,Pc,binOp,Op.intDiv,h0,h]
def Uy(hx:ρ x=.int k a:=by rfl)(hy:ρ y=.int k b:=by rfl) :
    (execOp ρ ⟨dst,.binOp .lss t x y t',ty,pos,aft,g⟩).run P w=.ok (.value (.bool (decide (a<b)))) w:=by simp[execOp,hx,hy,Pc,binOp,Op.intCmp]
def VR(hx:ρ x=.int k a)(hy:ρ y=.int k b) :
    (execOp ρ ⟨dst,.binOp .leq t x y t',ty,pos,aft,g⟩).run P w=.ok (.value (.bool (decide (a<=b)))) w:=by simp[execOp,hx,hy,Pc,binOp,Op.intCmp]
def H3(hx:ρ x=.int k a:=by rfl)(hy:ρ y=.int k b:=by rfl) :
    (execOp ρ ⟨dst,.binOp .gtr t x y t',ty,pos,aft,g⟩).run P w=.ok (.value (.bool (decide (b<a)))) w:=by simp[execOp,hx,hy,Pc,binOp,Op.intCmp]
def AG(hx:ρ x=.int k a)(hy:ρ y=.int k b) :
    (execOp ρ ⟨dst,.binOp .geq t x y t',ty,pos,aft,g⟩).run P w=.ok (.value (.bool (decide (b<=a)))) w:=by simp[execOp,hx,hy,Pc,binOp,Op.intCmp]
theorem El(hx:ρ x=.int k a:=by rfl)(hy:ρ y=.int k b:=by rfl) :
    (execOp ρ ⟨dst,.binOp .eql t x y t',ty,pos,aft,g⟩).run P w=.ok (.value (.bool (decide (a=b)))) w:=by
  have:(a==b)=decide (a=b):=qK
  simp[execOp,hx,hy,Pc,binOp,Op.intCmp,this]
theorem AR(hx:ρ x=.int k a)(hy:ρ y=.int k b) :
    (execOp ρ ⟨dst,.binOp .neq t x y t',ty,pos,aft,g⟩).run P w=.ok (.value (.bool (decide (a≠b)))) w:=by
  have:(a != b)=decide (a≠b):=qK
  simp[execOp,hx,hy,Pc,binOp,Op.intCmp,this]
def x_not{b:Bool}(hx:ρ x=.bool b):(execOp ρ ⟨dst,.unOp .not t x,ty,pos,aft,g⟩).run P w=.ok (.value (.bool (!b))) w:=by simp[execOp,hx,Op.unary]
def x_notd{p:Prop}{_:Decidable p}(hx:ρ x=.bool (decide p)):(execOp ρ ⟨dst,.unOp .not t x,ty,pos,aft,g⟩).run P w=.ok (.value (.bool (decide (¬p)))) w:=by simp[execOp,hx,Op.unary]
def K2{c:Int}(hx:ρ x=.int k a)(h:k.wrap (0-a)=c):(execOp ρ ⟨dst,.unOp .neg t x,ty,pos,aft,g⟩).run P w=.ok (.value (.int k c)) w:=by
  simp[execOp,hx,Op.unary,Op.intArith]at h ⊢;exact h
def Qb{d:TypeDesc}{c:Int}(ht:P.underlying t=some d)(ht':P.underlying t'=some (.int k'))(hx:ρ x=.int k a)(h:k'.wrap a=c) :
    (execOp ρ ⟨dst,.convert t t' x,ty,pos,aft,g⟩).run P w=.ok (.value (.int k' c)) w:=by
  have hu:∀w,(underlying t').run P w=.ok (.int k') w:=run_underlying ht';have hd:∀w,(underlying t).run P w=.ok d w:=run_underlying ht;simp[execOp,convert,hu,hd,hx,Conv.intToInt,h]
def Nh{a b:ByteArray}:(eqGuard op t x y (.string a) (.string b)).run P w=.ok () w:=by
  unfold eqGuard;split <;> simp
theorem Lu(a:Str):(bs a).toList=a:=qX
theorem Pl(a:Str):(bs a).size=aL a:=rfl
theorem bs_inj{a b:Str}:bs a=bs b↔a=b:=qK
theorem PU(a b:Str):bs a++bs b=bs (a++b):=by
  have h:(bs a++bs b).toList=(bs<|a++b).toList:=by
    rw[ByteArray.toList_eq,ByteArray.toList_eq];simp[bs]
  have h2:(bs a++bs b).data=(bs<|a++b).data:=qX
  cases hx:bs a++bs b;grind
theorem Iv(a:Str)(l h:Nat):(bs a).extract l h=bs ((a.take h).drop l):=by
  have hh:((bs a).extract l h).toList=(bs<|(a.take h).drop l).toList:=by
    rw[ByteArray.toList_eq,ByteArray.toList_eq];simp[bs];rw[List.drop_take]
  have h2:((bs a).extract l h).data=(bs<|(a.take h).drop l).data:=by
    rw[ByteArray.toList_eq,ByteArray.toList_eq]at hh;simpa using hh
  cases hx:(bs a).extract l h;grind
def Gf{a b:Str}(hx:ρ x=.string (bs a))(hy:ρ y=.string (bs b))(h:aL a+aL b<=9223372036854775807) :
    (execOp ρ ⟨dst,.binOp .add t x y t',ty,pos,aft,g⟩).run P w=.ok (.value (.string (bs (a++b)))) w:=by
  rw[<-PU];have h':(bs a).size+(bs b).size<=9223372036854775807:=h;generalize bs a=u at *;generalize bs b=v at *;simp[execOp,hx,hy,Nh,binOp,Op.stringOp];omega
theorem UE(a b:Str):((bs a).toList==(bs b).toList)=decide (a=b):=by grind [Lu]
def Bw{a b:Str}(hx:ρ x=.string (bs a))(hy:ρ y=.string (bs b)) :
    (execOp ρ ⟨dst,.binOp .eql t x y t',ty,pos,aft,g⟩).run P w=.ok (.value (.bool (decide (a=b)))) w:=by
  have:=UE a b;generalize bs a=u at *;generalize bs b=v at *;simp[execOp,hx,hy,Nh,binOp,Op.stringOp,this]
def DX{a b:Str}(hx:ρ x=.string (bs a))(hy:ρ y=.string (bs b)) :
    (execOp ρ ⟨dst,.binOp .neq t x y t',ty,pos,aft,g⟩).run P w=.ok (.value (.bool (decide (a≠b)))) w:=by
  have:=UE a b;generalize bs a=u at *;generalize bs b=v at *;simp[execOp,hx,hy,Nh,binOp,Op.stringOp,this]
abbrev Jf(a b:Str):Bool:=Op.bytesLess a b
theorem x_lsss{a b:Str}(hx:ρ x=.string (bs a))(hy:ρ y=.string (bs b)) :
    (execOp ρ ⟨dst,.binOp .lss t x y t',ty,pos,aft,g⟩).run P w=.ok (.value (.bool (Jf a b))) w:=by
  have:Op.bytesLess (bs a).toList (bs b).toList=Jf a b:=qX
  generalize bs a=u at *;generalize bs b=v at *;simp[execOp,hx,hy,Nh,binOp,Op.stringOp,this]
def Rq{lo hi:Option Operand}{s:ByteArray}(l h:Nat)(ht:P.underlying t=some .string)(hx:ρ x=.string s)
    (hl:(lo.map ρ=none/\l=0)\/∃k,lo.map ρ=some (.int k (l:Int))) (hh:(hi.map ρ=none/\h=s.size)\/∃k,hi.map ρ=some (.int k (h:Int))) (h1:l<=h) (h2:h<=s.size) :
    (execOp ρ ⟨dst,.slice t x lo hi none,ty,pos,aft,g⟩).run P w=.ok (.value (.string (s.extract l h))) w:=by
  have hu:∀w,(underlying t).run P w=.ok .string w:=run_underlying ht;rcases hl with ⟨hl,rfl⟩|⟨k,hl⟩ <;> rcases hh with ⟨hh,rfl⟩|⟨k',hh⟩ <;>
    simp[execOp,Instr.sliceAt,hu,Instr.slice,hx,hl,hh,Instr.sliceBounds,Instr.sliceBound,asIntOf,h1,h2]
def Eh{s:Str}(l h:Nat)(ht:P.underlying t=some .string)(hx:ρ x=.string (bs s))(hl:ρ y=.int k (l:Int))(hh:ρ z=.int k' (h:Int))(h1:l<=h)(h2:h<=aL s) :
    (execOp ρ ⟨dst,.slice t x (some y) (some z) none,ty,pos,aft,g⟩).run P w=.ok (.value (.string (bs ((s.take h).drop l)))) w:=by
  rw[<-Iv];exact Rq l h ht hx (.inr ⟨k,by simp[hl]⟩) (.inr ⟨k',by simp[hh]⟩) h1 h2
theorem Qf{s:Str}(l:Nat)(ht:P.underlying t=some .string)(hx:ρ x=.string (bs s):=by rfl)(hl:ρ y=.int k (l:Int):=by rfl)(h1:l<=aL s:=by omega) :
    (execOp ρ ⟨dst,.slice t x (some y) none none,ty,pos,aft,g⟩).run P w=.ok (.value (.string (bs (s.drop l)))) w:=by
  have h:=Rq (w:=w) (dst:=dst) (ty:=ty) (pos:=pos) (aft:=aft) (g:=g) (lo:=some y) (hi:=none) l (aL s) ht hx (.inr ⟨k,by simp[hl]⟩) (.inl ⟨rfl,rfl⟩) h1<|Nat.le_refl _;grind [Iv]
theorem Do{s:Str}(h:Nat)(ht:P.underlying t=some .string)(hx:ρ x=.string (bs s):=by rfl)(hh:ρ z=.int k' (h:Int):=by rfl)(h2:h<=aL s:=by omega) :
    (execOp ρ ⟨dst,.slice t x none (some z) none,ty,pos,aft,g⟩).run P w=.ok (.value (.string (bs (s.take h)))) w:=by
  have h:=Rq (w:=w) (dst:=dst) (ty:=ty) (pos:=pos) (aft:=aft) (g:=g) (lo:=none) (hi:=some z) 0 h ht hx (.inl ⟨rfl,rfl⟩) (.inr ⟨k',by simp[hh]⟩) (Nat.zero_le _) h2;grind [Iv]
def Gn{vs:Array Value}(hx:ρ x=.tuple vs)(hv:vs[i]? = some v):(execOp ρ ⟨dst,.extract x i,ty,pos,aft,g⟩).run P w=.ok (.value v) w:=by simp[execOp,Instr.extract,hx,hv]
theorem Cw{fn:Fn}{first cap:Array Operand}{f' c':Array Value}(h1:first.map ρ=f')(h2:cap.map ρ=c') :
    (execOp ρ ⟨dst,.makeFunc fn first cap,ty,pos,aft,g⟩).run P w=.ok (.value (.func fn f' c')) w:=by simp[execOp,Instr.makeFunc,h1,h2]
def Fa(P:Program)(f:FuncId):Prop:=∀args w,(callFunc f args).run P w=.ok (.enter f args) w
def Df(hf:Fa P f)(he:ρ (.func f)=.func (.func f) #[] #[])(h1:ρ x1=v1) :
    (execOp ρ ⟨dst,.call ⟨.value (.func f),#[x1],ats⟩,ty,pos,aft,g⟩).run P w=.ok (.enter f #[v1]) w:=by simp[execOp,resolve,Deferred.ofValue,he,h1,invoke,hf #[v1] w]
def Zd(hf:Fa P f)(he:ρ (.func f)=.func (.func f) #[] #[])(h1:ρ x1=v1)(h2:ρ x2=v2) :
    (execOp ρ ⟨dst,.call ⟨.value (.func f),#[x1,x2],ats⟩,ty,pos,aft,g⟩).run P w=.ok (.enter f #[v1,v2]) w:=by simp[execOp,resolve,Deferred.ofValue,he,h1,h2,invoke,hf #[v1,v2] w]
def Du(hf:Fa P f)(he:ρ (.func f)=.func (.func f) #[] #[])(h1:ρ x1=v1)(h2:ρ x2=v2)(h3:ρ x3=v3) :
    (execOp ρ ⟨dst,.call ⟨.value (.func f),#[x1,x2,x3],ats⟩,ty,pos,aft,g⟩).run P w=.ok (.enter f #[v1,v2,v3]) w:=by simp[execOp,resolve,Deferred.ofValue,he,h1,h2,h3,invoke,hf #[v1,v2,v3] w]
def XD{x4:Operand}{v4:Value}(hf:Fa P f)(he:ρ (.func f)=.func (.func f) #[] #[])(h1:ρ x1=v1)(h2:ρ x2=v2)(h3:ρ x3=v3)(h4:ρ x4=v4) :
    (execOp ρ ⟨dst,.call ⟨.value (.func f),#[x1,x2,x3,x4],ats⟩,ty,pos,aft,g⟩).run P w=.ok (.enter f #[v1,v2,v3,v4]) w:=by simp[execOp,resolve,Deferred.ofValue,he,h1,h2,h3,h4,invoke,hf #[v1,v2,v3,v4] w]
def Wn{c:Operand}{cap:Array Value}(hc:ρ c=.func (.func f) first cap)(hf:Fa P f)(h1:ρ x1=v1)(ha:first++#[v1]++cap=args) :
    (execOp ρ ⟨dst,.call ⟨.value c,#[x1],ats⟩,ty,pos,aft,g⟩).run P w=.ok (.enter f args) w:=by
  subst ha;simp[execOp,resolve,Deferred.ofValue,hc,h1,invoke,hf _ w]
def Fh{c:Operand}{cap:Array Value}(hc:ρ c=.func (.func f) first cap)(hf:Fa P f)(h1:ρ x1=v1)(h2:ρ x2=v2)
    (ha:first++#[v1,v2]++cap=args):(execOp ρ ⟨dst,.call ⟨.value c,#[x1,x2],ats⟩,ty,pos,aft,g⟩).run P w=.ok (.enter f args) w:=by
  subst ha;simp[execOp,resolve,Deferred.ofValue,hc,h1,h2,invoke,hf _ w]
def KH{c:Operand}{cap:Array Value}(hc:ρ c=.func (.func f) first cap)(hf:Fa P f)(h1:ρ x1=v1)(h2:ρ x2=v2)(h3:ρ x3=v3)
    (ha:first++#[v1,v2,v3]++cap=args):(execOp ρ ⟨dst,.call ⟨.value c,#[x1,x2,x3],ats⟩,ty,pos,aft,g⟩).run P w=.ok (.enter f args) w:=by
  subst ha;simp[execOp,resolve,Deferred.ofValue,hc,h1,h2,h3,invoke,hf _ w]
end
end Go.Scarf
namespace Go.Scarf
open List renaming length->aL
open Go.RowKit
variable {b:Nat}{cs:Array Value}{T t:TypeId}{fz:Nat × Nat}{l:List Value}{x y:Operand}{v z:Value}
def putA(cs:Array Value):Nat->List Value->Array Value
  | _,[]=>cs
  | off,v::l=>putA (cs.setIfInBounds off v) (off+1) l
section
variable {w0 w:World}{Ds:List Nat}{bs:List (Nat × Obj)}
def P1{w:World}{off:Nat}(h:w.heap[b]? = some (.cells cs T fz))(v:Value) :
    (w.setCell ⟨b,off,none⟩ v).heap[b]? = some (.cells (cs.setIfInBounds off v) T fz):=by simp[World.setCell,Array.getElem?_modify,h]
theorem FR.setCell(h:FR w0 Ds bs w)(i:Nat){off:Nat}(v:Value)(hi:bs[i]? = some (b,.cells cs T fz)) :
    FR w0 Ds (bs.set i (b,.cells (cs.setIfInBounds off v) T fz)) (w.setCell ⟨b,off,none⟩ v) :=
  h.change i hi (Same.setCell w ⟨b,off,none⟩ v) (P1 (h.heap hi) v)
theorem Tl(b off:Nat){T:TypeId}{fz:Nat × Nat}:∀(l:List Value)(j:Nat)(w:World)(cs:Array Value),w.heap[b]? = some (.cells cs T fz) ->
    (Sh w ⟨b,off,none⟩ j l).heap[b]? = some (.cells (putA cs (off+j) l) T fz)/\Same [b] w (Sh w ⟨b,off,none⟩ j l)
  | [],j,w,cs,h=>⟨h,.refl _ _⟩
  | v :: l, j, w, cs, h => by
    have e:(⟨b,off,none⟩:Addr).add j=⟨b,off+j,none⟩:=by unfold Addr.add;split <;> simp_all
    have h1:=P1 (off:=off+j) h v;have:=Tl b off l (j+1) (w.setCell ⟨b,off+j,none⟩ v) _ h1;simp only[Sh,putA,e];refine⟨?_,(Same.setCell w ⟨b,off+j,none⟩ v).trans this.2⟩;rw[this.1,Nat.add_assoc]
theorem FR.cellsAll(h:FR w0 Ds bs w)(i:Nat)(hi:bs[i]? = some (b,.cells l.toArray T fz)) :
    ∀j (hj:j<aL l),w.cell? ((⟨b,0,none⟩:Addr).add j)=some l[j]:=λj hj=>by
  have e:(⟨b,0,none⟩:Addr).add j=⟨b,j,none⟩:=by unfold Addr.add;split <;> simp_all
  rw[e,Db (h.heap hi) j];simp[hj]
def Fo{w:World}(h:w.heap[b]? = some (.cells cs T (0,0)))(i:Nat):w.frozen? ⟨b,i,none⟩=false:=by simp[World.frozen?,h]
end
section
variable {P:Program}{R:Exit->Act->World->Prop}{n:Nat}{k:Kt}{s:Nat->Value}{w:World}{ops rest:List Oper}
variable {d:Nat}{ty:TypeId}{pos:String}{aft:Array Edge}{g:Option (Nat × Bool)}
variable {w0:World}{Ds:List Nat}{bs:List (Nat × Obj)}
def Gk(hF:FR w0 Ds bs w)(hx:ev n s x=v)(hv:v.cells=cs)
    (h:∀b w',b=w.heap.size->FR w0 Ds ((b,.cells cs t)::bs) w'->Same [] w w'->Og P R n ops k rest (Ic s d (.pointer (some ⟨b,0,none⟩))) w')
    (hw:Ka ops n s ⟨some d,.box t x,ty,pos,aft,g⟩=true:=by rfl):Og P R n ops k (⟨some d,.box t x,ty,pos,aft,g⟩::rest) s w :=
  Ba (TR hx) (h _ _ rfl wK<|Same.alloc w _) hw
def Wm(hF:FR w0 Ds bs w)(hz:∀w,(zeroValue t).run P w=.ok z w)(hv:z.cells=cs)
    (h:∀b w',b=w.heap.size->FR w0 Ds ((b,.cells cs t)::bs) w'->Same [] w w'->Og P R n ops k rest (Ic s d (.pointer (some ⟨b,0,none⟩))) w')
    (hw:Ka ops n s ⟨some d,.alloc t,ty,pos,aft,g⟩=true:=by rfl):Og P R n ops k (⟨some d,.alloc t,ty,pos,aft,g⟩::rest) s w :=
  Ba (Ql hz) (h _ _ rfl wK<|Same.alloc w _) hw
theorem Ye(i:Nat){off:Nat}{cs':Array Value}(hF:FR w0 Ds bs w)(hs:∀w,(sizeOf t).run P w=.ok (aL l) w)
    (hx:ev n s x=.pointer (some ⟨b,off,none⟩)) (hy:ev n s y=v) (hl:v.cells=l.toArray) (hv:∀v∈l,one v=true) (hi:bs[i]? = some (b,.cells cs T)) (hsz:off+aL l<=cs.size)
    (hcs:putA cs off l=cs')
    (h:∀w',FR w0 Ds (bs.set i (b,.cells cs' T)) w'->Same [b] w w'->Og P R n ops k rest s w')
    (hw:Ka ops n s ⟨none,.store t x y,ty,pos,aft,g⟩=true:=by rfl):Og P R n ops k (⟨none,.store t x y,ty,pos,aft,g⟩::rest) s w:=by
  have hh:=hF.heap hi;have hsp:=Tl b off (fz:=(0,0)) l 0 w cs hh;refine Z0 (O4 hs hx hy hl hv λj hj=>?_) (h (Sh w ⟨b,off,none⟩ 0 l) ?_ hsp.2) hw
  ·have e : (⟨b, off, none⟩ : Addr).add j = ⟨b, off + j, none⟩ := by unfold Addr.add;split <;> simp_all
   rw[e,Db hh];exact⟨⟨cs[off+j]' Aa,Da⟩,Fo hh _⟩
  subst hcs;exact hF.change i hi hsp.2 (aS hsp.1)
theorem Wu{ty':TypeId}{pos':String}{aft':Array Edge}(hF:FR w0 Ds bs w)(hz:∀w,(zeroValue t).run P w=.ok z w)(hs:∀w,(sizeOf t).run P w=.ok (aL l) w)
    (hzl:z.cells.size=aL l) (hy:ev n (Ic s d (.pointer (some ⟨w.heap.size,0,none⟩))) y=v) (hl:v.cells=l.toArray) (hv:∀v∈l,one v=true) (hdn:Nat.blt d n=true)
    (h:∀b w',b=w.heap.size->FR w0 Ds ((b,.cells l.toArray t)::bs) w'->Same [] w w'->Og P R n ops k rest (Ic s d (.pointer (some ⟨b,0,none⟩))) w') :
    Og P R n ops k (⟨some d,.alloc t,ty,pos,aft,none⟩::⟨none,.store t (.tmp d) y,ty',pos',aft',none⟩::rest) s w:=by
  refine Ba (Ql hz) ?_ O;have hF1:=hF.alloc<|.cells z.cells t;refine Ye 0 (b:=w.heap.size) (off:=0) (cs:=z.cells) (T:=t) (cs':=l.toArray) hF1 hs (by simp[ev,Ic,hdn]) hy hl hv O Aa ?_ (λw' hF' hS=>?_) O
  ·have key:∀(l:List Value)(off:Nat)(cs:Array Value),off+aL l=cs.size->putA cs off l=(cs.toList.take off++l).toArray:=by
     intro l
     induction l with
     | nil =>
       intro off cs h;simp only[putA,List.append_nil];rw[List.take_of_length_le (by simp at h ⊢;omega)]
     | cons v l ih =>
       intro off cs h;simp only[List.length_cons]at h;rw[putA,ih _ _ qM];have hoff:off<aL cs.toList:=by simp;omega
       have e:(cs.setIfInBounds off v).toList.take (off+1)=cs.toList.take off++[v]:=by
         rw[Array.toList_setIfInBounds,List.take_succ_eq_append_getElem (aS hoff),List.take_set_of_le<|Nat.le_refl _];simp
       rw[e];simp
   grind
  refine h _ w' O hF' ⟨hS.os, hS.tape, hS.output, Nat.le_trans Da hS.size, λb hb _ => ?_⟩;rw[hS.block b qM qM];exact Below.heap_alloc w _ b hb
end
end Go.Scarf
namespace Go.Scarf
open List renaming length->aL
open Go.RowKit
inductive Tree where
  | node (kind:Int) (text:Str) (keys:List Str) (items:List Tree)
namespace Tree
def kind:Tree->Int|.node k _ _ _=>k
def text:Tree->Str|.node _ t _ _=>t
def keys:Tree->List Str|.node _ _ ks _=>ks
def items:Tree->List Tree|.node _ _ _ xs=>xs
end Tree
def Uj(s:Str):D:=.lit (.string (bs s))
def Lg(n:Int):D:=.lit (.int .i64 n)
def Ee(ks:List Str):D:=.slice (ks.map Uj)
mutual
def Na:Tree->D
  | .node k t ks xs=>.agg [Lg k,Uj t,Ee ks,.slice (Hc xs)]
def Hc:List Tree->List D
  | []=>[]
  | x::xs=>Na x::Hc xs
end
theorem Jc:∀xs:List Tree,Hc xs=xs.map Na
  | []=>rfl
  | x::xs=>by simp[Hc,Jc xs]
@[simp] theorem Qe (xs:List Tree):aL (Hc xs)=aL xs:=by simp[Jc]
theorem Bb:∀t:Tree,Gc (Na t)=4
  | .node _ _ _ _=>by simp[Na,Gc,Gc.sizeL,Lg,Uj,Ee]
section
variable {cs:List Value}{v:Value}{A:Option Addr}{i:Nat}{k:Int}
variable {S:Nat->Prop}{w:World}
theorem RepL.nil_inv(h:RepL S w [] cs):cs=[]:=by grind [RepL]
theorem RepL.cons_inv{d:D}{ds:List D}(h:RepL S w (d::ds) cs):∃c1 c2,cs=c1++c2/\Rep S w d c1/\RepL S w ds c2:=by grind [RepL]
theorem RepL.cons_mk{d:D}{ds:List D}{c1 c2:List Value}(h:Rep S w d c1)(k:RepL S w ds c2):RepL S w (d::ds) (c1++c2):=by grind [RepL]
theorem RepL.nil_mk:RepL S w [] []:=by unfold RepL;rfl
theorem Rep.agg_inv{ds:List D}(h:Rep S w (.agg ds) cs):RepL S w ds cs:=by grind [Rep]
theorem Rep.agg_mk{ds:List D}(h:RepL S w ds cs):Rep S w (.agg ds) cs:=by grind [Rep]
theorem Rep.lit_inv(h:Rep S w (.lit v) cs):cs=[v]/\N2 v:=by grind [Rep]
theorem Rep.lit_mk(h:N2 v):Rep S w (.lit v) [v]:=by grind [Rep]
def Rep.int_inv{n:Int}(h:Rep S w (Lg n) cs):cs=[.int .i64 n]/\-9223372036854775808<=n/\n<=9223372036854775807:=by
  obtain⟨h1,h2⟩:=Rep.lit_inv h;exact⟨h1,h2.1,h2.2⟩
def Rep.str_inv{t:Str}(h:Rep S w (Uj t) cs):cs=[.string (bs t)]/\aL t<=9223372036854775807:=Rep.lit_inv h
theorem Rep.slice_inv{ds:List D}(h:Rep S w (.slice ds) cs):∃(A:Option Addr)(c:Nat),cs=[.slice A (aL ds) c]/\aL ds<=c/\c<=9223372036854775807 /\
    (ds≠[]->∃ad,A=some ad/\∃es,CellsAt S w ad es/\RepL S w ds es):=by grind [Rep]
theorem Rep.slice_mk{ds:List D}{n c:Nat}(hn:n=aL ds)(h1:n<=c)(h2:c<=9223372036854775807)
    (h:ds≠[]->∃ad,A=some ad/\∃es,CellsAt S w ad es/\RepL S w ds es):Rep S w (.slice ds) [.slice A n c]:=by grind [Rep]
theorem Rep.nil_slice(c:Nat)(hc:c<=9223372036854775807)(A:Option Addr):Rep S w (.slice []) [.slice A 0 c]:=by grind [Rep.slice_mk]
def CellsAt.get{ad:Addr}{es:List Value}(h:CellsAt S w ad es)(i m:Nat)(hi:i+m<=aL es):∀j (hj:j<aL ((es.drop i).take m)),w.cell? ((ad.add i).add j)=some ((es.drop i).take m)[j]:=by
  intro j hj;have hj':i+j<aL es:=by simp at hj;omega
  rw[Jo,(h (i+j) hj').1];simp
theorem Rep.elem{ds:List D}{len c:Nat}{sz:Nat}(h:Rep S w (.slice ds) [.slice A len c])(hs:∀d∈ds,Gc d=sz)(hi:i<aL ds) :
    ∃ad cs,A=some ad/\aL cs=sz/\(∀j (hj:j<aL cs),w.cell? ((ad.add (i*sz)).add j)=some cs[j])/\Rep S w ds[i] cs:=by
  obtain⟨A',c',hA,_,_,hr⟩:=Rep.slice_inv h;simp only[List.cons.injEq,Value.slice.injEq,and_true]at hA;obtain⟨rfl,_,_⟩:=hA;obtain⟨ad,rfl,es,hc,hl⟩:=hr (by intro e;subst e;simp at hi);obtain⟨g,gl⟩:=hl.get hs i hi;have e:(i+1)*sz=i*sz+sz:=qK
  refine⟨ad,(es.drop<|i*sz).take sz,O,by simp;omega,?_,g⟩;exact hc.get (i*sz) sz Aa
theorem Rep.slice_len{ds:List D}{len c:Nat}(h:Rep S w (.slice ds) [.slice A len c]):len=aL ds/\len<=c/\c<=9223372036854775807:=by grind [Rep.slice_inv]
theorem Rep.str_elem{ks:List Str}{len c:Nat}(h:Rep S w (Ee ks) [.slice A len c])(hi:i<aL ks) :
    ∃ad,A=some ad/\w.cell? (ad.add (i*1))=some (.string (bs ks[i]))/\aL ks[i]<=9223372036854775807:=by
  obtain⟨ad,cs,hA,_,hc,hr⟩:=Rep.elem (sz:=1) h (λd hd=>by obtain⟨k,_,rfl⟩:=List.mem_map.1 hd;rfl) (i:=i) (aS hi);rw[List.getElem_map]at hr;obtain⟨rfl,hs⟩:=Rep.str_inv hr;have:=hc 0 Da;grind [Ln]
def Rep.tree_inv{t:Str}{ks:List Str}{xs:List Tree}(h:Rep S w (Na (.node k t ks xs)) cs) :
    ∃(A : Option Addr)(c : Nat)(B : Option Addr)(e : Nat), cs = [.int .i64 k, .string (bs t), .slice A (aL ks) c, .slice B (aL xs) e] /\ (-9223372036854775808 <= k /\ k <= 9223372036854775807) /\ (aL t) <= 9223372036854775807 /\
      Rep S w (Ee ks) [.slice A (aL ks) c]/\Rep S w (.slice (Hc xs)) [.slice B (aL xs) e]:=by
  unfold Na at h;obtain⟨c1,r1,rfl,h1,h⟩:=RepL.cons_inv<|Rep.agg_inv h;obtain⟨c2,r2,rfl,h2,h⟩:=RepL.cons_inv h;obtain⟨c3,r3,rfl,h3,h⟩:=RepL.cons_inv h;obtain⟨c4,r4,rfl,h4,h⟩:=RepL.cons_inv h;obtain rfl:=RepL.nil_inv h;obtain⟨rfl,hk⟩:=Rep.int_inv h1;obtain⟨rfl,ht⟩:=Rep.str_inv h2;obtain⟨A,c,rfl,_⟩:=Rep.slice_inv h3;obtain⟨B,e,rfl,_⟩:=Rep.slice_inv h4;simp only[List.length_map,Qe]at h3 h4;exact⟨A,c,B,e,Da,hk,ht,h3,h4⟩
def Rep.tree_mk{t:Str}{ks:List Str}{xs:List Tree}{u:Value}(hk:-9223372036854775808<=k/\k<=9223372036854775807)(ht:aL t<=9223372036854775807)
    (h3:Rep S w (Ee ks) [v]) (h4:Rep S w (.slice (Hc xs)) [u]):Rep S w (Na (.node k t ks xs)) [.int .i64 k,.string (bs t),v,u]:=by
  unfold Na;have h1:Rep S w (Lg k) [.int .i64 k]:=Rep.lit_mk ⟨hk.1,hk.2⟩;have h2:Rep S w (Uj t) [.string<|bs t]:=Rep.lit_mk ht;exact Rep.agg_mk<|RepL.cons_mk h1<|RepL.cons_mk h2<|RepL.cons_mk h3<|RepL.cons_mk h4 RepL.nil_mk
theorem Rep.tree_elem{xs:List Tree}{len c:Nat}(h:Rep S w (.slice (Hc xs)) [.slice A len c])(hi:i<aL xs) :
    ∃ad cs,A=some ad/\aL cs=4/\(∀j (hj:j<aL cs),w.cell? ((ad.add (i*4)).add j)=some cs[j])/\Rep S w (Na xs[i]) cs:=by
  obtain⟨ad,cs,hA,hl,hc,hr⟩:=Rep.elem (sz:=4) h (λd hd=>by rw[Jc]at hd;obtain⟨k,_,rfl⟩:=List.mem_map.1 hd;exact Bb k) (i:=i) (aS hi);grind [Jc]
end
section
variable {cs:List Value}{ad:Addr}
variable {S:Nat->Prop}{w w0:World}{Ds:List Nat}{bs:List (Nat × Obj)}
theorem FR.rep{d:D}(hF:FR w0 [] bs w)(h:Rep S w0 d cs):Rep S w d cs:=h.same hF.same Da
theorem FR.cells0(hF:FR w0 [] bs w)(h:∀j (hj:j<aL cs),w0.cell? (ad.add j)=some cs[j]):∀j (hj:j<aL cs),w.cell? (ad.add j)=some cs[j]:=λj hj=>by
  have h1:=h j hj;rw[<-h1];exact World.cell?_of_block (w:=w0)<|hF.same.block _ (World.block_lt_of_cell? _ _ h1) Da
theorem FR.cell0{v:Value}(hF:FR w0 [] bs w)(h:w0.cell? ad=some v):w.cell? ad=some v:=by
  rw[<-h];exact World.cell?_of_block (w:=w0)<|hF.same.block _ (World.block_lt_of_cell? _ _ h) Da
end
end Go.Scarf
namespace Go.Scarf
open List renaming length->aL
open Go.RowKit
variable {x:Int}
section
variable {S:Nat->Prop}{w:World}
def MW{v:Value}(h:N2 v):one v=true:=by cases v <;> first|rfl|exact h.elim
mutual
theorem Rep.one_:∀{d:D}{cs:List Value},Rep S w d cs->∀v∈cs,one v=true
  | .lit u, cs, h => by
    obtain⟨rfl,h2⟩:=Rep.lit_inv h;intro v hv;obtain rfl:v=u:=aS hv
    exact MW h2
  | .agg ds,cs,h=>RepL.one_<|Rep.agg_inv h
  | .slice ds, cs, h => by
    obtain⟨A,c,rfl,_⟩:=Rep.slice_inv h;intro v hv;obtain rfl:v=_:=aS hv
    rfl
theorem RepL.one_:∀{ds:List D}{cs:List Value},RepL S w ds cs->∀v∈cs,one v=true
  | [],cs,h=>by have:=RepL.nil_inv h;subst this;intro v hv;cases hv
  | d :: ds, cs, h => by
    obtain⟨c1,c2,rfl,h1,h2⟩:=RepL.cons_inv h;intro v hv;rcases List.mem_append.1 hv with hv|hv
    ·exact Rep.one_ h1 v hv
    exact RepL.one_ h2 v hv
end
def wr(n:Int):Int:=IntKind.i64.wrap n
def NV(a b:Int):IntKind.i64.wrap (wr a+wr b)=wr (a+b):=by
  unfold wr;rw[IntKind.wrap_i64,IntKind.wrap_i64,IntKind.wrap_i64,IntKind.wrap_i64];omega
theorem Ge(h1:-9223372036854775808<=x)(h2:x<=9223372036854775807):IntKind.i64.wrap x=x:=by
  rw[IntKind.wrap_i64];omega
theorem Gd{c:Int}(h:x=c)(h1:-9223372036854775808<=c)(h2:c<=9223372036854775807):IntKind.i64.wrap x=c:=by grind [Ge]
end
section
variable {l:List (Nat × Value)}
variable {P:Program}{R:Exit->Act->World->Prop}{n:Nat}{k:Kt}{s:Nat->Value}{w:World}{ops rest:List Oper}
variable {d:Nat}{dst:Option Nat}{ty:TypeId}{pos:String}{aft:Array Edge}{g:Option (Nat × Bool)}{ρ:Operand->Value}
variable {w0:World}{Ds:List Nat}{bs:List (Nat × Obj)}
def Cg.slots{c:Code}(hs:AllEq s l)(h:∀s',Cg P R n c k (Gh s' l) w):Cg P R n c k s w:=by
  have:=h s
  rwa [<-hs.eq]at this
def Eg.slots{e:Exit}(hs:AllEq s l)(h:∀s',Eg P R n e k (Gh s' l) w):Eg P R n e k s w:=by
  have:=h s
  rwa [<-hs.eq]at this
theorem Ca{t e m:Nat}{x y:Operand}{kk:IntKind}{A:Option Addr}{ad:Addr}{len cap:Nat}{i:Int}(ht:Ug P t e m)(hA:A=some ad)(hx:ρ x=.slice A len cap:=by rfl)(hy:ρ y=.int kk i:=by rfl)(h0:0<=i:=by omega)(h1:i<len:=by omega) :
    (execOp ρ ⟨dst,.indexAddr t x y,ty,pos,aft,g⟩).run P w=.ok (.value (.pointer (some (ad.add (i.toNat*m))))) w:=by grind [D3]
theorem GP{id:Nat}(zs:Lt)(order:Ord)(hm:P.follows .mixedOrders=true)(hF:FR w0 Ds bs w)(hs:Region.noSelect ops.toArray=true)
    (hB:Oj .any ops.toArray zs true ops.toArray.size order (Array.replicate ops.toArray.size false)=true)
    (h:∀w',FR w0 Ds bs w'->Same [] w w'->∃C:World->Prop,C w'/\Dg P R n ops k zs order C s w'):Cg P R n (.region id ops.toArray true) k s w:=by
  obtain⟨C,hC,hD⟩:=h w.drew hF.drew<|Same.drew w;grind [IN]
end
abbrev aQ:Value:=.slice none 0 0
abbrev J(i:Int):Value:=.int .i64 i
abbrev I(s:List UInt8):Value:=.string (bs s)
abbrev V(b:Nat):Value:=.pointer (some ⟨b,0,none⟩)
abbrev W(b n c:Nat):Value:=.slice (some ⟨b,0,none⟩) n c
def bQ:List Nat->Ord->Ord
 | [],r=>r
 | i::l,r=>.free i (bQ l r)
def cQ:List Nat->Ord->Ord
 | [],r=>r
 | i::l,r=>.act i (cQ l r)
theorem FR.mid{w0 w:World}{Ds:List Nat}{l:List (Nat × Obj)}(h:FR w0 Ds l w)(c n:Nat):FR w0 Ds ((l.drop c).take n) w:=⟨h.same,λp hp=>h.own p<|List.mem_of_mem_drop<|List.mem_of_mem_take hp,h.desc.sublist<|(List.take_sublist n _).trans (List.drop_sublist c l)⟩
def dQ{α:Type _}{a b:List α}:aL (a++b)=aL a+aL b:=List.length_append
def eQ{α:Type _}{l:List α}{n:Nat}:∀h:n<aL l,l[n]'h∈l:=List.getElem_mem
def fQ{n m k:Nat}:n<=m->m<=k->n<=k:=Nat.le_trans
def gQ :∀n:Nat,n<=n:=Nat.le_refl
def iQ{α:Type _}{n:Nat}{l:List α}:∀h:n<aL l,l.take (n+1)=l.take n++[l[n]]:=List.take_succ_eq_append_getElem
def jQ{α β:Type _}{f:α->β}{a b:List α}:(a++b).map f=a.map f++b.map f:=List.map_append
def kQ{α:Type _}{a:α}{b:List α}:aL (a::b)=aL b+1:=List.length_cons
def lQ{α:Type _}{a b:α}:some a=some b->a=b:=Option.some.inj
def mQ{α:Type _}{x:α}{a b:List α}:x∈a++b↔x∈a\/x∈b:=List.mem_append
def nQ{α β:Type _}{b:β}{f:α->β}{l:List α}:b∈l.map f↔∃a,a∈l/\f a=b:=List.mem_map
def oQ{α:Type _}{a b:α}{l:List α}:a∈b::l↔a=b\/a∈l:=List.mem_cons
def pQ{α:Type _}{a b:α}:a∈[b]↔a=b:=List.mem_singleton
def qQ{α:Type _}:∀a:List α,a++[]=a:=List.append_nil
def rQ{α β:Type _}{l:List α}:∀f:α->β,aL (l.map f)=aL l:=List.length_map
def sQ{α:Type _}:∀a b c:List α,a++b++c=a++(b++c):=List.append_assoc
def tQ{c:Prop}{_:Decidable c}:¬c->∀{α:Sort _}{a b:α},(if c then a else b)=b:=if_neg
def uQ{c:Prop}{_:Decidable c}:c->∀{α:Sort _}{a b:α},(if c then a else b)=a:=if_pos
def vQ :∀a b:Bool,((a&&b)=true)=(a=true/\b=true):=Bool.and_eq_true
def wQ :∀a b:Bool,((a||b)=true)=(a=true\/b=true):=Bool.or_eq_true
def xQ{p:Prop}[Decidable p]:(decide p=true)=p:=decide_eq_true_eq
def yQ{α:Sort _}{β:Sort _}{a b:α}:∀f:α->β,a=b->f a=f b:=congrArg
def zQ{α:Type _}{i:Nat}{l:List α}:aL (l.drop i)=aL l-i:=List.length_drop
def aZ{α:Type _}{a:α}{l:List α}:a∈a::l:=List.mem_cons_self
def cZ{α:Type _}:aL ([]:List α)=0:=List.length_nil
def dZ :∀n:Nat,0<=n:=Nat.zero_le
def eZ{α:Type _}{l:List α}{i:Nat}:aL l<=i->l.take i=l:=List.take_of_length_le
def fZ{p:Prop}[Decidable p]:¬p->decide p=false:=decide_eq_false
def gZ{p:Prop}[Decidable p]:p->decide p=true:=decide_eq_true
def iZ{α:Type _}:∀(y:α){a:α}{l:List α},a∈l->a∈y::l:=List.mem_cons_of_mem
def jZ{α:Type _}{i:Nat}{l:List α}:aL (l.take i)=min i (aL l):=List.length_take
def kZ{α:Type _}{a:α}:∀(c:List α){b:List α},a∈b->a∈c++b:=List.mem_append_right
def lZ{α β:Type _}{f:α->β}{a:α}{l:List α}:(a::l).map f=f a::l.map f:=List.map_cons
def mZ{p:Prop}[Decidable p]:decide p=true->p:=of_decide_eq_true
def nZ{α:Type _}:∀a:List α,[]++a=a:=List.nil_append
def lX{p:Prop}(h:p:=by omega):p:=h
end Go.Scarf
