/- A part of the proof. -/
import Derived.Test.YtbhneplafiapdaaGreatDoorMg1
set_option linter.all false
set_option maxHeartbeats 8000000
set_option maxRecDepth 10000
namespace Go.Scarf
open Go.RowKit
structure Cm where
  par:List Int
  val:Tree
def Th(n:Int):Int->List Int->Bool
  | _,[]=>true
  | last,p::l=>decide (last<p)&&(decide (p<n)&&Th n p l)
def Nd(c:Cm)(n:Nat):Bool:=Th n (-1) c.par&&Kc c.val
def Rb(h:List Cm):Bool:=decide (h.length<=64)&&(List.range h.length).all λi=>Nd (h.getD i ⟨[],Ge⟩) i
def On(h:List Cm)(k:Nat):List Nat:=((h[k]?.map (·.par)).getD []).map Int.toNat
def XF(h:List Cm):Nat->Nat->Nat->Bool
  | 0,_,_=>false
  | F+1,k,j=>decide (j=k) || (On h k).any λp=>XF h F p j
def Xj(h:List Cm)(k j:Nat):Bool:=XF h (h.length+1) k j
def Q7(h:List Cm)(k:Nat):List Nat:=(List.range h.length).filter (Xj h k)
def Xg(h:List Cm)(k:Int):Bool:=Rb h&&(decide (0<=k)&&decide (k<(h.length:Int)))
def Em(h:List Cm)(k:Int):List Nat:=if Xg h k=true then Q7 h k.toNat else []
def Hd(h:List Cm)(a b i:Nat):Bool:=Xj h a i&&Xj h b i
def Of(h:List Cm)(a b i:Nat):Bool:=Hd h a b i&&(List.range h.length).all λk=>decide (k=i) || (!(Hd h a b k) || !(Xj h k i))
def Gm(h:List Cm)(a b:Nat):List Nat:=(List.range h.length).filter (Of h a b)
def Bj(h:List Cm)(a b:Int):List Nat:=if Xg h a=true/\Xg h b=true then Gm h a.toNat b.toNat else []
theorem Iu{n:Int}:∀{l:List Int}{last:Int},Th n last l=true->∀p∈l,last<p/\p<n
  | [],_,_,p,hp=>by cases hp
  | q :: l, last, h, p, hp => by
    rw[Th,Bool.and_eq_true,Bool.and_eq_true,decide_eq_true_eq,decide_eq_true_eq]at h;rcases oQ.1 hp with rfl|hp
    ·exact⟨h.1,h.2.1⟩
    have := Iu h.2.2 p hp;exact⟨by omega,this.2⟩
theorem Vk{h:List Cm}(hr:Rb h=true){i:Nat}(hi:i<h.length):Nd h[i] i=true:=by
  unfold Rb at hr;rw[Bool.and_eq_true,List.all_eq_true]at hr;have:=hr.2 i (List.mem_range.2 hi);rw[List.getD,List.getElem?_eq_getElem hi,Option.getD_some]at this;exact this
theorem Ai{h:List Cm}(hr:Rb h=true){k p:Nat}(hp:p∈On h k):p<k/\k<h.length:=by
  unfold On at hp;obtain⟨q,hq,rfl⟩:=nQ.1 hp;by_cases hk:k<h.length
  ·rw[List.getElem?_eq_getElem hk]at hq
   have hq':q∈h[k].par:=hq;have h1:=Vk hr hk;unfold Nd at h1;have:=Iu (Bool.and_eq_true_iff.1 h1).1 q hq';exact⟨by omega,hk⟩
  rw[List.getElem?_eq_none Ca]at hq;cases hq
theorem I5{h:List Cm}(hr:Rb h=true):∀(F G k j:Nat),k<F->k<G->XF h F k j=XF h G k j:=by
  intro F
  induction F with
  | zero=>intro G k j hk;omega
  | succ F ih =>
    intro G k j hF hG;obtain⟨G,rfl⟩:∃g,G=g+1:=⟨G-1,by omega⟩;rw[XF,XF]
    congr 1
    have:∀l:List Nat,(∀p∈l,p<k)->(l.any λp=>XF h F p j)=l.any λp=>XF h G p j:=λl=>by
      induction l with
      | nil=>intro _;rfl
      | cons p l ihl =>
        intro hl;rw[List.any_cons,List.any_cons,ihl λq hq=>hl q (by simp[hq]),ih G p j (by have:=hl p Pa;omega) (by have:=hl p Pa;omega)]
    exact this _ λp hp=>(Ai hr hp).1
theorem Vm{h:List Cm}(hr:Rb h=true){k j:Nat}(hk:k<h.length):Xj h k j=(decide (j=k) || (On h k).any λp=>Xj h p j):=by
  have e:Xj h k j=XF h (h.length+1) k j:=rfl;rw[e,XF]
  congr 1
  have:∀l:List Nat,(∀p∈l,p<k)->(l.any λp=>XF h h.length p j)=l.any λp=>Xj h p j:=λl=>by
    induction l with
    | nil=>intro _;rfl
    | cons p l ihl =>
      intro hl;rw[List.any_cons,List.any_cons,ihl λq hq=>hl q (by simp[hq])]
      congr 1
      exact I5 hr _ _ _ _ (by have:=hl p Pa;omega) (by have:=hl p Pa;omega)
  exact this _ λp hp=>(Ai hr hp).1
theorem T0{h:List Cm}(hr:Rb h=true){k:Nat}(hk:k<h.length):Xj h k k=true:=by rw[Vm hr hk];simp
theorem Q9{h:List Cm}(hr:Rb h=true):∀(k j:Nat),k<h.length->Xj h k j=true->j<=k:=by
  intro k
  induction k using Nat.strongRecOn with
  | _ k ih =>
    intro j hk hu;rw[Vm hr hk,Bool.or_eq_true,decide_eq_true_eq,List.any_eq_true]at hu;rcases hu with rfl|⟨p,hp,hu⟩
    ·exact gQ _
    have := (Ai hr hp).1;have:=ih p this j Ca hu;omega
theorem W1{h:List Cm}(hr:Rb h=true):∀(k j i:Nat),k<h.length->Xj h k j=true->Xj h j i=true->Xj h k i=true:=by
  intro k
  induction k using Nat.strongRecOn with
  | _ k ih =>
    intro j i hk h1 h2;have h0:=h1;rw[Vm hr hk,Bool.or_eq_true,decide_eq_true_eq,List.any_eq_true]at h1;rcases h1 with rfl|⟨p,hp,h1⟩
    ·exact h2
    have hl := (Ai hr hp).1;rw[Vm hr hk,Bool.or_eq_true,List.any_eq_true];exact .inr ⟨p,hp,ih p hl j i Ca h1 h2⟩
theorem Yh{h:List Cm}(hr:Rb h=true){k j:Nat}(hk:k<h.length)(hu:Xj h k j=true):j<h.length:=Nat.lt_of_le_of_lt (Q9 hr k j hk hu) hk
theorem Hy{h:List Cm}(hr:Rb h=true){k j:Nat}(hk:k<h.length):j∈Q7 h k↔Xj h k j=true:=by
  unfold Q7;rw[List.mem_filter,List.mem_range];exact⟨λh=>h.2,λhu=>⟨Yh hr hk hu,hu⟩⟩
theorem Jd{h:List Cm}{a b i:Nat}:Hd h a b i=true↔Xj h a i=true/\Xj h b i=true:=by unfold Hd;rw[Bool.and_eq_true]
theorem Rh{h:List Cm}(hr:Rb h=true){a b i:Nat}(ha:a<h.length):Of h a b i=true↔Hd h a b i=true/\∀k,Hd h a b k=true->Xj h k i=true->k=i:=by
  unfold Of;rw[Bool.and_eq_true,List.all_eq_true];refine and_congr_right λ_=>⟨λH k hk hu=>?_,λH k _=>?_⟩
  ·have := H k (List.mem_range.2 (Yh hr ha (Jd.1 hk).1))
   simp only[Bool.or_eq_true,decide_eq_true_eq,Bool.not_eq_true']at this;rcases this with h1|h1|h1
   ·exact h1
   ·rw[hk]at h1;cases h1
   rw[hu]at h1;cases h1
  by_cases e : k = i
  ·simp[e]
  simp only[Bool.or_eq_true, decide_eq_true_eq, Bool.not_eq_true'];right;cases h1:Hd h a b k with
  | false=>exact .inl rfl
  | true =>
    cases h2:Xj h k i with
    | false=>exact .inr rfl
    | true=>exact absurd (H k h1 h2) e
theorem Py{h:List Cm}(hr:Rb h=true){a b i:Nat}(ha:a<h.length):i∈Gm h a b↔Of h a b i=true:=by
  unfold Gm;rw[List.mem_filter,List.mem_range];exact⟨λh=>h.2,λhb=>⟨Yh hr ha (Jd.1 ((Rh hr ha).1 hb).1).1,hb⟩⟩
theorem P7{h:List Cm}(hr:Rb h=true){a b:Nat}(ha:a<h.length):∀(d i:Nat),h.length-i<=d->Hd h a b i=true->∃m,Of h a b m=true/\Xj h m i=true:=by
  intro d
  induction d with
  | zero =>
    intro i hd hb;have:=Yh hr ha (Jd.1 hb).1;omega
  | succ d ih =>
    intro i hd hb;have hi:=Yh hr ha (Jd.1 hb).1;by_cases hB:Of h a b i=true
    ·exact⟨i,hB,T0 hr hi⟩
    have hno : ¬ ∀k, Hd h a b k = true -> Xj h k i = true -> k = i := λH => hB ((Rh hr ha).2 ⟨hb, H⟩);have⟨k,hk⟩:=Classical.not_forall.1 hno;have⟨h1,hk2⟩:=Classical.not_imp.1 hk;have⟨h2,h3⟩:=Classical.not_imp.1 hk2;have hkl:=Yh hr ha (Jd.1 h1).1;have hle:=Q9 hr k i hkl h2;obtain⟨m,hm,hu⟩:=ih k Ca h1;exact⟨m,hm,W1 hr m k i (Yh hr ha (Jd.1 ((Rh hr ha).1 hm).1).1) hu h2⟩
theorem M6(h:List Cm)(a b:Nat):Gm h b a=Gm h a b:=by
  have e:∀i,Hd h b a i=Hd h a b i:=λi=>by unfold Hd;rw[Bool.and_comm]
  unfold Gm
  congr 1
  funext i
  unfold Of;simp only[e]
theorem SK{h:List Cm}(hr:Rb h=true){a b:Nat}(hb:b<h.length)(hu:Xj h b a=true):Gm h a b=[a]:=by
  have ha:=Yh hr hb hu;have hboth:Hd h a b a=true:=Jd.2 ⟨T0 hr ha,hu⟩;have key:∀i,Of h a b i=decide (i=a):=λi=>by
    by_cases e:i=a
    ·subst e
     rw[decide_eq_true rfl];refine (Rh hr ha).2 ⟨hboth,λk hk hki=>?_⟩;have h1:=Q9 hr i k ha (Jd.1 hk).1;have h2:=Q9 hr k i (Yh hr ha (Jd.1 hk).1) hki;omega
    rw[decide_eq_false e, Bool.eq_false_iff];intro hB;obtain⟨h1,h2⟩:=(Rh hr ha).1 hB;exact e (h2 a hboth (Jd.1 h1).1).symm
  unfold Gm;rw[show Of h a b=λi=>decide (i=a) from funext key];have:∀n,a<n->(List.range n).filter (λi=>decide (i=a))=[a]:=λn=>by
    induction n with
    | zero=>intro h;omega
    | succ n ih =>
      intro h;rw[List.range_succ,List.filter_append];by_cases e:a=n
      ·subst e
       have:(List.range a).filter (λi=>decide (i=a))=[]:=List.filter_eq_nil_iff.2 λx hx=>by have:=List.mem_range.1 hx;simp;omega
       rw[this];simp
      rw[ih Ca];simp;exact λh:n=a=>e h.symm
  exact this _ ha
end Go.Scarf
