/- A part of the proof. -/
import Derived.Test.YtbhneplafiapdaaGreatDoorMg1
set_option linter.all false
set_option maxHeartbeats 8000000
set_option maxRecDepth 10000
namespace Go.Scarf
open Go.RowKit
structure Cm where
  par:List Int
  val:Tree
def Zh(n:Int):Int->List Int->Bool
  | _,[]=>true
  | last,p::l=>decide (last<p)&&(decide (p<n)&&Zh n p l)
def Id(c:Cm)(n:Nat):Bool:=Zh n (-1) c.par&&Zb c.val
def Pb(h:List Cm):Bool:=decide (h.length<=64)&&(List.range h.length).all λi=>Id (h.getD i ⟨[],Fe⟩) i
def Rn(h:List Cm)(k:Nat):List Nat:=((h[k]?.map (·.par)).getD []).map Int.toNat
def RF(h:List Cm):Nat->Nat->Nat->Bool
  | 0,_,_=>false
  | F+1,k,j=>decide (j=k) || (Rn h k).any λp=>RF h F p j
def Rj(h:List Cm)(k j:Nat):Bool:=RF h (h.length+1) k j
def S5(h:List Cm)(k:Nat):List Nat:=(List.range h.length).filter (Rj h k)
def Gg(h:List Cm)(k:Int):Bool:=Pb h&&(decide (0<=k)&&decide (k<(h.length:Int)))
def Vl(h:List Cm)(k:Int):List Nat:=if Gg h k=true then S5 h k.toNat else []
def Cd(h:List Cm)(a b i:Nat):Bool:=Rj h a i&&Rj h b i
def Ff(h:List Cm)(a b i:Nat):Bool:=Cd h a b i&&(List.range h.length).all λk=>decide (k=i) || (!(Cd h a b k) || !(Rj h k i))
def Wm(h:List Cm)(a b:Nat):List Nat:=(List.range h.length).filter (Ff h a b)
def Gi(h:List Cm)(a b:Int):List Nat:=if Gg h a=true/\Gg h b=true then Wm h a.toNat b.toNat else []
theorem Jw{n:Int}:∀{l:List Int}{last:Int},Zh n last l=true->∀p∈l,last<p/\p<n
  | [],_,_,p,hp=>by cases hp
  | q :: l, last, h, p, hp => by
    rw[Zh,Bool.and_eq_true,Bool.and_eq_true,decide_eq_true_eq,decide_eq_true_eq]at h;rcases oQ.1 hp with rfl|hp
    ·exact⟨h.1,h.2.1⟩
    have := Jw h.2.2 p hp;exact⟨by omega,this.2⟩
theorem Xk{h:List Cm}(hr:Pb h=true){i:Nat}(hi:i<h.length):Id h[i] i=true:=by
  unfold Pb at hr;rw[Bool.and_eq_true,List.all_eq_true]at hr;have:=hr.2 i (List.mem_range.2 hi);rw[List.getD,List.getElem?_eq_getElem hi,Option.getD_some]at this;exact this
theorem Rh{h:List Cm}(hr:Pb h=true){k p:Nat}(hp:p∈Rn h k):p<k/\k<h.length:=by
  unfold Rn at hp;obtain⟨q,hq,rfl⟩:=nQ.1 hp;by_cases hk:k<h.length
  ·rw[List.getElem?_eq_getElem hk]at hq
   have hq':q∈h[k].par:=hq;have h1:=Xk hr hk;unfold Id at h1;have:=Jw (Bool.and_eq_true_iff.1 h1).1 q hq';exact⟨by omega,hk⟩
  rw[List.getElem?_eq_none Ca]at hq;cases hq
theorem R5{h:List Cm}(hr:Pb h=true):∀(F G k j:Nat),k<F->k<G->RF h F k j=RF h G k j:=by
  intro F
  induction F with
  | zero=>intro G k j hk;omega
  | succ F ih =>
    intro G k j hF hG;obtain⟨G,rfl⟩:∃g,G=g+1:=⟨G-1,by omega⟩;rw[RF,RF]
    congr 1
    have:∀l:List Nat,(∀p∈l,p<k)->(l.any λp=>RF h F p j)=l.any λp=>RF h G p j:=λl=>by
      induction l with
      | nil=>intro _;rfl
      | cons p l ihl =>
        intro hl;rw[List.any_cons,List.any_cons,ihl λq hq=>hl q (by simp[hq]),ih G p j (by have:=hl p Pa;omega) (by have:=hl p Pa;omega)]
    exact this _ λp hp=>(Rh hr hp).1
theorem Zm{h:List Cm}(hr:Pb h=true){k j:Nat}(hk:k<h.length):Rj h k j=(decide (j=k) || (Rn h k).any λp=>Rj h p j):=by
  have e:Rj h k j=RF h (h.length+1) k j:=rfl;rw[e,RF]
  congr 1
  have:∀l:List Nat,(∀p∈l,p<k)->(l.any λp=>RF h h.length p j)=l.any λp=>Rj h p j:=λl=>by
    induction l with
    | nil=>intro _;rfl
    | cons p l ihl =>
      intro hl;rw[List.any_cons,List.any_cons,ihl λq hq=>hl q (by simp[hq])]
      congr 1
      exact R5 hr _ _ _ _ (by have:=hl p Pa;omega) (by have:=hl p Pa;omega)
  exact this _ λp hp=>(Rh hr hp).1
theorem Gz{h:List Cm}(hr:Pb h=true){k:Nat}(hk:k<h.length):Rj h k k=true:=by rw[Zm hr hk];simp
theorem E8{h:List Cm}(hr:Pb h=true):∀(k j:Nat),k<h.length->Rj h k j=true->j<=k:=by
  intro k
  induction k using Nat.strongRecOn with
  | _ k ih =>
    intro j hk hu;rw[Zm hr hk,Bool.or_eq_true,decide_eq_true_eq,List.any_eq_true]at hu;rcases hu with rfl|⟨p,hp,hu⟩
    ·exact gQ _
    have := (Rh hr hp).1;have:=ih p this j Ca hu;omega
theorem Y4{h:List Cm}(hr:Pb h=true):∀(k j i:Nat),k<h.length->Rj h k j=true->Rj h j i=true->Rj h k i=true:=by
  intro k
  induction k using Nat.strongRecOn with
  | _ k ih =>
    intro j i hk h1 h2;have h0:=h1;rw[Zm hr hk,Bool.or_eq_true,decide_eq_true_eq,List.any_eq_true]at h1;rcases h1 with rfl|⟨p,hp,h1⟩
    ·exact h2
    have hl := (Rh hr hp).1;rw[Zm hr hk,Bool.or_eq_true,List.any_eq_true];exact .inr ⟨p,hp,ih p hl j i Ca h1 h2⟩
theorem Sh{h:List Cm}(hr:Pb h=true){k j:Nat}(hk:k<h.length)(hu:Rj h k j=true):j<h.length:=Nat.lt_of_le_of_lt (E8 hr k j hk hu) hk
theorem Zy{h:List Cm}(hr:Pb h=true){k j:Nat}(hk:k<h.length):j∈S5 h k↔Rj h k j=true:=by
  unfold S5;rw[List.mem_filter,List.mem_range];exact⟨λh=>h.2,λhu=>⟨Sh hr hk hu,hu⟩⟩
theorem Ad{h:List Cm}{a b i:Nat}:Cd h a b i=true↔Rj h a i=true/\Rj h b i=true:=by unfold Cd;rw[Bool.and_eq_true]
theorem Yh{h:List Cm}(hr:Pb h=true){a b i:Nat}(ha:a<h.length):Ff h a b i=true↔Cd h a b i=true/\∀k,Cd h a b k=true->Rj h k i=true->k=i:=by
  unfold Ff;rw[Bool.and_eq_true,List.all_eq_true];refine and_congr_right λ_=>⟨λH k hk hu=>?_,λH k _=>?_⟩
  ·have := H k (List.mem_range.2 (Sh hr ha (Ad.1 hk).1))
   simp only[Bool.or_eq_true,decide_eq_true_eq,Bool.not_eq_true']at this;rcases this with h1|h1|h1
   ·exact h1
   ·rw[hk]at h1;cases h1
   rw[hu]at h1;cases h1
  by_cases e : k = i
  ·simp[e]
  simp only[Bool.or_eq_true, decide_eq_true_eq, Bool.not_eq_true'];right;cases h1:Cd h a b k with
  | false=>exact .inl rfl
  | true =>
    cases h2:Rj h k i with
    | false=>exact .inr rfl
    | true=>exact absurd (H k h1 h2) e
theorem Yy{h:List Cm}(hr:Pb h=true){a b i:Nat}(ha:a<h.length):i∈Wm h a b↔Ff h a b i=true:=by
  unfold Wm;rw[List.mem_filter,List.mem_range];exact⟨λh=>h.2,λhb=>⟨Sh hr ha (Ad.1 ((Yh hr ha).1 hb).1).1,hb⟩⟩
theorem V6{h:List Cm}(hr:Pb h=true){a b:Nat}(ha:a<h.length):∀(d i:Nat),h.length-i<=d->Cd h a b i=true->∃m,Ff h a b m=true/\Rj h m i=true:=by
  intro d
  induction d with
  | zero =>
    intro i hd hb;have:=Sh hr ha (Ad.1 hb).1;omega
  | succ d ih =>
    intro i hd hb;have hi:=Sh hr ha (Ad.1 hb).1;by_cases hB:Ff h a b i=true
    ·exact⟨i,hB,Gz hr hi⟩
    have hno : ¬ ∀k, Cd h a b k = true -> Rj h k i = true -> k = i := λH => hB ((Yh hr ha).2 ⟨hb, H⟩);have⟨k,hk⟩:=Classical.not_forall.1 hno;have⟨h1,hk2⟩:=Classical.not_imp.1 hk;have⟨h2,h3⟩:=Classical.not_imp.1 hk2;have hkl:=Sh hr ha (Ad.1 h1).1;have hle:=E8 hr k i hkl h2;obtain⟨m,hm,hu⟩:=ih k Ca h1;exact⟨m,hm,Y4 hr m k i (Sh hr ha (Ad.1 ((Yh hr ha).1 hm).1).1) hu h2⟩
theorem Jv(h:List Cm)(a b:Nat):Wm h b a=Wm h a b:=by
  have e:∀i,Cd h b a i=Cd h a b i:=λi=>by unfold Cd;rw[Bool.and_comm]
  unfold Wm
  congr 1
  funext i
  unfold Ff;simp only[e]
theorem Hs{h:List Cm}(hr:Pb h=true){a b:Nat}(hb:b<h.length)(hu:Rj h b a=true):Wm h a b=[a]:=by
  have ha:=Sh hr hb hu;have hboth:Cd h a b a=true:=Ad.2 ⟨Gz hr ha,hu⟩;have key:∀i,Ff h a b i=decide (i=a):=λi=>by
    by_cases e:i=a
    ·subst e
     rw[decide_eq_true rfl];refine (Yh hr ha).2 ⟨hboth,λk hk hki=>?_⟩;have h1:=E8 hr i k ha (Ad.1 hk).1;have h2:=E8 hr k i (Sh hr ha (Ad.1 hk).1) hki;omega
    rw[decide_eq_false e, Bool.eq_false_iff];intro hB;obtain⟨h1,h2⟩:=(Yh hr ha).1 hB;exact e (h2 a hboth (Ad.1 h1).1).symm
  unfold Wm;rw[show Ff h a b=λi=>decide (i=a) from funext key];have:∀n,a<n->(List.range n).filter (λi=>decide (i=a))=[a]:=λn=>by
    induction n with
    | zero=>intro h;omega
    | succ n ih =>
      intro h;rw[List.range_succ,List.filter_append];by_cases e:a=n
      ·subst e
       have:(List.range a).filter (λi=>decide (i=a))=[]:=List.filter_eq_nil_iff.2 λx hx=>by have:=List.mem_range.1 hx;simp;omega
       rw[this];simp
      rw[ih Ca];simp;exact λh:n=a=>e h.symm
  exact this _ ha
end Go.Scarf
