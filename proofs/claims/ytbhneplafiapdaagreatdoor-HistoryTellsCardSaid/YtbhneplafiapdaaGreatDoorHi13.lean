/- A part of the proof. -/
import Derived.Test.YtbhneplafiapdaaGreatDoorIh
set_option linter.all false
set_option maxHeartbeats 8000000
set_option maxRecDepth 10000
namespace Go.Scarf
open Go.RowKit Go.Proofs Go.Proofs.Tryz
attribute [local irreducible] P8 OO
theorem DL(h:List Cm)(A:Option Addr)(c:Nat)(k:Int)(hk:-9223372036854775808<=k/\k<=9223372036854775807)(S:Nat->Prop)(w0:World)(hX:Rep S w0 (Xg h) [.slice A h.length c])(hT:∀x∈h,Ai x)(hG:Gl w0):Calls prog 17 #[.slice A h.length c,J k] w0 (Vd λv w'=>∃A c,v=.slice A (Gj h k).length c/\Rep (λ_=>True) w' (.slice ((Gj h k).map We)) [.slice A (Gj h k).length c]/\Same [] w0 w'):=by
  refine (Uy h A c k hk S w0 hX hT hG).mono λe w' ⟨v,he,A2,c2,hv,hr,hs⟩=>⟨v,he,A2,c2,?_,?_,hs⟩
  ·unfold Gj;rw[rQ];exact hv
  unfold Gj;rw[rQ];exact hr.weaken λ_ _ _=>trivial
theorem VM(h:List Cm)(A:Option Addr)(c:Nat)(a b:Int)(ha:-9223372036854775808<=a/\a<=9223372036854775807)(hb:-9223372036854775808<=b/\b<=9223372036854775807)(S:Nat->Prop)(w0:World)(hX:Rep S w0 (Xg h) [.slice A h.length c])(hT:∀x∈h,Ai x)(hG:Gl w0):Calls prog 19 #[.slice A h.length c,J a,J b] w0 (Vd λv w'=>∃A c,v=.slice A (Ci h a b).length c/\Rep (λ_=>True) w' (.slice ((Ci h a b).map We)) [.slice A (Ci h a b).length c]/\Same [] w0 w'):=by
  refine (Cz h A c a b ha hb S w0 hX hT hG).mono λe w' ⟨v,he,A2,c2,hv,hr,hs⟩=>⟨v,he,A2,c2,?_,?_,hs⟩
  ·unfold Ci;rw[rQ];exact hv
  unfold Ci;rw[rQ];exact hr.weaken λ_ _ _=>trivial
theorem K_{h:List Cm}{m:Int}(hm:0<=m)(h2:m<=200)(hf:XP h m):∀x∈h,Ub x.val<=200/\He x.val<=2048:=λx hx=>by
  obtain⟨i,hi,rfl⟩:=List.getElem_of_mem hx;obtain⟨h1,-,h3⟩:=K5 hm (hf.2 i hi).1;have:=Lv h[i].val h3;exact⟨by omega,by omega⟩
theorem AR{h:List Cm}(hs:∀x∈h,Ub x.val<=200/\He x.val<=2048):∀x∈h,Ai x:=λx hx=>⟨by have:=(hs x hx).1;omega,Uj _ (by have:=(hs x hx).2;omega)⟩
open Go.RowKit
def Pp(N:Nat)(f:Nat->Bool):Array Value:=((List.range N).map λk=>Value.bool (f k)).toArray
theorem P4(N:Nat)(f:Nat->Bool):(Pp N f).size=N:=by simp[Pp]
theorem PM{N k:Nat}{f:Nat->Bool}(h:k<N):(Pp N f)[k]? = some (.bool (f k)):=by simp[Pp,h]
def Mp(f:Nat->Bool)(k:Nat):Nat->Bool:=λx=>if x=k then true else f x
theorem I_{N k:Nat}{f:Nat->Bool}:putA (Pp N f) k [.bool true]=Pp N (Mp f k):=by
  rw[putA,putA];apply Array.ext
  ·simp[Pp]
  intro i h1 h2;rw[Array.getElem_setIfInBounds (by simpa using h1)];by_cases e:k=i
  ·subst e;simp[Pp,Mp]
  have e' : ¬ i = k := λh => e h.symm;simp[Pp,Mp,e,e']
theorem WG(N:Nat):(List.replicate N (Value.bool false)).toArray=Pp N λ_=>false:=by
  apply Array.ext
  ·simp[Pp]
  intro i h1 h2;simp[Pp]
theorem FR.bolCell{w0 w:World}{Ds:List Nat}{bs:List (Nat × Obj)}(hF:FR w0 Ds bs w)(i:Nat){b N k:Nat}{f:Nat->Bool}{T:TypeId}(hi:bs[i]? = some (b,.cells (Pp N f) T))(hk:k<N):w.cell? ⟨b,k,none⟩=some (.bool (f k)):=by
  rw[Vc (hF.heap hi),PM hk]
def bolR(w:World)(A:Option Addr)(N:Nat)(f:Nat->Bool):Prop:=∀k,k<N->∃b,A=some ⟨b,0,none⟩/\w.cell? ⟨b,k,none⟩=some (.bool (f k))
theorem bolR.ext{w w':World}{A:Option Addr}{N:Nat}{f:Nat->Bool}(h:bolR w A N f)(hs:Same [] w w'):bolR w' A N f:=λk hk=>by
  obtain⟨b,e,hc⟩:=h k hk;exact⟨b,e,((FR.start w []).ext hs).cell0 hc⟩
theorem bolR.at{w:World}{b N:Nat}{f:Nat->Bool}(h:bolR w (some ⟨b,0,none⟩) N f){k:Nat}(hk:k<N):w.cell? ⟨b,k,none⟩=some (.bool (f k)):=by
  obtain⟨b',e,hc⟩:=h k hk;obtain rfl:b=b':=by simpa using e
  exact hc
theorem bolR.lt{w:World}{b N:Nat}{f:Nat->Bool}(h:bolR w (some ⟨b,0,none⟩) N f)(hN:0<N):b<w.heap.size:=World.block_lt_of_cell? _ _ (h.at hN)
theorem bolR.same{E:List Nat}{w w':World}{b N:Nat}{f:Nat->Bool}(h:bolR w (some ⟨b,0,none⟩) N f)(hs:Same E w w')(hb:b∉E):bolR w' (some ⟨b,0,none⟩) N f:=λk hk=>by
  refine⟨b,O,?_⟩;have hc:=h.at hk;rw[<-hc];exact World.cell?_of_block (w:=w) (hs.block b (World.block_lt_of_cell? _ _ hc) hb)
structure MkI (h:List Cm) (k:Nat) (i:Nat) (f:Nat->Bool):Prop where
  self:f k=true
  sound:∀j,f j=true->Rh h k j=true
  done:∀q,i<=q->f q=true->∀p∈Ni h q,f p=true
structure MkJ (h:List Cm) (k i n:Nat) (f:Nat->Bool):Prop where
  self:f k=true
  sound:∀j,f j=true->Rh h k j=true
  done:∀q,i<q->f q=true->∀p∈Ni h q,f p=true
  some:f i=true->∀p∈(Ni h i).take n,f p=true
theorem MkI.start{h:List Cm}{k:Nat}(hr:Pc h=true)(hk:k<h.length):MkI h k (k+1) (Mp (λ_=>false) k):=by
  refine⟨by simp[Mp],λj hj=>?_,λq hq hf=>?_⟩
  ·by_cases e : j = k
   ·subst e;exact SD hr hk
   simp[Mp,e]at hj
  have : q ≠ k := by omega
  simp[Mp,this]at hf
theorem MkI.open{h:List Cm}{k i:Nat}{f:Nat->Bool}(hm:MkI h k (i+1) f):MkJ h k i 0 f:=⟨hm.self,hm.sound,λq hq=>hm.done q hq,λ_ p hp=>by simp at hp⟩
theorem MkJ.step{h:List Cm}{k i n:Nat}{f:Nat->Bool}(hm:MkJ h k i n f)(hr:Pc h=true)(hk:k<h.length)(hi:f i=true)(hn:n<(Ni h i).length):MkJ h k i (n+1) (Mp f ((Ni h i)[n])):=by
  have hup:∀j,f j=true->Mp f ((Ni h i)[n]) j=true:=λj hj=>by unfold Mp;split;rfl;exact hj
  have hp:(Ni h i)[n]∈Ni h i:=eQ hn;have hlt:=Sh hr hp;have hlow:∀q,i<=q->Mp f ((Ni h i)[n]) q=true->f q=true:=λq hq hs=>by
    unfold Mp at hs;rw[if_neg U]at hs;exact hs
  refine⟨hup _ hm.self,λj hj=>?_,λq hq hf p hpm=>hup _ (hm.done q hq (hlow q U hf) p hpm),λ_ p hpm=>?_⟩
  ·by_cases e : j = (Ni h i)[n]
   ·subst e
    have h1:=hm.sound i hi;refine X7 hr k i _ hk h1 ?_;rw[Ul hr hlt.2];have:=SD hr (k:=(Ni h i)[n]) U;have h2:((Ni h i).any λp=>Rh h p ((Ni h i)[n]))=true:=List.any_eq_true.2 ⟨_,hp,this⟩;rw[h2,Bool.or_true]
   unfold Mp at hj;rw[if_neg e]at hj;exact hm.sound j hj
  rw[iQ hn, mQ, pQ]at hpm;rcases hpm with hpm|rfl
  ·exact hup _ (hm.some hi p hpm)
  simp[Mp]
theorem MkJ.close{h:List Cm}{k i n:Nat}{f:Nat->Bool}(hm:MkJ h k i n f)(he:f i=false\/(Ni h i).length<=n):MkI h k i f:=⟨hm.self,hm.sound,λq hq hf p hp=>by
  rcases Nat.lt_or_ge i q with h1|h1
  ·exact hm.done q h1 hf p hp
  obtain rfl : i = q := by omega
  rcases he with he|he
  ·rw[he]at hf;cases hf
  exact hm.some hf p (by rw[List.take_of_length_le he];exact hp)⟩
theorem MkI.all{h:List Cm}{k:Nat}{f:Nat->Bool}(hm:MkI h k 0 f)(hr:Pc h=true)(hk:k<h.length):∀j,f j=Rh h k j:=λj=>by
  have key:∀q,q<h.length->f q=true->∀j,Rh h q j=true->f j=true:=by
    intro q
    induction q using Nat.strongRecOn with
    | _ q ih =>
      intro hq hf j hj;rw[Ul hr hq,Bool.or_eq_true,decide_eq_true_eq]at hj;rcases hj with rfl|hj
      ·exact hf
      obtain⟨p, hp, hu⟩ := List.any_eq_true.1 hj;have:=Sh hr hp;exact ih p this.1 U (hm.done q (Nat.zero_le _) hf p hp) j hu
  cases e:f j with
  | true=>exact (hm.sound j e).symm
  | false =>
    cases e2:Rh h k j with
    | false=>rfl
    | true=>rw[key k hk hm.self j e2]at e;cases e
theorem N8{p:Nat->Bool}{i:Nat}(h:p i=true):(List.range (i+1)).filter p=(List.range i).filter p++[i]:=by rw[List.range_succ,List.filter_append];simp[h]
theorem EE{p:Nat->Bool}{i:Nat}(h:p i=false):(List.range (i+1)).filter p=(List.range i).filter p:=by rw[List.range_succ,List.filter_append];simp[h]
def H_(l:List Nat):List Value:=l.map λj:Nat=>Value.int .i64 (j:Int)
theorem F3(l:List Nat)(i:Nat):H_ l++[Value.int .i64 (i:Int)]=H_ (l++[i]):=by simp[H_]
theorem Hv{S:Nat->Prop}{w:World}:∀{l:List Nat},(∀i∈l,i<=1000)->RepL S w ((l.map λi:Nat=>(i:Int)).map We) (H_ l)
  | [],_=>RepL.nil_mk
  | i :: l, h => RepL.cons_mk (Rep.lit_mk (v := J (i : Int)) (show Kr _ from by
      have:=h i Ua;have h0:-9223372036854775808<=(i:Int)/\(i:Int)<=9223372036854775807:=by omega
      exact h0)) (Hv λx hx=>h x (by simp[hx]))
def HI(h:List Cm)(a b i k:Nat):Bool:=Ee h a b i&&(List.range k).all λq=>decide (q<=i) || !(Ee h a b q&&Rh h q i)
theorem TG{h:List Cm}{a b i:Nat}:HI h a b i (i+1)=Ee h a b i:=by
  unfold HI;have:((List.range (i+1)).all λq=>decide (q<=i) || !(Ee h a b q&&Rh h q i))=true:=by
    rw[List.all_eq_true];intro q hq;rw[decide_eq_true (by have:=List.mem_range.1 hq;omega),Bool.true_or]
  rw[this,Bool.and_true]
theorem IK{h:List Cm}{a b i k:Nat}(hik:i<k)(hu:HI h a b i k=true):HI h a b i (k+1) = !(Ee h a b k&&Rh h k i):=by
  unfold HI at hu ⊢;rw[Bool.and_eq_true]at hu;rw[List.range_succ,List.all_append,hu.1,hu.2,List.all_cons,List.all_nil,decide_eq_false U];simp
theorem XO{h:List Cm}{a b i k:Nat}(hr:Pc h=true)(hi:i<h.length)(hk:k<=h.length)(he:h.length<=k\/HI h a b i k=false):HI h a b i k=Qh h a b i:=by
  have key:HI h a b i h.length=Qh h a b i:=by
    unfold HI Qh
    congr 1
    rw[Bool.eq_iff_iff,List.all_eq_true,List.all_eq_true];refine forall_congr' λq=>forall_congr' λhq=>?_;have hq:=List.mem_range.1 hq;by_cases h1:q=i
    ·subst h1;simp
    by_cases h2 : q <= i
    ·have:Rh h q i=false:=by
       rw[Bool.eq_false_iff];intro hu;have:=ZR hr q i hq hu;omega
     simp[h2,this]
    simp[h1,h2]
  rcases Nat.lt_or_ge k h.length with h1|h1
  ·have hf := he.resolve_left U
   rw[hf,<-key,eq_comm,Bool.eq_false_iff];intro ht;have:HI h a b i k=true:=by
     unfold HI at ht ⊢;rw[Bool.and_eq_true,List.all_eq_true]at ht ⊢;exact⟨ht.1,λq hq=>ht.2 q (List.mem_range.2 (by have:=List.mem_range.1 hq;omega))⟩
   rw[this]at hf;cases hf
  obtain rfl : k = h.length := by omega
  exact key
end Go.Scarf
