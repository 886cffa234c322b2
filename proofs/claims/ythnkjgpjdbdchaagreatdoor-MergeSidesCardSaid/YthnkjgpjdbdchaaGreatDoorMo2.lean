/- A part of the proof. -/
import Derived.Test.YthnkjgpjdbdchaaGreatDoorA10
set_option linter.all false
set_option maxHeartbeats 8000000
set_option maxRecDepth 10000
namespace Go.Scarf
open Go.RowKit
theorem N8{n size:Nat}:∀{m:List (Nat × Nat)}{k j:Nat}{x y:Int},RiseN n size k j m->x<k->y<j->Rw n (x,y) (Te m)=true
  | [],_,_,_,_,_,_,_=>rfl
  | z :: m, k, j, x, y, h, hx, hy => by
    obtain⟨h1,h2,h3,h4,h5⟩:=h;have ih:=N8 (x:=(z.1:Int)) (y:=(z.2:Int)) h5 sX sX;show (!(decide ((z.1:Int)<=x) || (decide ((z.2:Int)<=y) || decide ((n:Int)<=(z.1:Int))))&&Rw n ((z.1:Int),(z.2:Int)) (Te m))=true;rw[ih,decide_eq_false sX,decide_eq_false sX,decide_eq_false sX];rfl
theorem OI{n size:Nat}:∀{m:List (Nat × Nat)}{k j:Nat},RiseN n size k j m->m.length<=n-k
  | [],_,_,_=>Nat.zero_le _
  | z :: m, k, j, h => by
    obtain⟨h1,h2,h3,h4,h5⟩:=h;have:=OI h5;rw[kQ];omega
theorem Ow{l:List Tree}(h:Bi l=0):l.length<=64:=by
  unfold Bi at h;split at h
  ·split at h
   ·cases h
   omega
  cases h
theorem RU{base v:List Tree}(h:Bi base=0)(hv:Bi v=0):∃mp,pth 0 0 (base.map Yi) (v.map Yi)=Te mp/\Bz base.length (Te mp)=true/\base.length<=64/\mp.length<=100/\v.length<=64/\(∀z∈mp,z.1<base.length/\z.2<v.length) /\
    Ue base v=⟨v,Kj base.length v.length mp 0 (λ_=>[]),Tt mp (λ_=>-1)⟩:=by
  obtain⟨mp,e,hr⟩:=X9 base v;have h1:=Ow h;have h2:=Ow hv;have h3:=OI hr;refine⟨mp,e,?_,h1,by omega,h2,hr.all,?_⟩
  ·unfold Bz
   rw[N8 hr sX sX,decide_eq_true sX,decide_eq_true sX];rfl
  unfold Ue;rw[e,Gx]
structure ByOk (n:Nat) (y:By):Prop where
  gap:∀g,g<=n->(y.gap g).length<=64/\∀i∈y.gap g,∃q:Nat,q<y.items.length/\i=(q:Int)
  img:∀k,k<n->y.img k<0\/∃q:Nat,q<y.items.length/\y.img k=(q:Int)
theorem rng_mem{a b:Nat}{i:Int}(h:i∈rng a b):∃q:Nat,a<=q/\q<b/\i=(q:Int):=by
  unfold rng at h;obtain⟨q,hq,rfl⟩:=nQ.1 h;have:=List.mem_range'_1.1 hq;exact⟨q,by omega,by omega,O⟩
theorem MR(base v:List Tree)(hv:v.length<=64):ByOk base.length (Ue base v):=by
  obtain⟨mp,e,hr⟩:=X9 base v;have em:Ue base v=⟨v,Kj base.length v.length mp 0 (λ_=>[]),Tt mp (λ_=>-1)⟩:=by
    unfold Ue;rw[e,Gx]
  obtain⟨h1,h2,h3⟩:=O9 mp 0 0 (λ_=>[]) (λ_=>-1) hr (Nat.zero_le _) (λ_ _=>rfl) (λ_ _=>rfl);have hb:∀k,F3 mp 0 k<=v.length:=λk=>ZO hr;have key:∀g,g<=base.length->∃a b,b<=v.length/\Kj base.length v.length mp 0 (λ_=>[]) g=rng a b:=λg hg=>by
    rcases Nat.lt_or_ge g base.length with hlt|hge
    ·rcases h1 g (Nat.zero_le _) hlt with ⟨b, k1, k2, k3, k4⟩|⟨k1, k2, k3⟩
     ·have := hb (g + 1)
      exact⟨_,b,by omega,k2⟩
     exact⟨0,0,Nat.zero_le _,by rw[k2];rfl⟩
    obtain rfl : g = base.length := by omega
    exact⟨_,_,gQ _,h2⟩
  rw[em];refine⟨λg hg=>?_,λk hk=>?_⟩
  ·obtain⟨a, b, hle, he⟩ := key g hg
   show (Kj base.length v.length mp 0 (λ_=>[]) g).length<=64/\∀i∈Kj base.length v.length mp 0 (λ_=>[]) g,_;rw[he];refine⟨by rw[G7];omega,λi hi=>?_⟩;obtain⟨q,h4,h5,h6⟩:=rng_mem hi;exact⟨q,by show q<v.length;omega,h6⟩
  rcases h1 k (Nat.zero_le _) hk with ⟨b, k1, k2, k3, k4⟩|⟨k1, k2, k3⟩
  ·have := hb (k + 1)
   exact .inr ⟨b,by show b<v.length;omega,k1⟩
  exact .inl (by show Tt mp (λ_=>-1) k<0;rw[k1];decide)
theorem DS{y:By}:∀{l:List Int},(∀i∈l,∃q:Nat,q<y.items.length/\i=(q:Int))->(l.filterMap λi=>y.at i)=l.map λi=>y.items.getD i.toNat zeroT
  | [],_=>rfl
  | i :: l, h => by
    obtain⟨q,hq,rfl⟩:=h i Da;have e:y.at (q:Int)=some y.items[q]:=by
      unfold By.at;rw[if_neg sX];simp[hq]
    rw[List.filterMap_cons,e,List.map_cons,DS λi hi=>h i (by simp[hi])];simp[List.getD,hq]
end Go.Scarf
