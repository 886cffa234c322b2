/- A part of the proof. -/
import Derived.Test.YthnkjgpjdbdchaaGreatDoorA7
set_option linter.all false
set_option maxHeartbeats 8000000
set_option maxRecDepth 10000
namespace Go.Scarf
open Go.RowKit Go.Proofs
def RiseN(n size:Nat):Nat->Nat->List (Nat × Nat)->Prop
  | _,j,[]=>j<=size
  | k,j,z::m=>k<=z.1/\z.1<n/\j<=z.2/\z.2<size/\RiseN n size (z.1+1) (z.2+1) m
def B4:List (Nat × Nat)->Nat->Nat->Nat
  | [],j,_=>j
  | z::m,j,k=>if k<=z.1 then j else B4 m (z.2+1) k
theorem FT{n size:Nat}:∀{m:List (Nat × Nat)}{k0 j k:Nat},RiseN n size k0 j m->k<=k0->B4 m j k=j
  | [],_,_,_,_,_=>rfl
  | z::m,k0,j,k,h,hk=>by rw[B4,if_pos (by have:=h.1;omega)]
theorem JQ{n size:Nat}:∀{m:List (Nat × Nat)}{k0 j k:Nat},RiseN n size k0 j m->B4 m j k<=size
  | [],_,_,_,h=>h
  | z :: m, k0, j, k, h => by
    obtain⟨h1,h2,h3,h4,h5⟩:=h;rw[B4];split
    ·omega
    exact JQ h5
theorem V_{n size:Nat}:∀{m:List (Nat × Nat)}{k0 j k:Nat}{f:Nat->Int},RiseN n size k0 j m->k<k0->Cu m f k=f k
  | [],_,_,_,_,_,_=>rfl
  | z :: m, k0, j, k, f, h, hk => by
    have h1:=h.1;rw[Cu,V_ h.2.2.2.2 tX,Xv tX]
theorem X5{n size:Nat}:∀{m:List (Nat × Nat)}{k0 j k:Nat}{gp:Nat->List Int},RiseN n size k0 j m->k<k0->k≠n->Rj n size m j gp k=gp k
  | [],_,_,_,_,_,_,hn=>by rw[Rj,Nl hn]
  | z :: m, k0, j, k, gp, h, hk, hn => by
    have h1:=h.1;rw[Rj,X5 h.2.2.2.2 tX hn,Nl tX]
theorem TA{n size:Nat}:∀(m:List (Nat × Nat))(k0 j:Nat)(gp:Nat->List Int)(f:Nat->Int),RiseN n size k0 j m->k0<=n->(∀k,k0<=k->gp k=[])->(∀k,k0<=k->f k = -1) ->
    (∀k,k0<=k->k<n->((∃b:Nat,Cu m f k=(b:Int)/\Rj n size m j gp k=rng (B4 m j k) b/\B4 m j (k+1)=b+1/\B4 m j k<=b)\/(Cu m f k = -1/\Rj n size m j gp k=[]/\B4 m j (k+1)=B4 m j k))) /\
    Rj n size m j gp n=rng (B4 m j n) size/\B4 m j n<=size
  | [], k0, j, gp, f, h, hk0, hg, hf => by
    refine⟨λk hk hkn=>.inr ⟨hf k hk,by rw[Rj,Nl tX];exact hg k hk,O⟩,?_,h⟩;rw[Rj,Cq,hg n hk0];rfl
  | z :: m, k0, j, gp, f, h, hk0, hg, hf => by
    obtain⟨h1,h2,h3,h4,h5⟩:=h;have hg':∀k,z.1+1<=k->EQ gp z.1 (gp z.1++rng j z.2) k=[]:=λk hk=>by rw[Nl tX];exact hg k tX
    have hf':∀k,z.1+1<=k->Xj f z.1 (z.2:Int) k = -1:=λk hk=>by rw[Xv tX];exact hf k tX
    obtain⟨i1,i2,i3⟩:=TA m (z.1+1) (z.2+1) _ _ h5 tX hg' hf';have ha:∀k,z.1<k->B4 (z::m) j k=B4 m (z.2+1) k:=λk hk=>by rw[B4,if_neg tX]
    refine⟨λk hk hkn=>?_,by rw[Rj,i2,ha n h2],by rw[ha n h2];exact i3⟩;rw[Cu,Rj];rcases Nat.lt_trichotomy k z.1 with hlt|heq|hgt
    ·refine .inr ⟨?_, ?_, ?_⟩
     ·rw[V_ h5 tX,Xv tX];exact hf k hk
     ·rw[X5 h5 tX tX,Nl tX];exact hg k hk
     rw[B4,B4,if_pos tX,if_pos tX]
    ·subst heq
     refine .inl ⟨z.2,?_,?_,?_,?_⟩
     ·rw[V_ h5 tX,Iy]
     ·rw[X5 h5 tX tX,Cq,hg _ hk,B4,if_pos tX];rfl
     ·rw[ha _ tX,FT h5 (gQ _)]
     rw[B4,if_pos tX];exact h3
    rw[ha k hgt, ha (k + 1) tX];exact i1 k tX hkn
theorem RiseN.all{n size:Nat}:∀{m:List (Nat × Nat)}{k j:Nat},RiseN n size k j m->∀z∈m,z.1<n/\z.2<size
  | [],_,_,_,z,hz=>by cases hz
  | y :: m, _, _, h, z, hz => by
    rcases oQ.1 hz with rfl|hz
    ·exact⟨h.2.1,h.2.2.2.1⟩
    exact RiseN.all h.2.2.2.2 z hz
end Go.Scarf
