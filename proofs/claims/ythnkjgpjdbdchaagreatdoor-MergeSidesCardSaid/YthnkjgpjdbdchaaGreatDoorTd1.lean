/- A part of the proof. -/
import Derived.Test.YthnkjgpjdbdchaaGreatDoorMem
set_option linter.all false
set_option maxHeartbeats 8000000
set_option maxRecDepth 10000
namespace Go.Scarf
structure Nodes where
  lab:Nat->Str
  lf:Nat->Nat
  le:∀x,lf x<=x
def turn(a b:Nodes)(x y:Nat):Nat:=if a.lab x=b.lab y then 0 else 1
def T5(a b:Nodes):Nat->Nat->Nat->Nat->Nat->Nat
  | 0,i,k,j,l=>(k-i)+(l-j)
  | f + 1, i, k, j, l =>
    if k<=i then l-j else if l<=j then k-i else
      let m:=min (T5 a b f i (k-1) j l) (T5 a b f i k j (l-1))+1
      if i<=a.lf (k-1)/\j<=b.lf (l-1) then min m (T5 a b f i (a.lf (k-1)) j (b.lf (l-1))+T5 a b f (a.lf (k-1)) (k-1) (b.lf (l-1)) (l-1)+turn a b (k-1) (l-1)) else m
def fd(a b:Nodes)(i k j l:Nat):Nat:=T5 a b ((k-i)+(l-j)) i k j l
theorem Jw(a b:Nodes):∀(f g i k j l:Nat),(k-i)+(l-j)<=f->(k-i)+(l-j)<=g->T5 a b f i k j l=T5 a b g i k j l
  | 0,0,_,_,_,_,_,_=>rfl
  | 0,g+1,i,k,j,l,h,_=>by rw[T5,T5,if_pos sX];omega
  | f+1,0,i,k,j,l,_,h=>by rw[T5,T5,if_pos sX];omega
  | f + 1, g + 1, i, k, j, l, h1, h2 => by
    rw[T5,T5];split
    ·rfl
    split
    ·rfl
    have ha:=a.le (k-1);have hb:=b.le (l-1);have e1:T5 a b f i (k-1) j l=T5 a b g i (k-1) j l:=Jw a b f g _ _ _ _ sX sX;have e2:T5 a b f i k j (l-1)=T5 a b g i k j (l-1):=Jw a b f g _ _ _ _ sX sX;simp only[e1,e2];split
    ·rename_i hh
     rw[Jw a b f g i (a.lf (k-1)) j (b.lf (l-1)) sX sX,Jw a b f g (a.lf (k-1)) (k-1) (b.lf (l-1)) (l-1) sX sX]
    rfl
section
variable {a b:Nodes}{i k j l:Nat}
theorem Qs(h:k<=i):fd a b i k j l=l-j:=by
  rw[fd];cases hf:(k-i)+(l-j)with
  | zero=>rw[T5];omega
  | succ f=>rw[T5,if_pos h]
theorem Vw(h:l<=j):fd a b i k j l=k-i:=by
  rw[fd];cases hf:(k-i)+(l-j)with
  | zero=>rw[T5];omega
  | succ f =>
    rw[T5,if_pos h];split <;> omega
theorem U1(h1:i<k)(h2:j<l):fd a b i k j l =
    if i<=a.lf (k-1)/\j<=b.lf (l-1) then min (min (fd a b i (k-1) j l) (fd a b i k j (l-1))+1) (fd a b i (a.lf (k-1)) j (b.lf (l-1))+fd a b (a.lf (k-1)) (k-1) (b.lf (l-1)) (l-1)+turn a b (k-1) (l-1))
    else min (fd a b i (k-1) j l) (fd a b i k j (l-1))+1:=by
  obtain⟨f,hf⟩:∃f,(k-i)+(l-j)=f+1:=⟨(k-i)+(l-j)-1,by omega⟩;have ha:=a.le (k-1);have hb:=b.le (l-1)
  conv=>lhs;rw[fd,hf,T5,if_neg sX,if_neg sX]
  have e1:T5 a b f i (k-1) j l=fd a b i (k-1) j l:=Jw a b _ _ _ _ _ _ sX sX;have e2:T5 a b f i k j (l-1)=fd a b i k j (l-1):=Jw a b _ _ _ _ _ _ sX sX;simp only[e1,e2];split
  ·rename_i hh
   have e3:T5 a b f i (a.lf (k-1)) j (b.lf (l-1))=fd a b i (a.lf (k-1)) j (b.lf (l-1)):=Jw a b _ _ _ _ _ _ sX sX;have e4:T5 a b f (a.lf (k-1)) (k-1) (b.lf (l-1)) (l-1)=fd a b (a.lf (k-1)) (k-1) (b.lf (l-1)) (l-1):=Jw a b _ _ _ _ _ _ sX sX;rw[e3,e4]
  rfl
theorem LE(h:i<k):fd a b i k j l<=fd a b i (k-1) j l+1:=by
  by_cases h2:j<l
  ·rw[U1 h h2];split <;> omega
  rw[Vw sX,Vw sX];omega
theorem BO(h:j<l):fd a b i k j l<=fd a b i k j (l-1)+1:=by
  by_cases h2:i<k
  ·rw[U1 h2 h];split <;> omega
  rw[Qs sX,Qs sX];omega
theorem DJ(h1:i<k)(h2:j<l)(h3:i<=a.lf (k-1))(h4:j<=b.lf (l-1)) :
    fd a b i k j l<=fd a b i (a.lf (k-1)) j (b.lf (l-1))+fd a b (a.lf (k-1)) (k-1) (b.lf (l-1)) (l-1)+turn a b (k-1) (l-1):=by
  rw[U1 h1 h2,if_pos ⟨h3,h4⟩];omega
theorem O7(h1:i<k)(h2:j<l):fd a b i k j l=fd a b i (k-1) j l+1\/fd a b i k j l=fd a b i k j (l-1)+1 \/
    (i<=a.lf (k-1)/\j<=b.lf (l-1)/\fd a b i k j l=fd a b i (a.lf (k-1)) j (b.lf (l-1))+fd a b (a.lf (k-1)) (k-1) (b.lf (l-1)) (l-1)+turn a b (k-1) (l-1)):=by
  rw[U1 h1 h2];split
  ·rename_i h;omega
  omega
end
theorem fd_sub(a b:Nodes):∀(n i p k j q l:Nat),(k-p)+(l-q)<=n->i<=p->p<=k->j<=q->q<=l->fd a b i k j l<=fd a b i p j q+fd a b p k q l:=by
  intro n
  induction n with
  | zero =>
    intro i p k j q l hn h1 h2 h3 h4;obtain rfl:p=k:=by omega
    obtain rfl:q=l:=by omega
    omega
  | succ n ih =>
    intro i p k j q l hn h1 h2 h3 h4;by_cases hk:p<k
    ·by_cases hl : q<l
     ·rcases O7 (a := a) (b := b) hk hl with h|h|⟨h5, h6, h⟩
      ·have e := ih i p (k-1) j q l sX h1 sX h3 h4
       have e2:=LE (a:=a) (b:=b) (i:=i) (k:=k) (j:=j) (l:=l) sX;omega
      ·have e := ih i p k j q (l-1) sX h1 h2 h3 sX
       have e2:=BO (a:=a) (b:=b) (i:=i) (k:=k) (j:=j) (l:=l) sX;omega
      have ha := a.le (k-1);have hb:=b.le (l-1);have e:=ih i p (a.lf (k-1)) j q (b.lf (l-1)) sX h1 h5 h3 h6;have e2:=DJ (a:=a) (b:=b) (i:=i) (k:=k) (j:=j) (l:=l) sX sX sX sX;omega
     have e := ih i p (k-1) j q l sX h1 sX h3 h4;have e2:=LE (a:=a) (b:=b) (i:=i) (k:=k) (j:=j) (l:=l) sX;rw[Vw (by omega:l<=q)]at e ⊢;omega
    by_cases hl : q<l
    ·have e := ih i p k j q (l-1) sX h1 h2 h3 sX
     have e2:=BO (a:=a) (b:=b) (i:=i) (k:=k) (j:=j) (l:=l) sX;rw[Qs (by omega:k<=p)]at e ⊢;omega
    obtain rfl : p = k := by omega
    obtain rfl:q=l:=by omega
    omega
theorem Cr(a b:Nodes):∀(n i k j l:Nat),(k-i)+(l-j)<=n->fd a b i k j l<=(k-i)+(l-j)/\k-i<=fd a b i k j l+(l-j)/\l-j<=fd a b i k j l+(k-i):=by
  intro n
  induction n with
  | zero =>
    intro i k j l hn;rw[Qs sX];omega
  | succ n ih =>
    intro i k j l hn;by_cases hk:i<k
    ·by_cases hl : j<l
     ·have h0 := LE (a := a) (b := b) (i := i) (k := k) (j := j) (l := l) hk
      have h1:=ih i (k-1) j l sX;have h2:=ih i k j (l-1) sX;have ha:=a.le (k-1);have hb:=b.le (l-1);rcases O7 (a:=a) (b:=b) hk hl with h|h|⟨h5,h6,h⟩
      ·omega
      ·omega
      have h3 := ih i (a.lf (k-1)) j (b.lf (l-1)) sX;have h4:=ih (a.lf (k-1)) (k-1) (b.lf (l-1)) (l-1) sX;omega
     rw[Vw sX];omega
    rw[Qs sX];omega
def Closed(a:Nodes)(i k:Nat):Prop:=∀z,i<=z->z<k->i<=a.lf z
def Nested(a:Nodes)(n:Nat):Prop:=∀x,x<n->Closed a (a.lf x) x
def td(a b:Nodes)(x y:Nat):Nat:=fd a b (a.lf x) (x+1) (b.lf y) (y+1)
theorem td_le(a b:Nodes)(x y:Nat):td a b x y<=fd a b (a.lf x) x (b.lf y) y+turn a b x y:=by
  have ha:=a.le x;have hb:=b.le y;have h:=DJ (a:=a) (b:=b) (i:=a.lf x) (k:=x+1) (j:=b.lf y) (l:=y+1) sX sX Da Da;simp only[Nat.add_sub_cancel]at h;rw[Qs (gQ (a.lf x))]at h;unfold td;omega
theorem GW(a b:Nodes){i x j y:Nat}(h1:i<=a.lf x)(h2:j<=b.lf y) :
    fd a b i (x+1) j (y+1)=min (min (fd a b i x j (y+1)) (fd a b i (x+1) j y)+1) (fd a b i (a.lf x) j (b.lf y)+td a b x y):=by
  have ha:=a.le x;have hb:=b.le y;have d1:=LE (a:=a) (b:=b) (i:=i) (k:=x+1) (j:=j) (l:=y+1) sX;have d2:=BO (a:=a) (b:=b) (i:=i) (k:=x+1) (j:=j) (l:=y+1) sX;have s:=fd_sub a b _ i (a.lf x) (x+1) j (b.lf y) (y+1) (gQ _) h1 sX h2 sX;have t:=td_le a b x y;rcases O7 (a:=a) (b:=b) (i:=i) (k:=x+1) (j:=j) (l:=y+1) sX sX with h|h|⟨h5,h6,h⟩ <;> simp only[Nat.add_sub_cancel]at h d1 d2 <;> unfold td at * <;> omega
theorem fd_root(a b:Nodes){x y:Nat} :
    fd a b (a.lf x) (x+1) (b.lf y) (y+1)=min (min (fd a b (a.lf x) x (b.lf y) (y+1)) (fd a b (a.lf x) (x+1) (b.lf y) y)+1) (fd a b (a.lf x) x (b.lf y) y+turn a b x y):=by
  have ha:=a.le x;have hb:=b.le y;have h:=U1 (a:=a) (b:=b) (i:=a.lf x) (k:=x+1) (j:=b.lf y) (l:=y+1) sX sX;simp only[Nat.add_sub_cancel]at h;rw[if_pos ⟨gQ _,gQ _⟩,Qs (gQ (a.lf x)),Nat.sub_self,Nat.zero_add]at h;exact h
def lfOk(fs:List Int)(n:Nat):Prop:=∀j (h:j<fs.length),j<n->0<=fs[j]/\fs[j]<=(j:Int)/\∀i (hi:i<j),fs[j]<=(i:Int)->fs[j]<=fs[i]'by_Om
def Qk(ls:List Str)(fs:List Int):Prop:=ls.length=fs.length/\ls.length<=512/\lfOk fs fs.length
def Ij(fs:List Int)(x:Nat):Nat:=min (fs.getD x 0).toNat x
def Lc(ls:List Str)(fs:List Int):Nodes:=⟨λx=>ls.getD x [],Ij fs,λ_=>Nat.min_le_right _ _⟩
theorem lfOk.at{fs:List Int}{n j:Nat}(h:lfOk fs n)(hj:j<fs.length)(hn:j<n):((Ij fs j:Nat):Int)=fs[j]:=by
  obtain⟨h1,h2,-⟩:=h j hj hn;have e:fs.getD j 0=fs[j]:=by simp[List.getD,hj]
  rw[Ij,e];omega
theorem lfOk.nest{fs:List Int}{n:Nat}(h:lfOk fs n)(hn:n<=fs.length)(ls:List Str):Nested (Lc ls fs) n:=by
  intro x hx z hz1 hz2;have e1:=h.at (j:=x) sX hx;have e2:=h.at (j:=z) sX sX;have hz1':Ij fs x<=z:=hz1;have:=(h x sX hx).2.2 z hz2 sX;show Ij fs x<=Ij fs z;omega
inductive Rts (fs:List Int):Nat->List Nat->Prop
  | nil:Rts fs 0 []
  | snoc {r:Nat} {l:List Nat}:Rts fs (Ij fs r) l->Rts fs (r+1) (l++[r])
theorem Rts.last{fs:List Int}{p r:Nat}{l:List Nat}(h:Rts fs p (l++[r])):p=r+1/\Rts fs (Ij fs r) l:=by
  generalize e:l++[r]=m at h;cases h with
  | nil=>simp at e
  | snoc h1 =>
    obtain⟨rfl,e2⟩:=List.append_inj' e rfl;simp only[List.cons.injEq,and_true]at e2;subst e2;exact⟨O,h1⟩
theorem Rts.none{fs:List Int}{p:Nat}(h:Rts fs p []):p=0:=by
  generalize e:([]:List Nat)=m at h;cases h with
  | nil=>rfl
  | snoc h1=>simp at e
theorem Rts.len{fs:List Int}{p:Nat}{l:List Nat}(h:Rts fs p l):l.length<=p:=by
  induction h with
  | nil=>simp
  | snoc h1 ih =>
    rename_i r l
    have:Ij fs r<=r:=Nat.min_le_right _ _;simp only[dQ,kQ,List.length_nil];omega
theorem lfOk.snoc{fs:List Int}{j:Nat}(h:lfOk fs j)(hj:j<fs.length)(h0:0<=fs[j])(h1:fs[j]<=(j:Int))(hc:∀z (hz:z<j),fs[j]<=(z:Int)->fs[j]<=fs[z]'by_Om):lfOk fs (j+1):=by
  intro i hi hn;by_cases e:i=j
  ·subst e
   exact⟨h0,h1,λz hz hle=>hc z hz hle⟩
  exact h i hi sX
theorem lfOk.popped{fs:List Int}{j r:Nat}(h:lfOk fs j)(hj:j<=fs.length)(hr:r<j){left:Int}(hl:left<=((Ij fs r:Nat):Int)){z:Nat}(h1:Ij fs r<=z)(h2:z<=r):left<=fs[z]'by_Om:=by
  have e1:=h.at (j:=r) sX hr;by_cases e:z=r
  ·subst e;omega
  have := (h r sX hr).2.2 z sX sX;omega
def NX(fs:List Int)(i:Nat):Bool:=decide (∀j,j<fs.length->i<j->fs.getD j 0≠fs.getD i 0)
def Yc(fs:List Int):List Nat:=(List.range fs.length).filter λi=>NX fs i
theorem Gj{fs:List Int}{i:Nat}:i∈Yc fs↔i<fs.length/\∀j,j<fs.length->i<j->fs.getD j 0≠fs.getD i 0:=by
  unfold Yc NX;rw[List.mem_filter,List.mem_range,decide_eq_true_eq]
theorem Wx(fs:List Int):(Yc fs).Pairwise (· < ·):=List.Pairwise.filter _ List.pairwise_lt_range
theorem K8(fs:List Int):∀(n x:Nat),fs.length-x<=n->x<fs.length->∃k,x<=k/\k∈Yc fs/\fs.getD k 0=fs.getD x 0:=by
  intro n
  induction n with
  | zero=>intro x h1 h2;omega
  | succ n ih =>
    intro x h1 h2;by_cases h:∀j,j<fs.length->x<j->fs.getD j 0≠fs.getD x 0
    ·exact⟨x,gQ _,Gj.2 ⟨h2,h⟩,O⟩
    have:∃j,j<fs.length/\x<j/\fs.getD j 0=fs.getD x 0:=by
      refine Classical.byContradiction λhn=>h λj h3 h4 h5=>hn ⟨j,h3,h4,h5⟩
    obtain⟨j,h3,h4,h5⟩:=this;obtain⟨k,h6,h7,h8⟩:=ih j sX h3;exact⟨k,by omega,h7,h8.trans h5⟩
theorem Tq{fs:List Int}{j:Nat}(h:j<fs.length):fs.getD j 0=fs[j]:=by simp[List.getD,h]
theorem F6{fs:List Int}(h:lfOk fs fs.length){k x:Nat}(hk:k∈Yc fs)(h1:Ij fs k<=x)(h2:x<=k)(hne:Ij fs x≠Ij fs k):∃k',k'<k/\k'∈Yc fs/\Ij fs k'=Ij fs x:=by
  have hkl:=(Gj.1 hk).1;obtain⟨k',h3,h4,h5⟩:=K8 fs _ x (gQ _) sX;have hkl':=(Gj.1 h4).1;have e1:=h.at hkl hkl;have e2:=h.at hkl' hkl';have e3:=h.at (j:=x) sX sX;rw[Tq hkl',Tq sX]at h5;refine⟨k',?_,h4,by omega⟩;refine Classical.byContradiction λhn=>?_;have hx:=(h k hkl hkl).2.2;have hxx:Ij fs x<=x:=Nat.min_le_right _ _;have hxk:Ij fs k<=Ij fs x:=by
    by_cases e:x=k
    ·subst e;exact gQ _
    have:=hx x sX sX;omega
  by_cases e:k'=k
  ·subst e;omega
  have := (h k' hkl' hkl').2.2 k sX sX;omega
theorem L5{l:List Nat}(h:l.Pairwise (· < ·)){u x:Nat}(hu:u<l.length)(hx:x∈l)(hlt:x<l[u]):x∈l.take u:=by
  obtain⟨i,hi,rfl⟩:=List.getElem_of_mem hx;have:i<u:=by
    refine Classical.byContradiction λhn=>?_;by_cases e:i=u
    ·subst e;omega
    have:=List.pairwise_iff_getElem.1 h u i hu hi sX;omega
  rw[List.mem_take_iff_getElem];exact⟨i,by omega,O⟩
def G2(fs gs:List Int)(u v:Nat)(x y:Nat):Prop :=
  (∃k∈(Yc fs).take u,Ij fs k=Ij fs x)\/(∃h:u<(Yc fs).length,Ij fs (Yc fs)[u]=Ij fs x/\∃l∈(Yc gs).take v,Ij gs l=Ij gs y)
theorem XJ{fs gs:List Int}(h:lfOk fs fs.length)(h':lfOk gs gs.length){u v:Nat}(hu:u<(Yc fs).length)(hv:v<(Yc gs).length){x y:Nat}
    (hx1:Ij fs (Yc fs)[u]<=x) (hx2:x<=(Yc fs)[u]) (hy1:Ij gs (Yc gs)[v]<=y) (hy2:y<=(Yc gs)[v])
    (hne:¬(Ij fs x=Ij fs (Yc fs)[u]/\Ij gs y=Ij gs (Yc gs)[v])):G2 fs gs u v x y:=by
  by_cases e:Ij fs x=Ij fs (Yc fs)[u]
  ·obtain⟨k', h1, h2, h3⟩ := F6 h' (eQ hv) hy1 hy2 (λq => hne ⟨e, q⟩)
   exact .inr ⟨hu,e.symm,k',L5 (Wx gs) hv h2 h1,h3⟩
  obtain⟨k', h1, h2, h3⟩ := F6 h (eQ hu) hx1 hx2 e;exact .inl ⟨k',L5 (Wx fs) hu h2 h1,h3⟩
theorem SN{fs gs:List Int}{u v x y:Nat}(hu:u<(Yc fs).length)(hv:v<(Yc gs).length)(h:G2 fs gs u (v+1) x y):G2 fs gs u v x y\/(Ij fs x=Ij fs (Yc fs)[u]/\Ij gs y=Ij gs (Yc gs)[v]):=by
  rcases h with h|⟨_,h1,l,hl,h2⟩
  ·exact .inl (.inl h)
  rw[iQ hv, mQ, pQ]at hl;rcases hl with hl|rfl
  ·exact .inl (.inr ⟨hu,h1,l,hl,h2⟩)
  exact .inr ⟨h1.symm,h2.symm⟩
theorem HU{fs gs:List Int}{u x y:Nat}(hu:u<(Yc fs).length)(hy:y<gs.length)(hg:lfOk gs gs.length)(h:G2 fs gs (u+1) 0 x y):G2 fs gs u (Yc gs).length x y:=by
  rcases h with ⟨k,hk,h1⟩|⟨_,_,l,hl,_⟩
  ·rw[iQ hu, mQ, pQ]at hk
   rcases hk with hk|rfl
   ·exact .inl ⟨k,hk,h1⟩
   obtain⟨l, h2, h3, h4⟩ := K8 gs _ y (gQ _) hy;have hl:=(Gj.1 h3).1;have e1:=hg.at hl hl;have e2:=hg.at hy hy;rw[Tq hl,Tq hy]at h4;exact .inr ⟨hu,h1,l,by rw[List.take_of_length_le (gQ _)];exact h3,by omega⟩
  simp at hl
theorem UT{fs gs:List Int}(hf:lfOk fs fs.length){x y:Nat}(hx:x<fs.length):G2 fs gs (Yc fs).length 0 x y:=by
  obtain⟨l,h2,h3,h4⟩:=K8 fs _ x (gQ _) hx;have hl:=(Gj.1 h3).1;have e1:=hf.at hl hl;have e2:=hf.at hx hx;rw[Tq hl,Tq hx]at h4;exact .inl ⟨l,by rw[List.take_of_length_le (gQ _)];exact h3,by omega⟩
theorem CO{fs gs:List Int}{x y:Nat}:¬G2 fs gs 0 0 x y:=by
  rintro (⟨k,hk,_⟩|⟨_,_,l,hl,_⟩)
  ·simp at hk
  simp at hl
def Qy(ls:List Str)(fs:List Int)(gs:List Str)(hs:List Int):Nat:=fd (Lc ls fs) (Lc gs hs) 0 ls.length 0 gs.length
section
variable {ls gs ks:List Str}{fs hs is:List Int}
theorem Lx:Qy ls fs gs hs<=ls.length+gs.length/\ls.length<=Qy ls fs gs hs+gs.length/\gs.length<=Qy ls fs gs hs+ls.length:=by
  have:=Cr (Lc ls fs) (Lc gs hs) _ 0 ls.length 0 gs.length (gQ _);simpa[Qy]using this
end
section
variable {ls gs:List Str}{fs hs:List Int}{r:Str}
end
end Go.Scarf
