/- A part of the proof. -/
import Derived.Test.YthnkjgpjdbdchaaGreatDoorC2
set_option linter.all false
set_option maxHeartbeats 8000000
set_option maxRecDepth 10000
namespace Go.Scarf
open Go.RowKit
def FF(q:Int × Int):D:=.agg [Kh q.1,Kh q.2]
def W5(m:List (Int × Int)):D:=.slice (m.map FF)
abbrev F2(q:Int × Int):List Value:=[J q.1,J q.2]
def WB(m:List (Int × Int)):List Value:=m.flatMap F2
section
variable {S:Nat->Prop}{w:World}
theorem pair_rep{q:Int × Int}{cs:List Value}(h:Rep S w (FF q) cs):cs=F2 q/\(-9223372036854775808<=q.1/\q.1<=9223372036854775807)/\(-9223372036854775808<=q.2/\q.2<=9223372036854775807):=by
  simp only[FF,Kh,Rep,RepL]at h;obtain⟨c1,c2,rfl,⟨rfl,h1⟩,c3,c4,rfl,⟨rfl,h2⟩,rfl⟩:=h;exact⟨O,h1,h2⟩
theorem LX{q:Int × Int}(h1:-9223372036854775808<=q.1/\q.1<=9223372036854775807)(h2:-9223372036854775808<=q.2/\q.2<=9223372036854775807):Rep S w (FF q) (F2 q):=by
  simp only[FF,Kh,Rep,RepL];exact⟨_,_,O,⟨O,h1⟩,_,_,O,⟨O,h2⟩,O⟩
theorem Rep.pair_elem{m:List (Int × Int)}{A:Option Addr}{len c:Nat}(h:Rep S w (W5 m) [.slice A len c]){i:Nat}(hi:i<m.length) :
    ∃ad,A=some ad/\(∀j (hj:j<(F2 m[i]).length),w.cell? ((ad.add (i*2)).add j)=some (F2 m[i])[j])/\(-9223372036854775808<=m[i].1/\m[i].1<=9223372036854775807)/\(-9223372036854775808<=m[i].2/\m[i].2<=9223372036854775807):=by
  obtain⟨ad,cs,hA,hl,hc,hr⟩:=Rep.elem (sz:=2) h (λd hd=>by obtain⟨k,_,rfl⟩:=nQ.1 hd;rfl) (i:=i) (by simpa using hi);rw[List.getElem_map]at hr;obtain⟨rfl,h1,h2⟩:=pair_rep hr;exact⟨ad,hA,hc,h1,h2⟩
theorem Rep.pairs_len{m:List (Int × Int)}{A:Option Addr}{len c:Nat}(h:Rep S w (W5 m) [.slice A len c]):len=m.length/\len<=c/\c<=9223372036854775807:=by
  have:=h.slice_len
  rwa [rQ]at this
def Jq(x:List Str × List Int):D:=.agg [Ud x.1,.slice (x.2.map Kh)]
theorem FZ{x:List Str × List Int}{cs:List Value}(h:Rep S w (Jq x) cs):∃A c B e,cs=[.slice A x.1.length c,.slice B x.2.length e]/\Rep S w (Ud x.1) [.slice A x.1.length c]/\Rep S w (.slice (x.2.map Kh)) [.slice B x.2.length e]:=by
  rw[Jq,Rep,RepL]at h;obtain⟨c1,c2,rfl,h1,h2⟩:=h;rw[RepL]at h2;obtain⟨c3,c4,rfl,h2,h3⟩:=h2;rw[RepL]at h3;subst h3;obtain⟨A,c,e1⟩:∃A c,c1=[.slice A x.1.length c]:=by
    have h1':=h1;rw[Ud,Rep]at h1';obtain⟨A,c,he,-⟩:=h1';exact⟨A,c,by rw[he,rQ]⟩
  obtain⟨B,e,e2⟩:∃A c,c3=[.slice A x.2.length c]:=by
    have h2':=h2;rw[Rep]at h2';obtain⟨A,c,he,-⟩:=h2';exact⟨A,c,by rw[he,rQ]⟩
  subst e1 e2;exact⟨A,c,B,e,O,h1,h2⟩
theorem rep_node{x:List Str × List Int}{A B:Option Addr}{c e:Nat}(h1:Rep S w (Ud x.1) [.slice A x.1.length c])(h2:Rep S w (.slice (x.2.map Kh)) [.slice B x.2.length e]):Rep S w (Jq x) [.slice A x.1.length c,.slice B x.2.length e]:=by
  rw[Jq,Rep,RepL];refine⟨_,_,O,h1,?_⟩;rw[RepL];exact⟨_,_,O,h2,by rw[RepL]⟩
theorem Rep.node_elem{l:List (List Str × List Int)}{A:Option Addr}{len c:Nat}(h:Rep S w (.slice (l.map Jq)) [.slice A len c]){i:Nat}(hi:i<l.length) :
    ∃ad A1 c1 B1 e1, A = some ad /\ (∀j (hj : j<[Value.slice A1 l[i].1.length c1, .slice B1 l[i].2.length e1].length), w.cell? ((ad.add (i*2)).add j) = some [Value.slice A1 l[i].1.length c1, .slice B1 l[i].2.length e1][j]) /\
      Rep S w (Ud l[i].1) [.slice A1 l[i].1.length c1]/\Rep S w (.slice (l[i].2.map Kh)) [.slice B1 l[i].2.length e1]:=by
  obtain⟨ad,cs,hA,hl,hc,hr⟩:=Rep.elem (sz:=2) h (λd hd=>by obtain⟨k,_,rfl⟩:=nQ.1 hd;rfl) (i:=i) (by simpa using hi);rw[List.getElem_map]at hr;obtain⟨A1,c1,B1,e1,rfl,h1,h2⟩:=FZ hr;exact⟨ad,A1,c1,B1,e1,hA,hc,h1,h2⟩
end
structure Nodes where
  lab:Nat->Str
  lf:Nat->Nat
  le:∀x,lf x<=x
def turn(a b:Nodes)(x y:Nat):Nat:=if a.lab x=b.lab y then 0 else 1
def Q6(a b:Nodes):Nat->Nat->Nat->Nat->Nat->Nat
  | 0,i,k,j,l=>(k-i)+(l-j)
  | f + 1, i, k, j, l =>
    if k<=i then l-j else if l<=j then k-i else
      let m:=min (Q6 a b f i (k-1) j l) (Q6 a b f i k j (l-1))+1
      if i<=a.lf (k-1)/\j<=b.lf (l-1) then min m (Q6 a b f i (a.lf (k-1)) j (b.lf (l-1))+Q6 a b f (a.lf (k-1)) (k-1) (b.lf (l-1)) (l-1)+turn a b (k-1) (l-1)) else m
def fd(a b:Nodes)(i k j l:Nat):Nat:=Q6 a b ((k-i)+(l-j)) i k j l
theorem Dy(a b:Nodes):∀(f g i k j l:Nat),(k-i)+(l-j)<=f->(k-i)+(l-j)<=g->Q6 a b f i k j l=Q6 a b g i k j l
  | 0,0,_,_,_,_,_,_=>rfl
  | 0,g+1,i,k,j,l,h,_=>by rw[Q6,Q6,if_pos tX];omega
  | f+1,0,i,k,j,l,_,h=>by rw[Q6,Q6,if_pos tX];omega
  | f + 1, g + 1, i, k, j, l, h1, h2 => by
    rw[Q6,Q6];split
    ·rfl
    split
    ·rfl
    have ha:=a.le (k-1);have hb:=b.le (l-1);have e1:Q6 a b f i (k-1) j l=Q6 a b g i (k-1) j l:=Dy a b f g _ _ _ _ tX tX;have e2:Q6 a b f i k j (l-1)=Q6 a b g i k j (l-1):=Dy a b f g _ _ _ _ tX tX;simp only[e1,e2];split
    ·rename_i hh
     rw[Dy a b f g i (a.lf (k-1)) j (b.lf (l-1)) tX tX,Dy a b f g (a.lf (k-1)) (k-1) (b.lf (l-1)) (l-1) tX tX]
    rfl
section
variable {a b:Nodes}{i k j l:Nat}
theorem It(h:k<=i):fd a b i k j l=l-j:=by
  rw[fd];cases hf:(k-i)+(l-j)with
  | zero=>rw[Q6];omega
  | succ f=>rw[Q6,if_pos h]
theorem Uw(h:l<=j):fd a b i k j l=k-i:=by
  rw[fd];cases hf:(k-i)+(l-j)with
  | zero=>rw[Q6];omega
  | succ f =>
    rw[Q6,if_pos h];split <;> omega
theorem W2(h1:i<k)(h2:j<l):fd a b i k j l =
    if i<=a.lf (k-1)/\j<=b.lf (l-1) then min (min (fd a b i (k-1) j l) (fd a b i k j (l-1))+1) (fd a b i (a.lf (k-1)) j (b.lf (l-1))+fd a b (a.lf (k-1)) (k-1) (b.lf (l-1)) (l-1)+turn a b (k-1) (l-1))
    else min (fd a b i (k-1) j l) (fd a b i k j (l-1))+1:=by
  obtain⟨f,hf⟩:∃f,(k-i)+(l-j)=f+1:=⟨(k-i)+(l-j)-1,by omega⟩;have ha:=a.le (k-1);have hb:=b.le (l-1)
  conv=>lhs;rw[fd,hf,Q6,if_neg tX,if_neg tX]
  have e1:Q6 a b f i (k-1) j l=fd a b i (k-1) j l:=Dy a b _ _ _ _ _ _ tX tX;have e2:Q6 a b f i k j (l-1)=fd a b i k j (l-1):=Dy a b _ _ _ _ _ _ tX tX;simp only[e1,e2];split
  ·rename_i hh
   have e3:Q6 a b f i (a.lf (k-1)) j (b.lf (l-1))=fd a b i (a.lf (k-1)) j (b.lf (l-1)):=Dy a b _ _ _ _ _ _ tX tX;have e4:Q6 a b f (a.lf (k-1)) (k-1) (b.lf (l-1)) (l-1)=fd a b (a.lf (k-1)) (k-1) (b.lf (l-1)) (l-1):=Dy a b _ _ _ _ _ _ tX tX;rw[e3,e4]
  rfl
theorem JG(h:i<k):fd a b i k j l<=fd a b i (k-1) j l+1:=by
  by_cases h2:j<l
  ·rw[W2 h h2];split <;> omega
  rw[Uw tX,Uw tX];omega
theorem RN(h:j<l):fd a b i k j l<=fd a b i k j (l-1)+1:=by
  by_cases h2:i<k
  ·rw[W2 h2 h];split <;> omega
  rw[It tX,It tX];omega
theorem WJ(h1:i<k)(h2:j<l)(h3:i<=a.lf (k-1))(h4:j<=b.lf (l-1)) :
    fd a b i k j l<=fd a b i (a.lf (k-1)) j (b.lf (l-1))+fd a b (a.lf (k-1)) (k-1) (b.lf (l-1)) (l-1)+turn a b (k-1) (l-1):=by
  rw[W2 h1 h2,if_pos ⟨h3,h4⟩];omega
theorem R_(h1:i<k)(h2:j<l):fd a b i k j l=fd a b i (k-1) j l+1\/fd a b i k j l=fd a b i k j (l-1)+1 \/
    (i<=a.lf (k-1)/\j<=b.lf (l-1)/\fd a b i k j l=fd a b i (a.lf (k-1)) j (b.lf (l-1))+fd a b (a.lf (k-1)) (k-1) (b.lf (l-1)) (l-1)+turn a b (k-1) (l-1)):=by
  rw[W2 h1 h2];split
  ·rename_i h;omega
  omega
end
theorem fd_sub(a b:Nodes):∀(n i p k j q l:Nat),(k-p)+(l-q)<=n->i<=p->p<=k->j<=q->q<=l->fd a b i k j l<=fd a b i p j q+fd a b p k q l:=by
  intro n
  induction n with
  | zero =>
    intro i p k j q l hn h1 h2 h3 h4;obtain rfl:p=k:=by omega
    obtain rfl:q=l:=by omega
    omega
  | succ n ih =>
    intro i p k j q l hn h1 h2 h3 h4;by_cases hk:p<k
    ·by_cases hl : q<l
     ·rcases R_ (a := a) (b := b) hk hl with h|h|⟨h5, h6, h⟩
      ·have e := ih i p (k-1) j q l tX h1 tX h3 h4
       have e2:=JG (a:=a) (b:=b) (i:=i) (k:=k) (j:=j) (l:=l) tX;omega
      ·have e := ih i p k j q (l-1) tX h1 h2 h3 tX
       have e2:=RN (a:=a) (b:=b) (i:=i) (k:=k) (j:=j) (l:=l) tX;omega
      have ha := a.le (k-1);have hb:=b.le (l-1);have e:=ih i p (a.lf (k-1)) j q (b.lf (l-1)) tX h1 h5 h3 h6;have e2:=WJ (a:=a) (b:=b) (i:=i) (k:=k) (j:=j) (l:=l) tX tX tX tX;omega
     have e := ih i p (k-1) j q l tX h1 tX h3 h4;have e2:=JG (a:=a) (b:=b) (i:=i) (k:=k) (j:=j) (l:=l) tX;rw[Uw (by omega:l<=q)]at e ⊢;omega
    by_cases hl : q<l
    ·have e := ih i p k j q (l-1) tX h1 h2 h3 tX
     have e2:=RN (a:=a) (b:=b) (i:=i) (k:=k) (j:=j) (l:=l) tX;rw[It (by omega:k<=p)]at e ⊢;omega
    obtain rfl : p = k := by omega
    obtain rfl:q=l:=by omega
    omega
theorem Sr(a b:Nodes):∀(n i k j l:Nat),(k-i)+(l-j)<=n->fd a b i k j l<=(k-i)+(l-j)/\k-i<=fd a b i k j l+(l-j)/\l-j<=fd a b i k j l+(k-i):=by
  intro n
  induction n with
  | zero =>
    intro i k j l hn;rw[It tX];omega
  | succ n ih =>
    intro i k j l hn;by_cases hk:i<k
    ·by_cases hl : j<l
     ·have h0 := JG (a := a) (b := b) (i := i) (k := k) (j := j) (l := l) hk
      have h1:=ih i (k-1) j l tX;have h2:=ih i k j (l-1) tX;have ha:=a.le (k-1);have hb:=b.le (l-1);rcases R_ (a:=a) (b:=b) hk hl with h|h|⟨h5,h6,h⟩
      ·omega
      ·omega
      have h3 := ih i (a.lf (k-1)) j (b.lf (l-1)) tX;have h4:=ih (a.lf (k-1)) (k-1) (b.lf (l-1)) (l-1) tX;omega
     rw[Uw tX];omega
    rw[It tX];omega
def Closed(a:Nodes)(i k:Nat):Prop:=∀z,i<=z->z<k->i<=a.lf z
def Nested(a:Nodes)(n:Nat):Prop:=∀x,x<n->Closed a (a.lf x) x
def td(a b:Nodes)(x y:Nat):Nat:=fd a b (a.lf x) (x+1) (b.lf y) (y+1)
theorem td_le(a b:Nodes)(x y:Nat):td a b x y<=fd a b (a.lf x) x (b.lf y) y+turn a b x y:=by
  have ha:=a.le x;have hb:=b.le y;have h:=WJ (a:=a) (b:=b) (i:=a.lf x) (k:=x+1) (j:=b.lf y) (l:=y+1) tX tX Da Da;simp only[Nat.add_sub_cancel]at h;rw[It (gQ (a.lf x))]at h;unfold td;omega
theorem fd_parts(a b:Nodes){i x j y:Nat}(h1:i<=a.lf x)(h2:j<=b.lf y) :
    fd a b i (x+1) j (y+1)=min (min (fd a b i x j (y+1)) (fd a b i (x+1) j y)+1) (fd a b i (a.lf x) j (b.lf y)+td a b x y):=by
  have ha:=a.le x;have hb:=b.le y;have d1:=JG (a:=a) (b:=b) (i:=i) (k:=x+1) (j:=j) (l:=y+1) tX;have d2:=RN (a:=a) (b:=b) (i:=i) (k:=x+1) (j:=j) (l:=y+1) tX;have s:=fd_sub a b _ i (a.lf x) (x+1) j (b.lf y) (y+1) (gQ _) h1 tX h2 tX;have t:=td_le a b x y;rcases R_ (a:=a) (b:=b) (i:=i) (k:=x+1) (j:=j) (l:=y+1) tX tX with h|h|⟨h5,h6,h⟩ <;> simp only[Nat.add_sub_cancel]at h d1 d2 <;> unfold td at * <;> omega
theorem fd_root(a b:Nodes){x y:Nat} :
    fd a b (a.lf x) (x+1) (b.lf y) (y+1)=min (min (fd a b (a.lf x) x (b.lf y) (y+1)) (fd a b (a.lf x) (x+1) (b.lf y) y)+1) (fd a b (a.lf x) x (b.lf y) y+turn a b x y):=by
  have ha:=a.le x;have hb:=b.le y;have h:=W2 (a:=a) (b:=b) (i:=a.lf x) (k:=x+1) (j:=b.lf y) (l:=y+1) tX tX;simp only[Nat.add_sub_cancel]at h;rw[if_pos ⟨gQ _,gQ _⟩,It (gQ (a.lf x)),Nat.sub_self,Nat.zero_add]at h;exact h
def lfOk(fs:List Int)(n:Nat):Prop:=∀j (h:j<fs.length),j<n->0<=fs[j]/\fs[j]<=(j:Int)/\∀i (hi:i<j),fs[j]<=(i:Int)->fs[j]<=fs[i]'by_Om
def Fl(ls:List Str)(fs:List Int):Prop:=ls.length=fs.length/\ls.length<=512/\lfOk fs fs.length
def Qj(fs:List Int)(x:Nat):Nat:=min (fs.getD x 0).toNat x
def Pc(ls:List Str)(fs:List Int):Nodes:=⟨λx=>ls.getD x [],Qj fs,λ_=>Nat.min_le_right _ _⟩
theorem lfOk.at{fs:List Int}{n j:Nat}(h:lfOk fs n)(hj:j<fs.length)(hn:j<n):((Qj fs j:Nat):Int)=fs[j]:=by
  obtain⟨h1,h2,-⟩:=h j hj hn;have e:fs.getD j 0=fs[j]:=by simp[List.getD,hj]
  rw[Qj,e];omega
theorem lfOk.nest{fs:List Int}{n:Nat}(h:lfOk fs n)(hn:n<=fs.length)(ls:List Str):Nested (Pc ls fs) n:=by
  intro x hx z hz1 hz2;have e1:=h.at (j:=x) tX hx;have e2:=h.at (j:=z) tX tX;have hz1':Qj fs x<=z:=hz1;have:=(h x tX hx).2.2 z hz2 tX;show Qj fs x<=Qj fs z;omega
inductive Rts (fs:List Int):Nat->List Nat->Prop
  | nil:Rts fs 0 []
  | snoc {r:Nat} {l:List Nat}:Rts fs (Qj fs r) l->Rts fs (r+1) (l++[r])
theorem Rts.last{fs:List Int}{p r:Nat}{l:List Nat}(h:Rts fs p (l++[r])):p=r+1/\Rts fs (Qj fs r) l:=by
  generalize e:l++[r]=m at h;cases h with
  | nil=>simp at e
  | snoc h1 =>
    obtain⟨rfl,e2⟩:=List.append_inj' e rfl;simp only[List.cons.injEq,and_true]at e2;subst e2;exact⟨O,h1⟩
theorem Rts.none{fs:List Int}{p:Nat}(h:Rts fs p []):p=0:=by
  generalize e:([]:List Nat)=m at h;cases h with
  | nil=>rfl
  | snoc h1=>simp at e
theorem Rts.len{fs:List Int}{p:Nat}{l:List Nat}(h:Rts fs p l):l.length<=p:=by
  induction h with
  | nil=>simp
  | snoc h1 ih =>
    rename_i r l
    have:Qj fs r<=r:=Nat.min_le_right _ _;simp only[dQ,kQ,List.length_nil];omega
theorem lfOk.snoc{fs:List Int}{j:Nat}(h:lfOk fs j)(hj:j<fs.length)(h0:0<=fs[j])(h1:fs[j]<=(j:Int))(hc:∀z (hz:z<j),fs[j]<=(z:Int)->fs[j]<=fs[z]'by_Om):lfOk fs (j+1):=by
  intro i hi hn;by_cases e:i=j
  ·subst e
   exact⟨h0,h1,λz hz hle=>hc z hz hle⟩
  exact h i hi tX
theorem lfOk.popped{fs:List Int}{j r:Nat}(h:lfOk fs j)(hj:j<=fs.length)(hr:r<j){left:Int}(hl:left<=((Qj fs r:Nat):Int)){z:Nat}(h1:Qj fs r<=z)(h2:z<=r):left<=fs[z]'by_Om:=by
  have e1:=h.at (j:=r) tX hr;by_cases e:z=r
  ·subst e;omega
  have := (h r tX hr).2.2 z tX tX;omega
def KY(fs:List Int)(i:Nat):Bool:=decide (∀j,j<fs.length->i<j->fs.getD j 0≠fs.getD i 0)
def Ed(fs:List Int):List Nat:=(List.range fs.length).filter λi=>KY fs i
theorem Oj{fs:List Int}{i:Nat}:i∈Ed fs↔i<fs.length/\∀j,j<fs.length->i<j->fs.getD j 0≠fs.getD i 0:=by
  unfold Ed KY;rw[List.mem_filter,List.mem_range,decide_eq_true_eq]
theorem Ry(fs:List Int):(Ed fs).Pairwise (· < ·):=List.Pairwise.filter _ List.pairwise_lt_range
theorem H9(fs:List Int):∀(n x:Nat),fs.length-x<=n->x<fs.length->∃k,x<=k/\k∈Ed fs/\fs.getD k 0=fs.getD x 0:=by
  intro n
  induction n with
  | zero=>intro x h1 h2;omega
  | succ n ih =>
    intro x h1 h2;by_cases h:∀j,j<fs.length->x<j->fs.getD j 0≠fs.getD x 0
    ·exact⟨x,gQ _,Oj.2 ⟨h2,h⟩,O⟩
    have:∃j,j<fs.length/\x<j/\fs.getD j 0=fs.getD x 0:=by
      refine Classical.byContradiction λhn=>h λj h3 h4 h5=>hn ⟨j,h3,h4,h5⟩
    obtain⟨j,h3,h4,h5⟩:=this;obtain⟨k,h6,h7,h8⟩:=ih j tX h3;exact⟨k,by omega,h7,h8.trans h5⟩
theorem Hr{fs:List Int}{j:Nat}(h:j<fs.length):fs.getD j 0=fs[j]:=by simp[List.getD,h]
theorem J6{fs:List Int}(h:lfOk fs fs.length){k x:Nat}(hk:k∈Ed fs)(h1:Qj fs k<=x)(h2:x<=k)(hne:Qj fs x≠Qj fs k):∃k',k'<k/\k'∈Ed fs/\Qj fs k'=Qj fs x:=by
  have hkl:=(Oj.1 hk).1;obtain⟨k',h3,h4,h5⟩:=H9 fs _ x (gQ _) tX;have hkl':=(Oj.1 h4).1;have e1:=h.at hkl hkl;have e2:=h.at hkl' hkl';have e3:=h.at (j:=x) tX tX;rw[Hr hkl',Hr tX]at h5;refine⟨k',?_,h4,by omega⟩;refine Classical.byContradiction λhn=>?_;have hx:=(h k hkl hkl).2.2;have hxx:Qj fs x<=x:=Nat.min_le_right _ _;have hxk:Qj fs k<=Qj fs x:=by
    by_cases e:x=k
    ·subst e;exact gQ _
    have:=hx x tX tX;omega
  by_cases e:k'=k
  ·subst e;omega
  have := (h k' hkl' hkl').2.2 k tX tX;omega
theorem J7{l:List Nat}(h:l.Pairwise (· < ·)){u x:Nat}(hu:u<l.length)(hx:x∈l)(hlt:x<l[u]):x∈l.take u:=by
  obtain⟨i,hi,rfl⟩:=List.getElem_of_mem hx;have:i<u:=by
    refine Classical.byContradiction λhn=>?_;by_cases e:i=u
    ·subst e;omega
    have:=List.pairwise_iff_getElem.1 h u i hu hi tX;omega
  rw[List.mem_take_iff_getElem];exact⟨i,by omega,O⟩
def B2(fs gs:List Int)(u v:Nat)(x y:Nat):Prop :=
  (∃k∈(Ed fs).take u,Qj fs k=Qj fs x)\/(∃h:u<(Ed fs).length,Qj fs (Ed fs)[u]=Qj fs x/\∃l∈(Ed gs).take v,Qj gs l=Qj gs y)
theorem OL{fs gs:List Int}(h:lfOk fs fs.length)(h':lfOk gs gs.length){u v:Nat}(hu:u<(Ed fs).length)(hv:v<(Ed gs).length){x y:Nat}
    (hx1:Qj fs (Ed fs)[u]<=x) (hx2:x<=(Ed fs)[u]) (hy1:Qj gs (Ed gs)[v]<=y) (hy2:y<=(Ed gs)[v])
    (hne:¬(Qj fs x=Qj fs (Ed fs)[u]/\Qj gs y=Qj gs (Ed gs)[v])):B2 fs gs u v x y:=by
  by_cases e:Qj fs x=Qj fs (Ed fs)[u]
  ·obtain⟨k', h1, h2, h3⟩ := J6 h' (eQ hv) hy1 hy2 (λq => hne ⟨e, q⟩)
   exact .inr ⟨hu,e.symm,k',J7 (Ry gs) hv h2 h1,h3⟩
  obtain⟨k', h1, h2, h3⟩ := J6 h (eQ hu) hx1 hx2 e;exact .inl ⟨k',J7 (Ry fs) hu h2 h1,h3⟩
theorem BR{fs gs:List Int}{u v x y:Nat}(hu:u<(Ed fs).length)(hv:v<(Ed gs).length)(h:B2 fs gs u (v+1) x y):B2 fs gs u v x y\/(Qj fs x=Qj fs (Ed fs)[u]/\Qj gs y=Qj gs (Ed gs)[v]):=by
  rcases h with h|⟨_,h1,l,hl,h2⟩
  ·exact .inl (.inl h)
  rw[iQ hv, mQ, pQ]at hl;rcases hl with hl|rfl
  ·exact .inl (.inr ⟨hu,h1,l,hl,h2⟩)
  exact .inr ⟨h1.symm,h2.symm⟩
theorem XW{fs gs:List Int}{u x y:Nat}(hu:u<(Ed fs).length)(hy:y<gs.length)(hg:lfOk gs gs.length)(h:B2 fs gs (u+1) 0 x y):B2 fs gs u (Ed gs).length x y:=by
  rcases h with ⟨k,hk,h1⟩|⟨_,_,l,hl,_⟩
  ·rw[iQ hu, mQ, pQ]at hk
   rcases hk with hk|rfl
   ·exact .inl ⟨k,hk,h1⟩
   obtain⟨l, h2, h3, h4⟩ := H9 gs _ y (gQ _) hy;have hl:=(Oj.1 h3).1;have e1:=hg.at hl hl;have e2:=hg.at hy hy;rw[Hr hl,Hr hy]at h4;exact .inr ⟨hu,h1,l,by rw[List.take_of_length_le (gQ _)];exact h3,by omega⟩
  simp at hl
theorem DV{fs gs:List Int}(hf:lfOk fs fs.length){x y:Nat}(hx:x<fs.length):B2 fs gs (Ed fs).length 0 x y:=by
  obtain⟨l,h2,h3,h4⟩:=H9 fs _ x (gQ _) hx;have hl:=(Oj.1 h3).1;have e1:=hf.at hl hl;have e2:=hf.at hx hx;rw[Hr hl,Hr hx]at h4;exact .inl ⟨l,by rw[List.take_of_length_le (gQ _)];exact h3,by omega⟩
theorem EP{fs gs:List Int}{x y:Nat}:¬B2 fs gs 0 0 x y:=by
  rintro (⟨k,hk,_⟩|⟨_,_,l,hl,_⟩)
  ·simp at hk
  simp at hl
def Fz(ls:List Str)(fs:List Int)(gs:List Str)(hs:List Int):Nat:=fd (Pc ls fs) (Pc gs hs) 0 ls.length 0 gs.length
section
variable {ls gs ks:List Str}{fs hs is:List Int}
theorem Lx:Fz ls fs gs hs<=ls.length+gs.length/\ls.length<=Fz ls fs gs hs+gs.length/\gs.length<=Fz ls fs gs hs+ls.length:=by
  have:=Sr (Pc ls fs) (Pc gs hs) _ 0 ls.length 0 gs.length (gQ _);simpa[Fz]using this
end
section
variable {ls gs:List Str}{fs hs:List Int}{r:Str}
end
section
variable {α:Type}(sz:α->Nat)(p:α->α->Nat)
def alRow(x:α)(rec:List α->Nat):List α->Nat
  | []=>sz x+rec []
  | y::ys=>min (p x y+rec ys) (min (sz x+rec (y::ys)) (sz y+alRow x rec ys))
def alNil:List α->Nat
  | []=>0
  | y::ys=>sz y+alNil ys
def al:List α->List α->Nat
  | []=>alNil sz
  | x::xs=>alRow sz p x (al xs)
inductive Ali:List α->List α->Nat->Prop
  | nil:Ali [] [] 0
  | pair {x y:α} {xs ys:List α} {c:Nat}:Ali xs ys c->Ali (x::xs) (y::ys) (p x y+c)
  | drop {x:α} {xs ys:List α} {c:Nat}:Ali xs ys c->Ali (x::xs) ys (sz x+c)
  | add {y:α} {xs ys:List α} {c:Nat}:Ali xs ys c->Ali xs (y::ys) (sz y+c)
end
section
variable {α:Type}{sz:α->Nat}{p:α->α->Nat}
theorem CT(y:α)(ys:List α):al sz p [] (y::ys)=sz y+al sz p [] ys:=rfl
theorem UZ(x:α)(xs:List α):al sz p (x::xs) []=sz x+al sz p xs []:=rfl
theorem AE(x y:α)(xs ys:List α):al sz p (x::xs) (y::ys)=min (p x y+al sz p xs ys) (min (sz x+al sz p xs (y::ys)) (sz y+al sz p (x::xs) ys)):=rfl
theorem VN(x:α)(xs ys:List α):al sz p (x::xs) ys<=sz x+al sz p xs ys:=by
  cases ys with
  | nil=>exact gQ _
  | cons y ys=>rw[AE];omega
theorem Ali.append{xs ys xs' ys':List α}{c c':Nat}(h:Ali sz p xs ys c)(h':Ali sz p xs' ys' c'):Ali sz p (xs++xs') (ys++ys') (c+c'):=by
  induction h with
  | nil=>simpa using h'
  | pair _ ih=>rw[Nat.add_assoc];exact .pair ih
  | drop _ ih=>rw[Nat.add_assoc];exact .drop ih
  | add _ ih=>rw[Nat.add_assoc];exact .add ih
theorem Ali.zero(hz:∀x,1<=sz x){xs ys:List α}{c:Nat}(h:Ali sz p xs ys c)(hc:c=0):xs.length=ys.length/\∀i (h1:i<xs.length) (h2:i<ys.length),p xs[i] ys[i]=0:=by
  induction h with
  | nil=>exact⟨rfl,λi h1=>absurd h1 Da⟩
  | @pair x y xs ys c _ ih =>
    obtain⟨h1,h2⟩:=ih tX;refine⟨by simpa using h1,λi hi hj=>?_⟩
    match i,hi,hj with
    | 0,_,_=>show p x y=0;omega
    | i+1,hi,hj=>exact h2 i (by simpa using hi) (by simpa using hj)
  | @drop x _ _ _ _ _=>have:=hz x;omega
  | @add y _ _ _ _ _=>have:=hz y;omega
theorem Ali.pop(ht:∀x y,sz x<=p x y+sz y){xs zs:List α}{c:Nat}(h:Ali sz p xs zs c):∀{ys:List α}{v:α},zs=ys++[v]->∃c',Ali sz p xs ys c'/\c'<=c+sz v:=by
  induction h with
  | nil=>intro ys v e;simp at e
  | @pair x y xs zs c h ih =>
    intro ys v e;cases ys with
    | nil =>
      simp only[List.nil_append,List.cons.injEq]at e;obtain⟨rfl,rfl⟩:=e;exact⟨_,.drop h,by have:=ht x y;omega⟩
    | cons y' ys =>
      simp only[List.cons_append,List.cons.injEq]at e;obtain⟨rfl,e⟩:=e;obtain⟨c',h1,h2⟩:=ih e;exact⟨_,.pair h1,by omega⟩
  | @drop x xs zs c h ih =>
    intro ys v e;obtain⟨c',h1,h2⟩:=ih e;exact⟨_,.drop h1,by omega⟩
  | @add y xs zs c h ih =>
    intro ys v e;cases ys with
    | nil =>
      simp only[List.nil_append,List.cons.injEq]at e;obtain⟨rfl,rfl⟩:=e;exact⟨_,h,by omega⟩
    | cons y' ys =>
      simp only[List.cons_append,List.cons.injEq]at e;obtain⟨rfl,e⟩:=e;obtain⟨c',h1,h2⟩:=ih e;exact⟨_,.add h1,by omega⟩
end
end Go.Scarf
