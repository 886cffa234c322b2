/- A part of the proof. -/
import Derived.Test.YthhhbkkelnaekaaGreatDoorMem
set_option linter.all false
set_option maxHeartbeats 8000000
set_option maxRecDepth 10000
namespace Go.Scarf
structure Nodes where
  lab:Nat→Str
  lf:Nat→Nat
  le:∀ x,lf x≤x
def turn (a b:Nodes) (x y:Nat):Nat:=if a.lab x=b.lab y then 0 else 1
def U0 (a b:Nodes):Nat→Nat→Nat→Nat→Nat→Nat
  | 0,i,k,j,l=>(k - i)+(l - j)
  | f + 1, i, k, j, l =>
    if k≤i then l - j else if l≤j then k - i else
      let m:=min (U0 a b f i (k - 1) j l) (U0 a b f i k j (l - 1))+1
      if i≤a.lf (k - 1)∧j≤b.lf (l - 1) then min m (U0 a b f i (a.lf (k - 1)) j (b.lf (l - 1))+U0 a b f (a.lf (k - 1)) (k - 1) (b.lf (l - 1)) (l - 1)+turn a b (k - 1) (l - 1)) else m
def fd (a b:Nodes) (i k j l:Nat):Nat:=U0 a b ((k - i)+(l - j)) i k j l
theorem Et (a b:Nodes):∀ (f g i k j l:Nat),(k - i)+(l - j)≤f→(k - i)+(l - j)≤g→U0 a b f i k j l=U0 a b g i k j l
  | 0,0,_,_,_,_,_,_=>rfl
  | 0,g+1,i,k,j,l,h,_=>by rw [U0,U0,if_pos U]; omega
  | f+1,0,i,k,j,l,_,h=>by rw [U0,U0,if_pos U]; omega
  | f + 1, g + 1, i, k, j, l, h1, h2 => by
    rw [U0,U0]
    split
    · rfl
    split
    · rfl
    have ha:=a.le (k - 1)
    have hb:=b.le (l - 1)
    have e1:U0 a b f i (k - 1) j l=U0 a b g i (k - 1) j l:=Et a b f g _ _ _ _ U U
    have e2:U0 a b f i k j (l - 1)=U0 a b g i k j (l - 1):=Et a b f g _ _ _ _ U U
    simp only [e1,e2]
    split
    · rename_i hh
      rw [Et a b f g i (a.lf (k - 1)) j (b.lf (l - 1)) U U,Et a b f g (a.lf (k - 1)) (k - 1) (b.lf (l - 1)) (l - 1) U U]
    · rfl
section
variable {a b:Nodes} {i k j l:Nat}
theorem Oo (h:k≤i):fd a b i k j l=l - j:=by
  rw [fd]; cases hf:(k - i)+(l - j) with
  | zero=>rw [U0]; omega
  | succ f=>rw [U0,if_pos h]
theorem Mr (h:l≤j):fd a b i k j l=k - i:=by
  rw [fd]; cases hf:(k - i)+(l - j) with
  | zero=>rw [U0]; omega
  | succ f =>
    rw [U0,if_pos h]
    split <;> omega
theorem Pu (h1:i < k) (h2:j < l):fd a b i k j l =
    if i≤a.lf (k - 1)∧j≤b.lf (l - 1) then min (min (fd a b i (k - 1) j l) (fd a b i k j (l - 1))+1) (fd a b i (a.lf (k - 1)) j (b.lf (l - 1))+fd a b (a.lf (k - 1)) (k - 1) (b.lf (l - 1)) (l - 1)+turn a b (k - 1) (l - 1))
    else min (fd a b i (k - 1) j l) (fd a b i k j (l - 1))+1:=by
  obtain ⟨f,hf⟩:∃ f,(k - i)+(l - j)=f+1:=⟨(k - i)+(l - j) - 1,by omega⟩
  have ha:=a.le (k - 1)
  have hb:=b.le (l - 1)
  conv=>lhs; rw [fd,hf,U0,if_neg U,if_neg U]
  have e1:U0 a b f i (k - 1) j l=fd a b i (k - 1) j l:=Et a b _ _ _ _ _ _ U U
  have e2:U0 a b f i k j (l - 1)=fd a b i k j (l - 1):=Et a b _ _ _ _ _ _ U U
  simp only [e1,e2]
  split
  · rename_i hh
    have e3:U0 a b f i (a.lf (k - 1)) j (b.lf (l - 1))=fd a b i (a.lf (k - 1)) j (b.lf (l - 1)):=Et a b _ _ _ _ _ _ U U
    have e4:U0 a b f (a.lf (k - 1)) (k - 1) (b.lf (l - 1)) (l - 1)=fd a b (a.lf (k - 1)) (k - 1) (b.lf (l - 1)) (l - 1):=Et a b _ _ _ _ _ _ U U
    rw [e3,e4]
  · rfl
theorem R8 (h:i < k):fd a b i k j l≤fd a b i (k - 1) j l+1:=by
  by_cases h2:j < l
  · rw [Pu h h2]; split <;> omega
  · rw [Mr U,Mr U]; omega
theorem UF (h:j < l):fd a b i k j l≤fd a b i k j (l - 1)+1:=by
  by_cases h2:i < k
  · rw [Pu h2 h]; split <;> omega
  · rw [Oo U,Oo U]; omega
theorem IC (h1:i < k) (h2:j < l) (h3:i≤a.lf (k - 1)) (h4:j≤b.lf (l - 1)) :
    fd a b i k j l≤fd a b i (a.lf (k - 1)) j (b.lf (l - 1))+fd a b (a.lf (k - 1)) (k - 1) (b.lf (l - 1)) (l - 1)+turn a b (k - 1) (l - 1):=by
  rw [Pu h1 h2,if_pos ⟨h3,h4⟩]; omega
theorem U3 (h1:i < k) (h2:j < l):fd a b i k j l=fd a b i (k - 1) j l+1∨fd a b i k j l=fd a b i k j (l - 1)+1 ∨
    (i≤a.lf (k - 1)∧j≤b.lf (l - 1)∧fd a b i k j l=fd a b i (a.lf (k - 1)) j (b.lf (l - 1))+fd a b (a.lf (k - 1)) (k - 1) (b.lf (l - 1)) (l - 1)+turn a b (k - 1) (l - 1)):=by
  rw [Pu h1 h2]
  split
  · rename_i h; omega
  · omega
end
theorem NV (a b:Nodes):∀ (n i p k j q l:Nat),(k - p)+(l - q)≤n→i≤p→p≤k→j≤q→q≤l→fd a b i k j l≤fd a b i p j q+fd a b p k q l:=by
  intro n
  induction n with
  | zero =>
    intro i p k j q l hn h1 h2 h3 h4
    obtain rfl:p=k:=by omega
    obtain rfl:q=l:=by omega
    omega
  | succ n ih =>
    intro i p k j q l hn h1 h2 h3 h4
    by_cases hk:p < k
    · by_cases hl : q < l
      · rcases U3 (a := a) (b := b) hk hl with h | h | ⟨h5, h6, h⟩
        · have e := ih i p (k - 1) j q l U h1 U h3 h4
          have e2:=R8 (a:=a) (b:=b) (i:=i) (k:=k) (j:=j) (l:=l) U
          omega
        · have e := ih i p k j q (l - 1) U h1 h2 h3 U
          have e2:=UF (a:=a) (b:=b) (i:=i) (k:=k) (j:=j) (l:=l) U
          omega
        · have ha := a.le (k - 1)
          have hb:=b.le (l - 1)
          have e:=ih i p (a.lf (k - 1)) j q (b.lf (l - 1)) U h1 h5 h3 h6
          have e2:=IC (a:=a) (b:=b) (i:=i) (k:=k) (j:=j) (l:=l) U U U U
          omega
      · have e := ih i p (k - 1) j q l U h1 U h3 h4
        have e2:=R8 (a:=a) (b:=b) (i:=i) (k:=k) (j:=j) (l:=l) U
        rw [Mr (by omega:l≤q)] at e ⊢
        omega
    · by_cases hl : q < l
      · have e := ih i p k j q (l - 1) U h1 h2 h3 U
        have e2:=UF (a:=a) (b:=b) (i:=i) (k:=k) (j:=j) (l:=l) U
        rw [Oo (by omega:k≤p)] at e ⊢
        omega
      · obtain rfl : p = k := by omega
        obtain rfl:q=l:=by omega
        omega
theorem Dj (a b:Nodes):∀ (n i k j l:Nat),(k - i)+(l - j)≤n→fd a b i k j l≤(k - i)+(l - j)∧k - i≤fd a b i k j l+(l - j)∧l - j≤fd a b i k j l+(k - i):=by
  intro n
  induction n with
  | zero =>
    intro i k j l hn
    rw [Oo U]; omega
  | succ n ih =>
    intro i k j l hn
    by_cases hk:i < k
    · by_cases hl : j < l
      · have h0 := R8 (a := a) (b := b) (i := i) (k := k) (j := j) (l := l) hk
        have h1:=ih i (k - 1) j l U
        have h2:=ih i k j (l - 1) U
        have ha:=a.le (k - 1)
        have hb:=b.le (l - 1)
        rcases U3 (a:=a) (b:=b) hk hl with h | h | ⟨h5,h6,h⟩
        · omega
        · omega
        · have h3 := ih i (a.lf (k - 1)) j (b.lf (l - 1)) U
          have h4:=ih (a.lf (k - 1)) (k - 1) (b.lf (l - 1)) (l - 1) U
          omega
      · rw [Mr U]; omega
    · rw [Oo U]; omega
def NW (a:Nodes) (i k:Nat):Prop:=∀ z,i≤z→z < k→i≤a.lf z
def DV (a:Nodes) (n:Nat):Prop:=∀ x,x < n→NW a (a.lf x) x
def td (a b:Nodes) (x y:Nat):Nat:=fd a b (a.lf x) (x+1) (b.lf y) (y+1)
theorem SY (a b:Nodes) (x y:Nat):td a b x y≤fd a b (a.lf x) x (b.lf y) y+turn a b x y:=by
  have ha:=a.le x
  have hb:=b.le y
  have h:=IC (a:=a) (b:=b) (i:=a.lf x) (k:=x+1) (j:=b.lf y) (l:=y+1) U U Ma Ma
  simp only [Nat.add_sub_cancel] at h
  rw [Oo (Nat.le_refl (a.lf x))] at h
  unfold td
  omega
theorem GO (a b:Nodes) {i x j y:Nat} (h1:i≤a.lf x) (h2:j≤b.lf y) :
    fd a b i (x+1) j (y+1)=min (min (fd a b i x j (y+1)) (fd a b i (x+1) j y)+1) (fd a b i (a.lf x) j (b.lf y)+td a b x y):=by
  have ha:=a.le x
  have hb:=b.le y
  have d1:=R8 (a:=a) (b:=b) (i:=i) (k:=x+1) (j:=j) (l:=y+1) U
  have d2:=UF (a:=a) (b:=b) (i:=i) (k:=x+1) (j:=j) (l:=y+1) U
  have s:=NV a b _ i (a.lf x) (x+1) j (b.lf y) (y+1) (Nat.le_refl _) h1 U h2 U
  have t:=SY a b x y
  rcases U3 (a:=a) (b:=b) (i:=i) (k:=x+1) (j:=j) (l:=y+1) U U with h | h | ⟨h5,h6,h⟩ <;> simp only [Nat.add_sub_cancel] at h d1 d2 <;> unfold td at * <;> omega
theorem JS (a b:Nodes) {x y:Nat} :
    fd a b (a.lf x) (x+1) (b.lf y) (y+1)=min (min (fd a b (a.lf x) x (b.lf y) (y+1)) (fd a b (a.lf x) (x+1) (b.lf y) y)+1) (fd a b (a.lf x) x (b.lf y) y+turn a b x y):=by
  have ha:=a.le x
  have hb:=b.le y
  have h:=Pu (a:=a) (b:=b) (i:=a.lf x) (k:=x+1) (j:=b.lf y) (l:=y+1) U U
  simp only [Nat.add_sub_cancel] at h
  rw [if_pos ⟨Nat.le_refl _,Nat.le_refl _⟩,Oo (Nat.le_refl (a.lf x)),Nat.sub_self,Nat.zero_add] at h
  exact h
end Go.Scarf
namespace Go.Scarf
def lfOk (fs:List Int) (n:Nat):Prop:=∀ j (h:j < fs.length),j < n→0≤fs[j]∧fs[j]≤(j:Int)∧∀ i (hi:i < j),fs[j]≤(i:Int)→fs[j]≤fs[i]'U
def Xh (ls:List Str) (fs:List Int):Prop:=ls.length=fs.length∧ls.length≤512∧lfOk fs fs.length
def Li (fs:List Int) (x:Nat):Nat:=min (fs.getD x 0).toNat x
def Fb (ls:List Str) (fs:List Int):Nodes:=⟨fun x=>ls.getD x [],Li fs,fun _=>Nat.min_le_right _ _⟩
theorem lfOk.at {fs:List Int} {n j:Nat} (h:lfOk fs n) (hj:j < fs.length) (hn:j < n):((Li fs j:Nat):Int)=fs[j]:=by
  obtain ⟨h1,h2,-⟩:=h j hj hn
  have e:fs.getD j 0=fs[j]:=by simp [List.getD,hj]
  rw [Li,e]
  omega
theorem lfOk.nest {fs:List Int} {n:Nat} (h:lfOk fs n) (hn:n≤fs.length) (ls:List Str):DV (Fb ls fs) n:=by
  intro x hx z hz1 hz2
  have e1:=h.at (j:=x) U hx
  have e2:=h.at (j:=z) U U
  have hz1':Li fs x≤z:=hz1
  have:=(h x U hx).2.2 z hz2 U
  show Li fs x≤Li fs z
  omega
inductive Rts (fs:List Int):Nat→List Nat→Prop
  | nil:Rts fs 0 []
  | snoc {r:Nat} {l:List Nat}:Rts fs (Li fs r) l→Rts fs (r+1) (l++[r])
theorem Rts.last {fs:List Int} {p r:Nat} {l:List Nat} (h:Rts fs p (l++[r])):p=r+1∧Rts fs (Li fs r) l:=by
  generalize e:l++[r]=m at h
  cases h with
  | nil=>simp at e
  | snoc h1 =>
    obtain ⟨rfl,e2⟩:=List.append_inj' e rfl
    simp only [List.cons.injEq,and_true] at e2
    subst e2
    exact ⟨O,h1⟩
theorem Rts.none {fs:List Int} {p:Nat} (h:Rts fs p []):p=0:=by
  generalize e:([]:List Nat)=m at h
  cases h with
  | nil=>rfl
  | snoc h1=>simp at e
theorem Rts.len {fs:List Int} {p:Nat} {l:List Nat} (h:Rts fs p l):l.length≤p:=by
  induction h with
  | nil=>simp
  | snoc h1 ih =>
    rename_i r l
    have:Li fs r≤r:=Nat.min_le_right _ _
    simp only [List.length_append,List.length_cons,List.length_nil]
    omega
theorem lfOk.snoc {fs:List Int} {j:Nat} (h:lfOk fs j) (hj:j < fs.length) (h0:0≤fs[j]) (h1:fs[j]≤(j:Int)) (hc:∀ z (hz:z < j),fs[j]≤(z:Int)→fs[j]≤fs[z]'U):lfOk fs (j+1):=by
  intro i hi hn
  by_cases e:i=j
  · subst e
    exact ⟨h0,h1,fun z hz hle=>hc z hz hle⟩
  · exact h i hi U
theorem lfOk.popped {fs:List Int} {j r:Nat} (h:lfOk fs j) (hj:j≤fs.length) (hr:r < j) {left:Int} (hl:left≤((Li fs r:Nat):Int)) {z:Nat} (h1:Li fs r≤z) (h2:z≤r):left≤fs[z]'U:=by
  have e1:=h.at (j:=r) U hr
  by_cases e:z=r
  · subst e; omega
  · have := (h r U hr).2.2 z U U
    omega
def QN (fs:List Int) (i:Nat):Bool:=decide (∀ j,j < fs.length→i < j→fs.getD j 0≠fs.getD i 0)
def Yc (fs:List Int):List Nat:=(List.range fs.length).filter fun i=>QN fs i
theorem Pi {fs:List Int} {i:Nat}:i∈Yc fs↔i < fs.length∧∀ j,j < fs.length→i < j→fs.getD j 0≠fs.getD i 0:=by
  unfold Yc QN
  rw [List.mem_filter,List.mem_range,decide_eq_true_eq]
theorem Qu (fs:List Int):(Yc fs).Pairwise (· < ·):=List.Pairwise.filter _ List.pairwise_lt_range
theorem K2 (fs:List Int):∀ (n x:Nat),fs.length - x≤n→x < fs.length→∃ k,x≤k∧k∈Yc fs∧fs.getD k 0=fs.getD x 0:=by
  intro n
  induction n with
  | zero=>intro x h1 h2; omega
  | succ n ih =>
    intro x h1 h2
    by_cases h:∀ j,j < fs.length→x < j→fs.getD j 0≠fs.getD x 0
    · exact ⟨x,Nat.le_refl _,Pi.2 ⟨h2,h⟩,O⟩
    · have:∃ j,j < fs.length∧x < j∧fs.getD j 0=fs.getD x 0:=by
        refine Classical.byContradiction fun hn=>h fun j h3 h4 h5=>hn ⟨j,h3,h4,h5⟩
      obtain ⟨j,h3,h4,h5⟩:=this
      obtain ⟨k,h6,h7,h8⟩:=ih j U h3
      exact ⟨k,by omega,h7,h8.trans h5⟩
theorem So {fs:List Int} {j:Nat} (h:j < fs.length):fs.getD j 0=fs[j]:=by simp [List.getD,h]
theorem Wz {fs:List Int} (h:lfOk fs fs.length) {k x:Nat} (hk:k∈Yc fs) (h1:Li fs k≤x) (h2:x≤k) (hne:Li fs x≠Li fs k):∃ k',k' < k∧k'∈Yc fs∧Li fs k'=Li fs x:=by
  have hkl:=(Pi.1 hk).1
  obtain ⟨k',h3,h4,h5⟩:=K2 fs _ x (Nat.le_refl _) U
  have hkl':=(Pi.1 h4).1
  have e1:=h.at hkl hkl
  have e2:=h.at hkl' hkl'
  have e3:=h.at (j:=x) U U
  rw [So hkl',So U] at h5
  refine ⟨k',?_,h4,by omega⟩
  refine Classical.byContradiction fun hn=>?_
  have hx:=(h k hkl hkl).2.2
  have hxx:Li fs x≤x:=Nat.min_le_right _ _
  have hxk:Li fs k≤Li fs x:=by
    by_cases e:x=k
    · subst e; exact Nat.le_refl _
    · have:=hx x U U; omega
  by_cases e:k'=k
  · subst e; omega
  · have := (h k' hkl' hkl').2.2 k U U
    omega
theorem E0 {l:List Nat} (h:l.Pairwise (· < ·)) {u x:Nat} (hu:u < l.length) (hx:x∈l) (hlt:x < l[u]):x∈l.take u:=by
  obtain ⟨i,hi,rfl⟩:=List.getElem_of_mem hx
  have:i < u:=by
    refine Classical.byContradiction fun hn=>?_
    by_cases e:i=u
    · subst e; omega
    · have:=List.pairwise_iff_getElem.1 h u i hu hi U; omega
  rw [List.mem_take_iff_getElem]
  exact ⟨i,by omega,O⟩
def Zw (fs gs:List Int) (u v:Nat) (x y:Nat):Prop :=
  (∃ k∈(Yc fs).take u,Li fs k=Li fs x)∨(∃ h:u < (Yc fs).length,Li fs (Yc fs)[u]=Li fs x∧∃ l∈(Yc gs).take v,Li gs l=Li gs y)
theorem GB {fs gs:List Int} (h:lfOk fs fs.length) (h':lfOk gs gs.length) {u v:Nat} (hu:u < (Yc fs).length) (hv:v < (Yc gs).length) {x y:Nat}
    (hx1:Li fs (Yc fs)[u]≤x) (hx2:x≤(Yc fs)[u]) (hy1:Li gs (Yc gs)[v]≤y) (hy2:y≤(Yc gs)[v])
    (hne:¬(Li fs x=Li fs (Yc fs)[u]∧Li gs y=Li gs (Yc gs)[v])):Zw fs gs u v x y:=by
  by_cases e:Li fs x=Li fs (Yc fs)[u]
  · obtain ⟨k', h1, h2, h3⟩ := Wz h' (List.getElem_mem hv) hy1 hy2 (fun q => hne ⟨e, q⟩)
    exact .inr ⟨hu,e.symm,k',E0 (Qu gs) hv h2 h1,h3⟩
  · obtain ⟨k', h1, h2, h3⟩ := Wz h (List.getElem_mem hu) hx1 hx2 e
    exact .inl ⟨k',E0 (Qu fs) hu h2 h1,h3⟩
theorem VD {fs gs:List Int} {u v x y:Nat} (hu:u < (Yc fs).length) (hv:v < (Yc gs).length) (h:Zw fs gs u (v+1) x y):Zw fs gs u v x y∨(Li fs x=Li fs (Yc fs)[u]∧Li gs y=Li gs (Yc gs)[v]):=by
  rcases h with h | ⟨_,h1,l,hl,h2⟩
  · exact .inl (.inl h)
  · rw [List.take_succ_eq_append_getElem hv, List.mem_append, List.mem_singleton] at hl
    rcases hl with hl | rfl
    · exact .inl (.inr ⟨hu,h1,l,hl,h2⟩)
    · exact .inr ⟨h1.symm,h2.symm⟩
theorem ZI {fs gs:List Int} {u x y:Nat} (hu:u < (Yc fs).length) (hy:y < gs.length) (hg:lfOk gs gs.length) (h:Zw fs gs (u+1) 0 x y):Zw fs gs u (Yc gs).length x y:=by
  rcases h with ⟨k,hk,h1⟩ | ⟨_,_,l,hl,_⟩
  · rw [List.take_succ_eq_append_getElem hu, List.mem_append, List.mem_singleton] at hk
    rcases hk with hk | rfl
    · exact .inl ⟨k,hk,h1⟩
    · obtain ⟨l, h2, h3, h4⟩ := K2 gs _ y (Nat.le_refl _) hy
      have hl:=(Pi.1 h3).1
      have e1:=hg.at hl hl
      have e2:=hg.at hy hy
      rw [So hl,So hy] at h4
      exact .inr ⟨hu,h1,l,by rw [List.take_of_length_le (Nat.le_refl _)]; exact h3,by omega⟩
  · simp at hl
theorem KJ {fs gs:List Int} (hf:lfOk fs fs.length) {x y:Nat} (hx:x < fs.length):Zw fs gs (Yc fs).length 0 x y:=by
  obtain ⟨l,h2,h3,h4⟩:=K2 fs _ x (Nat.le_refl _) hx
  have hl:=(Pi.1 h3).1
  have e1:=hf.at hl hl
  have e2:=hf.at hx hx
  rw [So hl,So hx] at h4
  exact .inl ⟨l,by rw [List.take_of_length_le (Nat.le_refl _)]; exact h3,by omega⟩
theorem WD {fs gs:List Int} {x y:Nat}:¬Zw fs gs 0 0 x y:=by
  rintro (⟨k,hk,_⟩ | ⟨_,_,l,hl,_⟩)
  · simp at hk
  · simp at hl
end Go.Scarf
namespace Go.Scarf
def Ts (ls:List Str) (fs:List Int) (gs:List Str) (hs:List Int):Nat:=fd (Fb ls fs) (Fb gs hs) 0 ls.length 0 gs.length
section
variable {ls gs ks:List Str} {fs hs is:List Int}
theorem Yp:Ts ls fs gs hs≤ls.length+gs.length∧ls.length≤Ts ls fs gs hs+gs.length∧gs.length≤Ts ls fs gs hs+ls.length:=by
  have:=Dj (Fb ls fs) (Fb gs hs) _ 0 ls.length 0 gs.length (Nat.le_refl _)
  simpa [Ts] using this
end
section
variable {ls gs:List Str} {fs hs:List Int} {r:Str}
end
end Go.Scarf
