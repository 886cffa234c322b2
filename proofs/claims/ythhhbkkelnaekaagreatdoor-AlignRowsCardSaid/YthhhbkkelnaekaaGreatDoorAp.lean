/- A part of the proof. -/
import Derived.Test.YthhhbkkelnaekaaGreatDoorTr
import Derived.Test.YthhhbkkelnaekaaGreatDoorMem
set_option linter.all false
set_option maxHeartbeats 8000000
set_option maxRecDepth 10000
namespace Go.Scarf
open Go.RowKit
def I6 (q:Int × Int):D:=.agg [Ug q.1,Ug q.2]
def Lj (m:List (Int × Int)):D:=.slice (m.map I6)
abbrev Bl (q:Int × Int):List Value:=[.int .i64 q.1,.int .i64 q.2]
def As (m:List (Int × Int)):List Value:=m.flatMap Bl
section
variable {S:Nat→Prop} {w:World}
theorem JL {q:Int × Int} {cs:List Value} (h:Rep S w (I6 q) cs):cs=Bl q∧(-9223372036854775808≤q.1∧q.1≤9223372036854775807)∧(-9223372036854775808≤q.2∧q.2≤9223372036854775807):=by
  simp only [I6,Ug,Rep,RepL] at h
  obtain ⟨c1,c2,rfl,⟨rfl,h1⟩,c3,c4,rfl,⟨rfl,h2⟩,rfl⟩:=h
  exact ⟨O,h1,h2⟩
theorem XO {q:Int × Int} (h1:-9223372036854775808≤q.1∧q.1≤9223372036854775807) (h2:-9223372036854775808≤q.2∧q.2≤9223372036854775807):Rep S w (I6 q) (Bl q):=by
  simp only [I6,Ug,Rep,RepL]
  exact ⟨_,_,O,⟨O,h1⟩,_,_,O,⟨O,h2⟩,O⟩
theorem Rep.pair_elem {m:List (Int × Int)} {A:Option Addr} {len c:Nat} (h:Rep S w (Lj m) [.slice A len c]) {i:Nat} (hi:i < m.length) :
    ∃ ad,A=some ad∧(∀ j (hj:j < (Bl m[i]).length),w.cell? ((ad.add (i * 2)).add j)=some (Bl m[i])[j])∧(-9223372036854775808≤m[i].1∧m[i].1≤9223372036854775807)∧(-9223372036854775808≤m[i].2∧m[i].2≤9223372036854775807):=by
  obtain ⟨ad,cs,hA,hl,hc,hr⟩:=Rep.elem (sz:=2) h (fun d hd=>by obtain ⟨k,_,rfl⟩:=List.mem_map.1 hd; rfl) (i:=i) (by simpa using hi)
  rw [List.getElem_map] at hr
  obtain ⟨rfl,h1,h2⟩:=JL hr
  exact ⟨ad,hA,hc,h1,h2⟩
theorem Rep.pairs_len {m:List (Int × Int)} {A:Option Addr} {len c:Nat} (h:Rep S w (Lj m) [.slice A len c]):len=m.length∧len≤c∧c≤9223372036854775807:=by
  have:=h.slice_len
  rwa [List.length_map] at this
def Dm (x:List Str × List Int):D:=.agg [Hf x.1,.slice (x.2.map Ug)]
theorem DO {x:List Str × List Int} {cs:List Value} (h:Rep S w (Dm x) cs):∃ A c B e,cs=[.slice A x.1.length c,.slice B x.2.length e]∧Rep S w (Hf x.1) [.slice A x.1.length c]∧Rep S w (.slice (x.2.map Ug)) [.slice B x.2.length e]:=by
  rw [Dm,Rep,RepL] at h
  obtain ⟨c1,c2,rfl,h1,h2⟩:=h
  rw [RepL] at h2
  obtain ⟨c3,c4,rfl,h2,h3⟩:=h2
  rw [RepL] at h3
  subst h3
  obtain ⟨A,c,e1⟩:∃ A c,c1=[.slice A x.1.length c]:=by
    have h1':=h1
    rw [Hf,Rep] at h1'
    obtain ⟨A,c,he,-⟩:=h1'
    exact ⟨A,c,by rw [he,List.length_map]⟩
  obtain ⟨B,e,e2⟩:∃ A c,c3=[.slice A x.2.length c]:=by
    have h2':=h2
    rw [Rep] at h2'
    obtain ⟨A,c,he,-⟩:=h2'
    exact ⟨A,c,by rw [he,List.length_map]⟩
  subst e1 e2
  exact ⟨A,c,B,e,O,h1,h2⟩
theorem FC {x:List Str × List Int} {A B:Option Addr} {c e:Nat} (h1:Rep S w (Hf x.1) [.slice A x.1.length c]) (h2:Rep S w (.slice (x.2.map Ug)) [.slice B x.2.length e]):Rep S w (Dm x) [.slice A x.1.length c,.slice B x.2.length e]:=by
  rw [Dm,Rep,RepL]
  refine ⟨_,_,O,h1,?_⟩
  rw [RepL]
  exact ⟨_,_,O,h2,by rw [RepL]⟩
theorem Rep.node_elem {l:List (List Str × List Int)} {A:Option Addr} {len c:Nat} (h:Rep S w (.slice (l.map Dm)) [.slice A len c]) {i:Nat} (hi:i < l.length) :
    ∃ ad A1 c1 B1 e1, A = some ad ∧ (∀ j (hj : j < [Value.slice A1 l[i].1.length c1, .slice B1 l[i].2.length e1].length), w.cell? ((ad.add (i * 2)).add j) = some [Value.slice A1 l[i].1.length c1, .slice B1 l[i].2.length e1][j]) ∧
      Rep S w (Hf l[i].1) [.slice A1 l[i].1.length c1]∧Rep S w (.slice (l[i].2.map Ug)) [.slice B1 l[i].2.length e1]:=by
  obtain ⟨ad,cs,hA,hl,hc,hr⟩:=Rep.elem (sz:=2) h (fun d hd=>by obtain ⟨k,_,rfl⟩:=List.mem_map.1 hd; rfl) (i:=i) (by simpa using hi)
  rw [List.getElem_map] at hr
  obtain ⟨A1,c1,B1,e1,rfl,h1,h2⟩:=DO hr
  exact ⟨ad,A1,c1,B1,e1,hA,hc,h1,h2⟩
end
end Go.Scarf
namespace Go.Scarf
section
variable {α:Type} (sz:α→Nat) (p:α→α→Nat)
def LT (x:α) (rec:List α→Nat):List α→Nat
  | []=>sz x+rec []
  | y::ys=>min (p x y+rec ys) (min (sz x+rec (y::ys)) (sz y+LT x rec ys))
def FU:List α→Nat
  | []=>0
  | y::ys=>sz y+FU ys
def al:List α→List α→Nat
  | []=>FU sz
  | x::xs=>LT sz p x (al xs)
inductive Ali:List α→List α→Nat→Prop
  | nil:Ali [] [] 0
  | pair {x y:α} {xs ys:List α} {c:Nat}:Ali xs ys c→Ali (x::xs) (y::ys) (p x y+c)
  | drop {x:α} {xs ys:List α} {c:Nat}:Ali xs ys c→Ali (x::xs) ys (sz x+c)
  | add {y:α} {xs ys:List α} {c:Nat}:Ali xs ys c→Ali xs (y::ys) (sz y+c)
end
section
variable {α:Type} {sz:α→Nat} {p:α→α→Nat}
theorem VG (y:α) (ys:List α):al sz p [] (y::ys)=sz y+al sz p [] ys:=rfl
theorem FN (x:α) (xs:List α):al sz p (x::xs) []=sz x+al sz p xs []:=rfl
theorem T6 (x y:α) (xs ys:List α):al sz p (x::xs) (y::ys)=min (p x y+al sz p xs ys) (min (sz x+al sz p xs (y::ys)) (sz y+al sz p (x::xs) ys)):=rfl
theorem VE (x:α) (xs ys:List α):al sz p (x::xs) ys≤sz x+al sz p xs ys:=by
  cases ys with
  | nil=>exact Nat.le_refl _
  | cons y ys=>rw [T6]; omega
theorem Ali.append {xs ys xs' ys':List α} {c c':Nat} (h:Ali sz p xs ys c) (h':Ali sz p xs' ys' c'):Ali sz p (xs++xs') (ys++ys') (c+c'):=by
  induction h with
  | nil=>simpa using h'
  | pair _ ih=>rw [Nat.add_assoc]; exact .pair ih
  | drop _ ih=>rw [Nat.add_assoc]; exact .drop ih
  | add _ ih=>rw [Nat.add_assoc]; exact .add ih
theorem Ali.zero (hz:∀ x,1≤sz x) {xs ys:List α} {c:Nat} (h:Ali sz p xs ys c) (hc:c=0):xs.length=ys.length∧∀ i (h1:i < xs.length) (h2:i < ys.length),p xs[i] ys[i]=0:=by
  induction h with
  | nil=>exact ⟨rfl,fun i h1=>absurd h1 Ma⟩
  | @pair x y xs ys c _ ih =>
    obtain ⟨h1,h2⟩:=ih U
    refine ⟨by simpa using h1,fun i hi hj=>?_⟩
    match i,hi,hj with
    | 0,_,_=>show p x y=0; omega
    | i+1,hi,hj=>exact h2 i (by simpa using hi) (by simpa using hj)
  | @drop x _ _ _ _ _=>have:=hz x; omega
  | @add y _ _ _ _ _=>have:=hz y; omega
theorem Ali.pop (ht:∀ x y,sz x≤p x y+sz y) {xs zs:List α} {c:Nat} (h:Ali sz p xs zs c):∀ {ys:List α} {v:α},zs=ys++[v]→∃ c',Ali sz p xs ys c'∧c'≤c+sz v:=by
  induction h with
  | nil=>intro ys v e; simp at e
  | @pair x y xs zs c h ih =>
    intro ys v e
    cases ys with
    | nil =>
      simp only [List.nil_append,List.cons.injEq] at e
      obtain ⟨rfl,rfl⟩:=e
      exact ⟨_,.drop h,by have:=ht x y; omega⟩
    | cons y' ys =>
      simp only [List.cons_append,List.cons.injEq] at e
      obtain ⟨rfl,e⟩:=e
      obtain ⟨c',h1,h2⟩:=ih e
      exact ⟨_,.pair h1,by omega⟩
  | @drop x xs zs c h ih =>
    intro ys v e
    obtain ⟨c',h1,h2⟩:=ih e
    exact ⟨_,.drop h1,by omega⟩
  | @add y xs zs c h ih =>
    intro ys v e
    cases ys with
    | nil =>
      simp only [List.nil_append,List.cons.injEq] at e
      obtain ⟨rfl,rfl⟩:=e
      exact ⟨_,h,by omega⟩
    | cons y' ys =>
      simp only [List.cons_append,List.cons.injEq] at e
      obtain ⟨rfl,e⟩:=e
      obtain ⟨c',h1,h2⟩:=ih e
      exact ⟨_,.add h1,by omega⟩
end
end Go.Scarf
