/- A part of the proof. -/
import Derived.Test.YtgkmigdopohcnaaGreatDoorW19
set_option linter.all false
set_option maxHeartbeats 8000000
set_option maxRecDepth 10000
namespace Go.Scarf
structure LA {α:Type} (f:α->α->Int) (P:α->Prop) (a:α):Prop where
  rng:∀b,f a b = -1\/f a b=0\/f a b=1
  anti:∀b,P b->f b a = - f a b
  eq:∀b,P b->(f a b=0↔a=b)
  tr:∀b c,P b->P c->f a b<=0->f b c<=0->f a c<=0
theorem QT:∀a:Str,LA Lib.compareBytes (λ_=>True) a:=by
  have rng:∀a b:Str,Lib.compareBytes a b = -1\/Lib.compareBytes a b=0\/Lib.compareBytes a b=1:=by
    intro a
    induction a with
    | nil=>intro b;cases b <;> simp[Lib.compareBytes]
    | cons x a ih => intro b;cases b with
      | nil=>simp[Lib.compareBytes]
      | cons y b => unfold Lib.compareBytes;repeat' split
                    ·exact .inl O
                    ·exact .inr (.inr O)
                    exact ih b
  have lt3:∀x y:UInt8,¬x<y->¬y<x->x=y:=λx y h1 h2=>by
    apply UInt8.toNat_inj.1;rw[UInt8.lt_iff_toNat_lt]at h1 h2;omega
  have ltn:∀x y:UInt8,x<y↔x.toNat<y.toNat:=λx y=>UInt8.lt_iff_toNat_lt;intro a;refine⟨rng a,λb _=>?_,λb _=>?_,λb c _ _=>?_⟩
  ·induction a generalizing b with
   | nil=>cases b <;> simp[Lib.compareBytes]
   | cons x a ih => cases b with
     | nil=>simp[Lib.compareBytes]
     | cons y b =>
       unfold Lib.compareBytes;simp only[ltn]
       repeat' split
       all_goals first|omega|exact ih b
  ·induction a generalizing b with
   | nil=>cases b <;> simp[Lib.compareBytes]
   | cons x a ih => cases b with
     | nil=>simp[Lib.compareBytes]
     | cons y b =>
       unfold Lib.compareBytes;split
       ·rename_i h;simp;intro e;subst e;rw[ltn]at h;omega
       split
       ·rename_i h;simp;intro e;subst e;rw[ltn]at h;omega
       rename_i h1 h2
       have:=lt3 x y h1 h2;subst this;rw[ih];simp
  induction a generalizing b c with
  | nil=>cases b <;> cases c <;> simp[Lib.compareBytes]
  | cons x a ih => cases b with
    | nil=>intro h;simp[Lib.compareBytes]at h
    | cons y b => cases c with
      | nil=>intro _ h;simp[Lib.compareBytes]at h
      | cons z c =>
        unfold Lib.compareBytes;simp only[ltn];intro h1 h2
        repeat' split
        ·omega
        ·exfalso
         split at h1
         ·split at h2
          ·omega
          split at h2
          ·omega
          omega
         split at h1
         ·omega
         split at h2
         ·omega
         split at h2
         ·omega
         omega
        split at h1
        ·split at h2
         ·omega
         split at h2
         ·omega
         omega
        split at h1
        ·omega
        split at h2
        ·omega
        split at h2
        ·omega
        exact ih b c h1 h2
theorem G6{ks:List Str}{xs:List Tree}(hn:ks.Nodup):∀{i:Nat}(h:i<ks.length)(h2:i<xs.length),Lf ks xs ks[i]=some xs[i]:=by
  induction ks generalizing xs with
  | nil=>intro i h;cases h
  | cons k ks ih =>
    intro i h h2;cases xs with
    | nil=>cases h2
    | cons x xs =>
      cases i with
      | zero=>simp[Lf]
      | succ i =>
        have hne:k≠ks[i]'(by simpa using h):=λe=>(List.nodup_cons.1 hn).1 (e▸eQ _);simp only[Lf,List.getElem_cons_succ];rw[if_neg hne];exact ih (List.nodup_cons.1 hn).2 (by simpa using h) (by simpa using h2)
theorem XP{ks:List Str}{xs:List Tree}(hl:ks.length=xs.length){key:Str}(h:key∈ks):∃y,Lf ks xs key=some y:=by
  induction ks generalizing xs with
  | nil=>cases h
  | cons k ks ih =>
    cases xs with
    | nil=>cases hl
    | cons x xs =>
      rw[Lf];by_cases e:k=key
      ·exact⟨x,if_pos e⟩
      rw[if_neg e];exact ih (by simpa using hl) (by rcases oQ.1 h with h|h;exact absurd h.symm e;exact h)
theorem K_{ks:List Str}{xs:List Tree}(key:Str):Lf ks (Ve xs) key=(Lf ks xs key).map sortT:=by
  cases h:Lf ks xs key with
  | some y=>exact Lu h
  | none =>
    induction ks generalizing xs with
    | nil=>cases xs <;> rfl
    | cons k ks ih =>
      cases xs with
      | nil=>rfl
      | cons x xs =>
        rw[Lf]at h;rw[Ve,Lf];by_cases e:k=key
        ·rw[if_pos e]at h;cases h
        rw[if_neg e]at h ⊢;exact ih h
theorem QG{ks ks':List Str}{n:Int}(h:ks.Perm ks'):Qn ks n=Qn ks' n:=by
  unfold Qn;rw[h.length_eq,decide_eq_decide.2 h.nodup_iff]
  congr 2
  rw[Bool.eq_iff_iff,List.all_eq_true,List.all_eq_true];exact⟨λhh k hk=>hh k (h.mem_iff.2 hk),λhh k hk=>hh k (h.mem_iff.1 hk)⟩
theorem L0{q:Tree->Bool}:∀{xs:List Tree},(∀x∈xs,Td q x=true)->Np q xs=true
  | [],_=>rfl
  | x::xs,h=>by rw[Np,h x La,L0 (λy hy=>h y (by simp[hy]))];rfl
theorem V8{ks:List Str}{xs:List Tree}(hn:ks.Nodup)(hl:ks.length=xs.length):(Nz ks xs).Perm (Ve xs):=by
  have h1:(Nz ks xs).Perm (ks.map λkey=>(Lf ks (Ve xs) key).getD (.node 0 [] [] [])):=(In ks).map _;refine h1.trans ?_;have h2:(ks.map λkey=>(Lf ks (Ve xs) key).getD (.node 0 [] [] []))=Ve xs:=by
    apply List.ext_getElem
    ·rw[rQ,Sh,rQ,hl]
    intro i h1 h2;rw[List.getElem_map,G6 hn (by simpa using h1) h2];rfl
  rw[h2]
theorem Mt{k:Int}{t:Str}{ks:List Str}{xs:List Tree}:sortT (.node k t ks xs)=if k=6 then .node k t (Lj ks) (Nz ks xs) else .node k t [] (Ve xs):=by rw[sortT];rfl
theorem GO(x:Tree):Td nodeB x=true->Td nodeB (sortT x)=true:=Tree.ind (Q:=λx=>Td nodeB x=true->Td nodeB (sortT x)=true) (λk t ks xs ih hx=>by
  obtain⟨hn,hxs⟩:=Tf hx;have hs:∀y∈Ve xs,Td nodeB y=true:=by
    intro y hy;rw[Sh]at hy;obtain⟨z,hz,rfl⟩:=nQ.1 hy;exact ih z hz (hxs z hz)
  rw[Mt];split
  ·rename_i h6
   subst h6;obtain⟨nd,len⟩:=Cu hn;have hp:=V8 nd len;rw[Td,Bool.and_eq_true];refine⟨?_,L0 λy hy=>hs y (hp.mem_iff.1 hy)⟩;simp only[nodeB]at hn ⊢;rw[if_pos trivial]at hn ⊢;rw[QG (In ks),hp.length_eq,Sh,rQ];exact hn
  rename_i h6
  rw[Td,Bool.and_eq_true];refine⟨?_,L0 hs⟩;simp only[nodeB]at hn ⊢;by_cases h5:k=5
  ·rw[if_pos h5]at hn ⊢
   simp at hn ⊢;exact hn.2
  rw[if_neg h5, if_neg h6]at hn ⊢;by_cases hc:ks≠[]\/xs≠[]
  ·rw[if_pos hc]at hn;cases hn
  have hk : ks = [] := Classical.byContradiction λh => hc (.inl h);have hx0:xs=[]:=Classical.byContradiction λh=>hc (.inr h);subst hk hx0;simpa[Ve]using hn) x
theorem Ru:∀xs:List Tree,Vb xs=(xs.map Mb).sum
  | []=>rfl
  | x::xs=>by rw[Vb,Ru xs];rfl
theorem NC{xs ys:List Tree}(h:xs.Perm ys):Vb xs=Vb ys:=by
  rw[Ru,Ru];exact (h.map _).sum_nat
theorem S9{xs ys:List Tree}(h:xs.Perm ys):Wc xs=Wc ys:=by
  induction h with
  | nil=>rfl
  | cons x _ ih=>rw[Wc,Wc,ih]
  | swap x y l=>simp only[Wc];omega
  | trans _ _ h1 h2=>rw[h1,h2]
theorem Z5(x:Tree):Td nodeB x=true->Mb (sortT x)=Mb x/\Hd (sortT x)=Hd x:=Tree.ind (Q:=λx=>Td nodeB x=true->Mb (sortT x)=Mb x/\Hd (sortT x)=Hd x) (λk t ks xs ih hx=>by
  obtain⟨hn,hxs⟩:=Tf hx;have h1:∀ys:List Tree,(∀y∈ys,y∈xs)->Vb (Ve ys)=Vb ys/\Wc (Ve ys)=Wc ys:=by
    intro ys
    induction ys with
    | nil=>intro _;exact⟨rfl,rfl⟩
    | cons y ys ihy =>
      intro hm;obtain⟨a,b⟩:=ih y (hm y La) (hxs y (hm y La));obtain⟨c,d⟩:=ihy (λz hz=>hm z (by simp[hz]));simp only[Ve,Vb,Wc,a,b,c,d];exact⟨trivial,trivial⟩
  obtain⟨a,b⟩:=h1 xs (λ_ h=>h);rw[Mt];split
  ·rename_i h6
   subst h6;obtain⟨nd,len⟩:=Cu hn;have hp:=V8 nd len;simp only[Mb,Hd,NC hp,S9 hp,a,b];exact⟨trivial,trivial⟩
  simp only[Mb, Hd, a, b];exact⟨trivial,trivial⟩) x
theorem ON{x:Tree}(h:Kg x=true):Kg (sortT x)=true:=by
  obtain⟨a,b⟩:=Z5 x (Sk h);have c:=GO x (Sk h);unfold Kg Bq at h ⊢;rw[a,b,c];simp only[Bool.and_eq_true]at h;simp[h.1]
theorem Ko{x:Tree}(h:Kg x=true):Ae x=sortT x:=by rw[Ae,if_pos h]
end Go.Scarf
