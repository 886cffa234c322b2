/- A part of the proof. -/
import Derived.Test.YtidlkjpohhbbcaaGreatDoorW19
set_option linter.all false
set_option maxHeartbeats 8000000
set_option maxRecDepth 10000
namespace Go.Scarf
structure LA {α:Type} (f:α->α->Int) (P:α->Prop) (a:α):Prop where
  rng:∀b,f a b = -1\/f a b=0\/f a b=1
  anti:∀b,P b->f b a = - f a b
  eq:∀b,P b->(f a b=0↔a=b)
  tr:∀b c,P b->P c->f a b<=0->f b c<=0->f a c<=0
theorem la_bytes:∀a:Str,LA Lib.compareBytes (λ_=>True) a:=by
  have rng:∀a b:Str,Lib.compareBytes a b = -1\/Lib.compareBytes a b=0\/Lib.compareBytes a b=1:=by
    intro a
    induction a with
    | nil=>intro b;cases b <;> simp[Lib.compareBytes]
    | cons x a ih => intro b;cases b with
      | nil=>simp[Lib.compareBytes]
      | cons y b => unfold Lib.compareBytes;repeat' split
                    ·exact .inl O
                    ·exact .inr (.inr O)
                    exact ih b
  have lt3:∀x y:UInt8,¬x<y->¬y<x->x=y:=λx y h1 h2=>by
    apply UInt8.toNat_inj.1;rw[UInt8.lt_iff_toNat_lt]at h1 h2;omega
  have ltn:∀x y:UInt8,x<y↔x.toNat<y.toNat:=λx y=>UInt8.lt_iff_toNat_lt;intro a;refine⟨rng a,λb _=>?_,λb _=>?_,λb c _ _=>?_⟩
  ·induction a generalizing b with
   | nil=>cases b <;> simp[Lib.compareBytes]
   | cons x a ih => cases b with
     | nil=>simp[Lib.compareBytes]
     | cons y b =>
       unfold Lib.compareBytes;simp only[ltn]
       repeat' split
       all_goals first|omega|exact ih b
  ·induction a generalizing b with
   | nil=>cases b <;> simp[Lib.compareBytes]
   | cons x a ih => cases b with
     | nil=>simp[Lib.compareBytes]
     | cons y b =>
       unfold Lib.compareBytes;split
       ·rename_i h;simp;intro e;subst e;rw[ltn]at h;omega
       split
       ·rename_i h;simp;intro e;subst e;rw[ltn]at h;omega
       rename_i h1 h2
       have:=lt3 x y h1 h2;subst this;rw[ih];simp
  induction a generalizing b c with
  | nil=>cases b <;> cases c <;> simp[Lib.compareBytes]
  | cons x a ih => cases b with
    | nil=>intro h;simp[Lib.compareBytes]at h
    | cons y b => cases c with
      | nil=>intro _ h;simp[Lib.compareBytes]at h
      | cons z c =>
        unfold Lib.compareBytes;simp only[ltn];intro h1 h2
        repeat' split
        ·omega
        ·exfalso
         split at h1
         ·split at h2
          ·omega
          split at h2
          ·omega
          omega
         split at h1
         ·omega
         split at h2
         ·omega
         split at h2
         ·omega
         omega
        split at h1
        ·split at h2
         ·omega
         split at h2
         ·omega
         omega
        split at h1
        ·omega
        split at h2
        ·omega
        split at h2
        ·omega
        exact ih b c h1 h2
theorem ZQ{ks:List Str}{xs:List Tree}(hn:ks.Nodup):∀{i:Nat}(h:i<ks.length)(h2:i<xs.length),Bg ks xs ks[i]=some xs[i]:=by
  induction ks generalizing xs with
  | nil=>intro i h;cases h
  | cons k ks ih =>
    intro i h h2;cases xs with
    | nil=>cases h2
    | cons x xs =>
      cases i with
      | zero=>simp[Bg]
      | succ i =>
        have hne:k≠ks[i]'(by simpa using h):=λe=>(List.nodup_cons.1 hn).1 (e▸eQ _);simp only[Bg,List.getElem_cons_succ];rw[if_neg hne];exact ih (List.nodup_cons.1 hn).2 (by simpa using h) (by simpa using h2)
theorem ZV{ks:List Str}{xs:List Tree}(hl:ks.length=xs.length){key:Str}(h:key∈ks):∃y,Bg ks xs key=some y:=by
  induction ks generalizing xs with
  | nil=>cases h
  | cons k ks ih =>
    cases xs with
    | nil=>cases hl
    | cons x xs =>
      rw[Bg];by_cases e:k=key
      ·exact⟨x,if_pos e⟩
      rw[if_neg e];exact ih (by simpa using hl) (by rcases oQ.1 h with h|h;exact absurd h.symm e;exact h)
theorem Qz{ks:List Str}{xs:List Tree}(key:Str):Bg ks (Jf xs) key=(Bg ks xs key).map sortT:=by
  cases h:Bg ks xs key with
  | some y=>exact Ux h
  | none =>
    induction ks generalizing xs with
    | nil=>cases xs <;> rfl
    | cons k ks ih =>
      cases xs with
      | nil=>rfl
      | cons x xs =>
        rw[Bg]at h;rw[Jf,Bg];by_cases e:k=key
        ·rw[if_pos e]at h;cases h
        rw[if_neg e]at h ⊢;exact ih h
theorem XK{ks ks':List Str}{n:Int}(h:ks.Perm ks'):So ks n=So ks' n:=by
  unfold So;rw[h.length_eq,decide_eq_decide.2 h.nodup_iff]
  congr 2
  rw[Bool.eq_iff_iff,List.all_eq_true,List.all_eq_true];exact⟨λhh k hk=>hh k (h.mem_iff.2 hk),λhh k hk=>hh k (h.mem_iff.1 hk)⟩
theorem J4{q:Tree->Bool}:∀{xs:List Tree},(∀x∈xs,Zd q x=true)->Ir q xs=true
  | [],_=>rfl
  | x::xs,h=>by rw[Ir,h x La,J4 (λy hy=>h y (by simp[hy]))];rfl
theorem LE{ks:List Str}{xs:List Tree}(hn:ks.Nodup)(hl:ks.length=xs.length):(K5 ks xs).Perm (Jf xs):=by
  have h1:(K5 ks xs).Perm (ks.map λkey=>(Bg ks (Jf xs) key).getD (.node 0 [] [] [])):=(Vo ks).map _;refine h1.trans ?_;have h2:(ks.map λkey=>(Bg ks (Jf xs) key).getD (.node 0 [] [] []))=Jf xs:=by
    apply List.ext_getElem
    ·rw[rQ,Yg,rQ,hl]
    intro i h1 h2;rw[List.getElem_map,ZQ hn (by simpa using h1) h2];rfl
  rw[h2]
theorem Lm{k:Int}{t:Str}{ks:List Str}{xs:List Tree}:sortT (.node k t ks xs)=if k=6 then .node k t (Hj ks) (K5 ks xs) else .node k t [] (Jf xs):=by rw[sortT];rfl
theorem WT(x:Tree):Zd nodeB x=true->Zd nodeB (sortT x)=true:=Tree.ind (Q:=λx=>Zd nodeB x=true->Zd nodeB (sortT x)=true) (λk t ks xs ih hx=>by
  obtain⟨hn,hxs⟩:=Zg hx;have hs:∀y∈Jf xs,Zd nodeB y=true:=by
    intro y hy;rw[Yg]at hy;obtain⟨z,hz,rfl⟩:=nQ.1 hy;exact ih z hz (hxs z hz)
  rw[Lm];split
  ·rename_i h6
   subst h6;obtain⟨nd,len⟩:=Iw hn;have hp:=LE nd len;rw[Zd,Bool.and_eq_true];refine⟨?_,J4 λy hy=>hs y (hp.mem_iff.1 hy)⟩;simp only[nodeB]at hn ⊢;rw[if_pos trivial]at hn ⊢;rw[XK (Vo ks),hp.length_eq,Yg,rQ];exact hn
  rename_i h6
  rw[Zd,Bool.and_eq_true];refine⟨?_,J4 hs⟩;simp only[nodeB]at hn ⊢;by_cases h5:k=5
  ·rw[if_pos h5]at hn ⊢
   simp at hn ⊢;exact hn.2
  rw[if_neg h5, if_neg h6]at hn ⊢;by_cases hc:ks≠[]\/xs≠[]
  ·rw[if_pos hc]at hn;cases hn
  have hk : ks = [] := Classical.byContradiction λh => hc (.inl h);have hx0:xs=[]:=Classical.byContradiction λh=>hc (.inr h);subst hk hx0;simpa[Jf]using hn) x
theorem Sw:∀xs:List Tree,Nb xs=(xs.map Db).sum
  | []=>rfl
  | x::xs=>by rw[Nb,Sw xs];rfl
theorem CH{xs ys:List Tree}(h:xs.Perm ys):Nb xs=Nb ys:=by
  rw[Sw,Sw];exact (h.map _).sum_nat
theorem AC{xs ys:List Tree}(h:xs.Perm ys):Ld xs=Ld ys:=by
  induction h with
  | nil=>rfl
  | cons x _ ih=>rw[Ld,Ld,ih]
  | swap x y l=>simp only[Ld];omega
  | trans _ _ h1 h2=>rw[h1,h2]
theorem P_(x:Tree):Zd nodeB x=true->Db (sortT x)=Db x/\Hd (sortT x)=Hd x:=Tree.ind (Q:=λx=>Zd nodeB x=true->Db (sortT x)=Db x/\Hd (sortT x)=Hd x) (λk t ks xs ih hx=>by
  obtain⟨hn,hxs⟩:=Zg hx;have h1:∀ys:List Tree,(∀y∈ys,y∈xs)->Nb (Jf ys)=Nb ys/\Ld (Jf ys)=Ld ys:=by
    intro ys
    induction ys with
    | nil=>intro _;exact⟨rfl,rfl⟩
    | cons y ys ihy =>
      intro hm;obtain⟨a,b⟩:=ih y (hm y La) (hxs y (hm y La));obtain⟨c,d⟩:=ihy (λz hz=>hm z (by simp[hz]));simp only[Jf,Nb,Ld,a,b,c,d];exact⟨trivial,trivial⟩
  obtain⟨a,b⟩:=h1 xs (λ_ h=>h);rw[Lm];split
  ·rename_i h6
   subst h6;obtain⟨nd,len⟩:=Iw hn;have hp:=LE nd len;simp only[Db,Hd,CH hp,AC hp,a,b];exact⟨trivial,trivial⟩
  simp only[Db, Hd, a, b];exact⟨trivial,trivial⟩) x
theorem U5(ks:List Str):Hj (Hj ks)=Hj ks:=by
  have h:(Hj ks).Perm ks:=Vo ks;show (Hj ks).mergeSort leB=Hj ks;exact Bw h
theorem M_{f:Str->Tree}{key:Str}:∀{l:List Str},key∈l->Bg l (l.map f) key=some (f key)
  | [],h=>absurd h La
  | k :: l, h => by
    rw[List.map_cons,Bg];by_cases e:k=key
    ·rw[if_pos e,e]
    rw[if_neg e];exact M_ (by rcases oQ.1 h with h|h;exact absurd h.symm e;exact h)
theorem MT(x:Tree):Zd nodeB x=true->sortT (sortT x)=sortT x:=Tree.ind (Q:=λx=>Zd nodeB x=true->sortT (sortT x)=sortT x) (λk t ks xs ih hx=>by
  obtain⟨hn,hxs⟩:=Zg hx;rw[Lm];split
  ·rename_i h6
   subst h6;obtain⟨nd,len⟩:=Iw hn;rw[Lm,if_pos rfl,U5]
   congr 1
   unfold K5;rw[U5];refine List.map_congr_left λkey hkey=>?_;rw[Qz,M_ (f:=λkey=>(Bg ks (Jf xs) key).getD (.node 0 [] [] [])) hkey];simp only[Option.map_some,Option.getD_some];obtain⟨y,hy⟩:=ZV len (Br.1 hkey);rw[Qz,hy];simp only[Option.map_some,Option.getD_some];exact ih y (Tq hy) (hxs y (Tq hy))
  rename_i h6
  rw[Lm,if_neg h6]
  congr 1
  rw[Yg,Yg,List.map_map];refine List.map_congr_left λy hy=>?_;exact ih y hy (hxs y hy)) x
theorem TA{x:Tree}(h:Ag x=true):Ag (sortT x)=true:=by
  obtain⟨a,b⟩:=P_ x (Nl h);have c:=WT x (Nl h);unfold Ag Qq at h ⊢;rw[a,b,c];simp only[Bool.and_eq_true]at h;simp[h.1]
theorem En{x:Tree}(h:Ag x=true):Wd x=sortT x:=by rw[Wd,if_pos h]
theorem LF{x:Tree}(h:Ag x=true):Wd (sortT x)=sortT x:=by rw[En (TA h),MT x (Nl h)]
end Go.Scarf
