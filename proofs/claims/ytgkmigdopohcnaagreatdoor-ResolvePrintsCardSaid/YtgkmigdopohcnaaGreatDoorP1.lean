/- A part of the proof. -/
import Derived.Test.YtgkmigdopohcnaaGreatDoorW19
set_option linter.all false
set_option maxHeartbeats 8000000
set_option maxRecDepth 10000
namespace Go.Scarf
structure LA {α:Type} (f:α->α->Int) (P:α->Prop) (a:α):Prop where
  rng:∀b,f a b = -1\/f a b=0\/f a b=1
  anti:∀b,P b->f b a = - f a b
  eq:∀b,P b->(f a b=0↔a=b)
  tr:∀b c,P b->P c->f a b<=0->f b c<=0->f a c<=0
theorem Am(a:Int):LA Lib.compareInt (λ_=>True) a:=by
  refine⟨λb=>?_,λb _=>?_,λb _=>?_,λb c _ _=>?_⟩ <;> unfold Lib.compareInt <;> (repeat' split) <;> omega
theorem Qo:∀a:Str,LA Lib.compareBytes (λ_=>True) a:=by
  have rng:∀a b:Str,Lib.compareBytes a b = -1\/Lib.compareBytes a b=0\/Lib.compareBytes a b=1:=by
    intro a
    induction a with
    | nil=>intro b;cases b <;> simp[Lib.compareBytes]
    | cons x a ih => intro b;cases b with
      | nil=>simp[Lib.compareBytes]
      | cons y b => unfold Lib.compareBytes;repeat' split
                    ·exact .inl O
                    ·exact .inr (.inr O)
                    exact ih b
  have lt3:∀x y:UInt8,¬x<y->¬y<x->x=y:=λx y h1 h2=>by
    apply UInt8.toNat_inj.1;rw[UInt8.lt_iff_toNat_lt]at h1 h2;omega
  have ltn:∀x y:UInt8,x<y↔x.toNat<y.toNat:=λx y=>UInt8.lt_iff_toNat_lt;intro a;refine⟨rng a,λb _=>?_,λb _=>?_,λb c _ _=>?_⟩
  ·induction a generalizing b with
   | nil=>cases b <;> simp[Lib.compareBytes]
   | cons x a ih => cases b with
     | nil=>simp[Lib.compareBytes]
     | cons y b =>
       unfold Lib.compareBytes;simp only[ltn]
       repeat' split
       all_goals first|omega|exact ih b
  ·induction a generalizing b with
   | nil=>cases b <;> simp[Lib.compareBytes]
   | cons x a ih => cases b with
     | nil=>simp[Lib.compareBytes]
     | cons y b =>
       unfold Lib.compareBytes;split
       ·rename_i h;simp;intro e;subst e;rw[ltn]at h;omega
       split
       ·rename_i h;simp;intro e;subst e;rw[ltn]at h;omega
       rename_i h1 h2
       have:=lt3 x y h1 h2;subst this;rw[ih];simp
  induction a generalizing b c with
  | nil=>cases b <;> cases c <;> simp[Lib.compareBytes]
  | cons x a ih => cases b with
    | nil=>intro h;simp[Lib.compareBytes]at h
    | cons y b => cases c with
      | nil=>intro _ h;simp[Lib.compareBytes]at h
      | cons z c =>
        unfold Lib.compareBytes;simp only[ltn];intro h1 h2
        repeat' split
        ·omega
        ·exfalso
         split at h1
         ·split at h2
          ·omega
          split at h2
          ·omega
          omega
         split at h1
         ·omega
         split at h2
         ·omega
         split at h2
         ·omega
         omega
        split at h1
        ·split at h2
         ·omega
         split at h2
         ·omega
         omega
        split at h1
        ·omega
        split at h2
        ·omega
        split at h2
        ·omega
        exact ih b c h1 h2
theorem VA{α:Type}{f:α->α->Int}{P:α->Prop}:∀xs:List α,(∀x∈xs,P x/\LA f P x)->LA (Nf f) (λl=>∀x∈l,P x) xs
  | [], _ => by
    refine⟨λb=>?_,λb _=>?_,λb _=>?_,λb c _ _=>?_⟩
    ·cases b <;> simp[Nf]
    ·cases b <;> simp[Nf]
    ·cases b <;> simp[Nf]
    cases b <;> cases c <;> simp[Nf]
  | x :: xs, h => by
    have hx:=h x Ma;have ih:=VA xs (λy hy=>h y (by simp[hy]));refine⟨λb=>?_,λb hb=>?_,λb hb=>?_,λb c hb hc=>?_⟩
    ·cases b with
     | nil=>simp[Nf]
     | cons y ys =>
       unfold Nf;split
       ·exact hx.2.rng y
       exact ih.rng ys
    ·cases b with
     | nil=>simp[Nf]
     | cons y ys =>
       have hy:=hx.2.anti y (hb y Ma);have hys:=ih.anti ys (λz hz=>hb z (by simp[hz]));unfold Nf
       repeat' split
       all_goals omega
    ·cases b with
     | nil=>simp[Nf]
     | cons y ys =>
       have hy:=hx.2.eq y (hb y Ma);have hys:=ih.eq ys (λz hz=>hb z (by simp[hz]));unfold Nf;split
       ·rename_i hne
        constructor
        ·intro e;exact absurd e hne
        intro e;injection e with e1 e2;exact absurd (hy.2 e1) hne
       rename_i hne
       rw[hys];have hxy:x=y:=hy.1 Aa;simp[hxy]
    cases b with
    | nil=>intro h1;simp[Nf]at h1
    | cons y ys => cases c with
      | nil=>intro _ h2;simp[Nf]at h2
      | cons z zs =>
        intro h1 h2;have py:=hb y Ma;have pz:=hc z Ma;have a1:f x y<=0:=by
          unfold Nf at h1;split at h1
          ·exact h1
          omega
        have a2:f y z<=0:=by
          unfold Nf at h2;split at h2
          ·exact h2
          omega
        have a3:=hx.2.tr y z py pz a1 a2;unfold Nf;split
        ·exact a3
        rename_i h0
        have exz:x=z:=(hx.2.eq z pz).1 Aa;subst exz;have ha:=hx.2.anti y py;have e0:f x y=0:=by omega
        have exy:=(hx.2.eq y py).1 e0;subst exy;have t1:Nf f xs ys<=0:=by
          unfold Nf at h1;rw[if_neg Aa]at h1;exact h1
        have t2:Nf f ys zs<=0:=by
          unfold Nf at h2;rw[if_neg Aa]at h2;exact h2
        exact ih.tr ys zs (λw hw=>hb w (by simp[hw])) (λw hw=>hc w (by simp[hw])) t1 t2
theorem Ss{x:Num}(h:Rc x=true)(hd:x.digits=[]):x=Num.zero:=by
  unfold Rc at h;simp only[Bool.or_eq_true,Bool.and_eq_true,decide_eq_true_eq]at h;rcases h with h|h
  ·exact h
  exact absurd hd (Sg h.1.1.1.1.1)
theorem Dn{x y:Num}(hx:Rc x=true)(hy:Rc y=true):Bs x y=if Zd x=Zd y then (if Zd x=0 then 0 else Zd x*Do x y) else Lib.compareInt (Zd x) (Zd y):=by
  have e:=(Am (Zd x)).eq (Zd y) trivial;unfold Bs;rw[hx,hy];simp only[Bool.true_eq_false,if_false];by_cases h:Zd x=Zd y
  ·rw[if_neg (λhh=>hh (e.2 h)),if_pos h]
  rw[if_pos (λhh=>h (e.1 hh)),if_neg h]
theorem X6(x y:Num):Do x y=if Lib.compareInt (x.digits.length+x.exp) (y.digits.length+y.exp)≠0 then Lib.compareInt (x.digits.length+x.exp) (y.digits.length+y.exp) else Lib.compareBytes x.digits y.digits:=by
  unfold Do LB;split
  ·rfl
  unfold LB;split
  ·rfl
  rename_i h;unfold LB;omega
theorem far_rng(x y:Num):Do x y = -1\/Do x y=0\/Do x y=1:=by
  rw[X6];split
  ·exact (Am _).rng _
  exact (Qo _).rng _
theorem Xz(x y:Num):Do y x = - Do x y:=by
  rw[X6,X6];have h1:=(Am (x.digits.length+x.exp)).anti (y.digits.length+y.exp) trivial;have h2:=(Qo x.digits).anti y.digits trivial
  repeat' split
  all_goals omega
theorem LE(x y:Num):Do x y=0↔(x.digits=y.digits/\x.exp=y.exp):=by
  rw[X6];have h1:=(Am (x.digits.length+x.exp)).eq (y.digits.length+y.exp) trivial;have h2:=(Qo x.digits).eq y.digits trivial;split
  ·rename_i h
   constructor
   ·intro e;exact absurd e h
   rintro⟨e1,e2⟩;exact absurd (h1.2 (by rw[e1,e2])) h
  rename_i h
  rw[h2];constructor
  ·intro e
   have:=h1.1 Aa;rw[e]at this;exact⟨e,by omega⟩
  exact λe=>e.1
theorem XY(x y z:Num)(h1:Do x y<=0)(h2:Do y z<=0):Do x z<=0:=by
  have a:=(Am (x.digits.length+x.exp)).tr (y.digits.length+y.exp) (z.digits.length+z.exp) trivial trivial;have e1:=(Am (x.digits.length+x.exp)).eq (z.digits.length+z.exp) trivial;have e2:=(Am (x.digits.length+x.exp)).eq (y.digits.length+y.exp) trivial;have e3:=(Am (y.digits.length+y.exp)).eq (z.digits.length+z.exp) trivial;have an:=(Am (x.digits.length+x.exp)).anti (y.digits.length+y.exp) trivial;have b:=(Qo x.digits).tr y.digits z.digits trivial trivial;rw[X6]at h1 h2 ⊢;have c1:Lib.compareInt (x.digits.length+x.exp) (y.digits.length+y.exp)<=0:=by split at h1 <;> omega
  have c2:Lib.compareInt (y.digits.length+y.exp) (z.digits.length+z.exp)<=0:=by split at h2 <;> omega
  split
  ·exact a c1 c2
  rename_i h0
  have exz:=e1.1 Aa;rw[exz]at an;have c3:Lib.compareInt (x.digits.length+x.exp) (y.digits.length+y.exp)=0:=by rw[<-exz]at an;rw[exz]at an;rw[<-exz]at c2;rw[exz]at c2;rw[exz]at c1 ⊢;omega
  have exy:=e2.1 c3;rw[if_neg Aa]at h1;rw[if_neg (λhh=>hh (e3.2 Aa))]at h2;exact b h1 h2
theorem QG(x:Num):Zd x = -1\/Zd x=0\/Zd x=1:=by
  unfold Zd
  repeat' split
  all_goals simp
theorem la_num(x:Num)(hx:Rc x=true):LA Bs (λy=>Rc y=true) x:=by
  refine⟨λy=>?_,λy hy=>?_,λy hy=>?_,λy z hy hz h1 h2=>?_⟩
  ·unfold Bs
   repeat' split
   all_goals first|simp;done|exact (Am _).rng _|skip
   rcases QG x with h|h|h <;> rcases far_rng x y with g|g|g <;> rw[h,g] <;> simp
  ·rw[Dn hx hy, Dn hy hx]
   have h1:=(Am (Zd x)).anti (Zd y) trivial;have h2:=Xz x y;by_cases e:Zd x=Zd y
   ·rw[if_pos e, if_pos e.symm, <- e, h2]
    split
    ·rfl
    rw[Int.mul_neg]
   rw[if_neg e,if_neg (λh=>e h.symm),h1]
  ·rw[Dn hx hy]
   constructor
   ·intro h
    split at h
    ·rename_i e
     split at h
     ·rename_i e0
      have d1:x.digits=[]:=by
        unfold Zd at e0;split at e0
        ·assumption
        split at e0 <;> omega
      have d2:y.digits=[]:=by
        rw[e0]at e;unfold Zd at e;split at e
        ·assumption
        split at e <;> omega
      rw[Ss hx d1,Ss hy d2]
     rename_i e0
     have hf:Do x y=0:=by
       rcases Int.mul_eq_zero.1 h with h|h
       ·exact absurd h e0
       exact h
     obtain⟨a1,a2⟩:=(LE x y).1 hf;have a3:x.neg=y.neg:=by
       have hd:x.digits≠[]:=λhd=>e0 (by unfold Zd;rw[if_pos hd]);unfold Zd at e;have hd2:y.digits≠[]:=a1▸hd;rw[if_neg hd,if_neg hd2]at e
       revert e
       cases x.neg <;> cases y.neg <;> simp
     cases x;cases y;simp_all
    rename_i e
    exact absurd ((Am _).eq _ trivial |>.1 h) e
   rintro rfl;rw[if_pos rfl];split
   ·rfl
   rw[(LE x x).2 ⟨rfl,rfl⟩,Int.mul_zero]
  rw[Dn hx hy]at h1;rw[Dn hy hz]at h2;rw[Dn hx hz];have s1:Zd x<=Zd y:=by
    split at h1
    ·omega
    unfold Lib.compareInt at h1;split at h1
    ·omega
    split at h1 <;> omega
  have s2:Zd y<=Zd z:=by
    split at h2
    ·omega
    unfold Lib.compareInt at h2;split at h2
    ·omega
    split at h2 <;> omega
  split
  ·rename_i e
   have exy:Zd x=Zd y:=by omega
   have eyz:Zd y=Zd z:=by omega
   rw[if_pos exy]at h1;rw[if_pos eyz]at h2;rw[<-exy]at h2;split
   ·omega
   rename_i e0
   rw[if_neg e0]at h1 h2;rcases QG x with h|h|h
   ·rw[h]at h1 h2 ⊢
    have:=XY z y x (by rw[Xz y z];omega) (by rw[Xz x y];omega);rw[Xz x z]at this;omega
   ·exact absurd h e0
   rw[h]at h1 h2 ⊢;have:=XY x y z Aa Aa;omega
  unfold Lib.compareInt;rw[if_pos Aa];omega
theorem node3{t:Str}{ks:List Str}{xs:List Tree}(h:nodeB (.node 3 t ks xs)=true):ks=[]/\xs=[]/\Xf t=true:=by
  simp only[nodeB]at h;simp at h;obtain⟨h1,h2⟩:=h;exact⟨h1.1,h1.2,h2⟩
theorem dec_inj{t t':Str}(h:Xf t=true)(h':Xf t'=true)(e:(Fc t).1=(Fc t').1):t=t':=by
  unfold Xf at h h';simp only[Bool.and_eq_true,decide_eq_true_eq]at h h';rw[<-h.2,<-h'.2,e]
theorem Br(k:Int)(t:Str)(ks:List Str)(xs:List Tree)(k':Int)(t':Str)(ks':List Str)(ys:List Tree):Ji (.node k t ks xs) (.node k' t' ks' ys) =
    if k=k' then (if k=3 then Bs (Fc t).1 (Fc t').1 else if Lib.compareBytes t t'≠0 then Lib.compareBytes t t' else if Nf Lib.compareBytes ks ks'≠0 then Nf Lib.compareBytes ks ks' else Nf Ji xs ys) else Lib.compareInt k k':=by
  have e:=(Am k).eq k' trivial;rw[Ji,<-Xh];by_cases h:k=k'
  ·subst h
   rw[if_pos rfl];by_cases h3:k=3
   ·rw[if_pos ⟨h3,h3⟩,if_pos h3]
   rw[if_neg (λhh => h3 hh.1), if_neg h3];have e0:Lib.compareInt k k=0:=e.2 rfl;simp only[LB,e0];by_cases h1:Lib.compareBytes t t'=0
   ·by_cases h2 : Nf Lib.compareBytes ks ks' = 0
    ·simp[h1,h2]
    simp[h1,h2]
   simp[h1]
  rw[if_neg h, if_neg Aa];have e0:Lib.compareInt k k'≠0:=λhh=>h (e.1 hh);simp only[LB];simp[e0]
theorem GP(x:Tree):Xc nodeB x=true->LA Ji (λy=>Xc nodeB y=true) x:=Tree.ind (Q:=λx=>Xc nodeB x=true->LA Ji (λy=>Xc nodeB y=true) x) (λk t ks xs ih hx=>by
  obtain⟨hn,hxs⟩:=Ee hx;have li:=VA xs (λy hy=>⟨hxs y hy,ih y hy (hxs y hy)⟩);have lk:=VA ks (λy _=>(⟨trivial,Qo y⟩:True/\_));have lt:=Qo t;have lm:=la_num (Fc t).1 (Jk t);have lz:=Am k;refine⟨λy=>?_,λy hy=>?_,λy hy=>?_,λy z hy hz h1 h2=>?_⟩
  ·obtain⟨k', t', ks', ys⟩ := y
   rw[Br]
   repeat' split
   ·exact lm.rng _
   ·exact lt.rng _
   ·exact lk.rng _
   ·exact li.rng _
   exact lz.rng _
  ·obtain⟨k', t', ks', ys⟩ := y
   obtain⟨hn',hys⟩:=Ee hy;rw[Br,Br];have a1:=lm.anti (Fc t').1 (Jk t');have a2:=lt.anti t' trivial;have a3:=lk.anti ks' (λ_ _=>trivial);have a4:=li.anti ys hys;have a5:=lz.anti k' trivial;by_cases h:k=k'
   ·subst h
    rw[if_pos rfl,if_pos rfl];by_cases h3:k=3
    ·rw[if_pos h3,if_pos h3,a1]
    rw[if_neg h3, if_neg h3]
    repeat' split
    all_goals omega
   rw[if_neg h,if_neg (λe=>h e.symm),a5]
  ·obtain⟨k', t', ks', ys⟩ := y
   obtain⟨hn',hys⟩:=Ee hy;rw[Br];have a1:=lm.eq (Fc t').1 (Jk t');have a2:=lt.eq t' trivial;have a3:=lk.eq ks' (λ_ _=>trivial);have a4:=li.eq ys hys;have a5:=lz.eq k' trivial;by_cases h:k=k'
   ·subst h
    rw[if_pos rfl];by_cases h3:k=3
    ·subst h3
     rw[if_pos rfl,a1];obtain⟨rfl,rfl,d1⟩:=node3 hn;obtain⟨rfl,rfl,d2⟩:=node3 hn';constructor
     ·intro e;rw[dec_inj d1 d2 e]
     intro e;injection e with _ e;rw[e]
    rw[if_neg h3];split
    ·rename_i hne
     constructor
     ·intro e;exact absurd e hne
     intro e;injection e with _ e;exact absurd (a2.2 e) hne
    rename_i ht
    have et:=a2.1 Aa;split
    ·rename_i hne
     constructor
     ·intro e;exact absurd e hne
     intro e;injection e with _ _ e;exact absurd (a3.2 e) hne
    rename_i hk
    have ek:=a3.1 Aa;rw[a4,et,ek];simp
   rw[if_neg h, a5];constructor
   ·intro e;exact absurd e h
   intro e;injection e with e;
  obtain⟨k', t', ks', ys⟩ := y;obtain⟨k2,t2,ks2,zs⟩:=z;obtain⟨hn',hys⟩:=Ee hy;obtain⟨hn2,hzs⟩:=Ee hz;rw[Br]at h1 h2 ⊢;have s1:k<=k':=by
    split at h1
    ·omega
    unfold Lib.compareInt at h1;split at h1
    ·omega
    split at h1 <;> omega
  have s2:k'<=k2:=by
    split at h2
    ·omega
    unfold Lib.compareInt at h2;split at h2
    ·omega
    split at h2 <;> omega
  split
  ·rename_i e
   subst e;have e1:k=k':=by omega
   subst e1;rw[if_pos rfl]at h1 h2;by_cases h3:k=3
   ·rw[if_pos h3]at h1 h2 ⊢
    exact lm.tr _ _ (Jk t') (Jk t2) h1 h2
   rw[if_neg h3]at h1 h2 ⊢;have b1:Lib.compareBytes t t'<=0:=by split at h1 <;> omega
   have b2:Lib.compareBytes t' t2<=0:=by split at h2 <;> omega
   split
   ·exact lt.tr t' t2 trivial trivial b1 b2
   rename_i h0
   have et:=(lt.eq t2 trivial).1 Aa;subst et;have an:=lt.anti t' trivial;have c0:Lib.compareBytes t t'=0:=by omega
   have et:=(lt.eq t' trivial).1 c0;subst et;rw[if_neg Aa]at h1 h2;have b3:Nf Lib.compareBytes ks ks'<=0:=by split at h1 <;> omega
   have b4:Nf Lib.compareBytes ks' ks2<=0:=by split at h2 <;> omega
   split
   ·exact lk.tr ks' ks2 (λ_ _=>trivial) (λ_ _=>trivial) b3 b4
   rename_i h0
   have ek:=(lk.eq ks2 (λ_ _=>trivial)).1 Aa;subst ek;have an:=lk.anti ks' (λ_ _=>trivial);have c0:Nf Lib.compareBytes ks ks'=0:=by omega
   have ek:=(lk.eq ks' (λ_ _=>trivial)).1 c0;subst ek;rw[if_neg Aa]at h1 h2;exact li.tr ys zs hys hzs h1 h2
  unfold Lib.compareInt;rw[if_pos Aa];omega) x
theorem N1{ks:List Str}{xs:List Tree}(hn:ks.Nodup):∀{i:Nat}(h:i<ks.length)(h2:i<xs.length),Mf ks xs ks[i]=some xs[i]:=by
  induction ks generalizing xs with
  | nil=>intro i h;cases h
  | cons k ks ih =>
    intro i h h2;cases xs with
    | nil=>cases h2
    | cons x xs =>
      cases i with
      | zero=>simp[Mf]
      | succ i =>
        have hne:k≠ks[i]'(by simpa using h):=λe=>(List.nodup_cons.1 hn).1 (e▸eQ _);simp only[Mf,List.getElem_cons_succ];rw[if_neg hne];exact ih (List.nodup_cons.1 hn).2 (by simpa using h) (by simpa using h2)
theorem ZU{ks:List Str}{xs:List Tree}(hl:ks.length=xs.length){key:Str}(h:key∈ks):∃y,Mf ks xs key=some y:=by
  induction ks generalizing xs with
  | nil=>cases h
  | cons k ks ih =>
    cases xs with
    | nil=>cases hl
    | cons x xs =>
      rw[Mf];by_cases e:k=key
      ·exact⟨x,if_pos e⟩
      rw[if_neg e];exact ih (by simpa using hl) (by rcases oQ.1 h with h|h;exact absurd h.symm e;exact h)
theorem L9{ks:List Str}{xs:List Tree}{key:Str}{y:Tree}(h:Mf ks xs key=some y):key∈ks:=by
  induction ks generalizing xs with
  | nil=>cases xs <;> cases h
  | cons k ks ih =>
    cases xs with
    | nil=>cases h
    | cons x xs =>
      rw[Mf]at h;by_cases e:k=key
      ·simp[e]
      rw[if_neg e]at h;simp[ih h]
theorem Lo{ks:List Str}{xs:List Tree}(key:Str):Mf ks (If xs) key=(Mf ks xs key).map sortT:=by
  cases h:Mf ks xs key with
  | some y=>exact Tx h
  | none =>
    induction ks generalizing xs with
    | nil=>cases xs <;> rfl
    | cons k ks ih =>
      cases xs with
      | nil=>rfl
      | cons x xs =>
        rw[Mf]at h;rw[If,Mf];by_cases e:k=key
        ·rw[if_pos e]at h;cases h
        rw[if_neg e]at h ⊢;exact ih h
theorem JI{ks ks':List Str}(h1:ks.Nodup)(hl:ks.length=ks'.length)(hs:∀k∈ks,k∈ks'):ks.Perm ks':=by
  induction ks generalizing ks' with
  | nil =>
    have:ks'=[]:=List.eq_nil_of_length_eq_zero (by simpa using hl.symm);subst this;exact .refl _
  | cons k ks ih =>
    have hk:=hs k Ma;have hp:=List.perm_cons_erase hk;refine List.Perm.trans (List.Perm.cons k (ih (List.nodup_cons.1 h1).2 ?_ ?_)) hp.symm
    ·rw[List.length_erase_of_mem hk,<-hl];simp
    intro x hx;have hne:x≠k:=λe=>(List.nodup_cons.1 h1).1 (e▸hx);exact (List.mem_erase_of_ne hne).2 (hs x (by simp[hx]))
theorem K_{xs ys:List Tree}(h:∀x∈xs,∀y,Xc nodeB y=true->(Cm x y=true↔sortT x=sortT y))(hl:xs.length=ys.length)(hy:∀y∈ys,Xc nodeB y=true):Q2 xs ys=true↔If xs=If ys:=by
  induction xs generalizing ys with
  | nil => cases ys with
    | nil=>simp[Q2]
    | cons y ys=>cases hl
  | cons x xs ih => cases ys with
    | nil=>cases hl
    | cons y ys =>
      rw[Q2,Bool.and_eq_true,h x Ma y (hy y Ma),ih (λx hx=>h x (by simp[hx])) (by simpa using hl) (λy hy'=>hy y (by simp[hy'])),If,If,List.cons.injEq]
theorem R7(xs:List Tree)(ks ks':List Str)(ys:List Tree)(hl:ks.length=xs.length):VE xs ks ks' ys=true↔∀i (h:i<ks.length),∃y,Mf ks' ys ks[i]=some y/\Cm (xs[i]' Aa) y=true:=by
  induction xs generalizing ks with
  | nil =>
    have:ks=[]:=List.eq_nil_of_length_eq_zero (by simpa using hl);subst this;simp[VE]
  | cons x xs ih => cases ks with
    | nil=>cases hl
    | cons k ks =>
      rw[VE,Bool.and_eq_true,ih ks (by simpa using hl)];constructor
      ·rintro⟨h1, h2⟩ i hi
       cases i with
       | zero =>
         cases hk:Mf ks' ys k with
         | none=>rw[hk]at h1;cases h1
         | some y=>rw[hk]at h1;exact⟨y,hk,h1⟩
       | succ i=>exact h2 i (by simpa using hi)
      intro h;refine⟨?_,λi hi=>h (i+1) (by simpa using hi)⟩;obtain⟨y,h1,h2⟩:=h 0 Ma;simp only[List.getElem_cons_zero]at h1 h2;rw[h1];exact h2
theorem VW(x:Tree):Xc nodeB x=true->∀y,Xc nodeB y=true->(Cm x y=true↔sortT x=sortT y):=Tree.ind (Q:=λx=>Xc nodeB x=true->∀y,Xc nodeB y=true->(Cm x y=true↔sortT x=sortT y)) (λk t ks xs ih hx y hy=>by
  obtain⟨k',t',ks',ys⟩:=y;obtain⟨hn,hxs⟩:=Ee hx;obtain⟨hn',hys⟩:=Ee hy;have ih':∀x∈xs,∀y,Xc nodeB y=true->(Cm x y=true↔sortT x=sortT y):=λx hx'=>ih x hx' (hxs x hx');rw[Cm,Bool.and_eq_true,Bool.and_eq_true,Bool.and_eq_true,decide_eq_true_eq,decide_eq_true_eq,decide_eq_true_eq,sortT,sortT];by_cases h:k=k'
  ·subst h
   by_cases h6:k=6
   ·subst h6
    obtain⟨nd,len⟩:=Gr hn;obtain⟨nd',len'⟩:=Gr hn';rw[if_neg Ma,if_pos rfl,if_pos rfl,Bool.and_eq_true,decide_eq_true_eq,R7 xs ks ks' ys len];constructor
    ·rintro⟨⟨⟨-, e1⟩, e2⟩, e3, hall⟩
     have hp:ks.Perm ks':=JI nd e3 (λk hk=>by
       obtain⟨i,hi,rfl⟩:=List.getElem_of_mem hk;obtain⟨y,h1,-⟩:=hall i hi;exact L9 h1)
     have hs:Ok ks=Ok ks':=by unfold Ok;exact mergeSort_of_perm hp
     rw[e1,<-hs]
     congr 1
     refine List.map_congr_left λkey hkey=>?_;have hin:=Xm.1 hkey;obtain⟨i,hi,rfl⟩:=List.getElem_of_mem hin;obtain⟨y,h1,h2⟩:=hall i hi;rw[Lo,Lo,h1,N1 nd hi Aa];simp only[Option.map_some,Option.getD_some];exact (ih' _ (eQ _) y (hys y (Ur h1))).1 h2
    intro e;injection e with _ e1 e2 e3
    have hl:ks.length=ks'.length:=by have:=congrArg List.length e2;rwa [Xi,Xi]at this
    refine⟨⟨⟨O,e1⟩,by omega⟩,hl,λi hi=>?_⟩;have hin:ks[i]∈Ok ks:=Xm.2 (eQ _);have hin':ks[i]∈ks':=Xm.1 (e2▸hin);obtain⟨y,h1⟩:=ZU len' hin';refine⟨y,h1,(ih' _ (eQ _) y (hys y (Ur h1))).2 ?_⟩;rw[<-e2]at e3;have:=List.map_inj_left.1 e3 ks[i] hin;rw[Lo,Lo,h1,N1 nd hi Aa]at this;simpa using this
   rw[if_pos h6, if_neg h6, if_neg h6];constructor
   ·rintro⟨⟨⟨-, e1⟩, e2⟩, e3⟩
    rw[e1,(K_ ih' e2 hys).1 e3]
   intro e;injection e with _ e1 _ e3
   have hl:xs.length=ys.length:=by have:=congrArg List.length e3;rwa [Rg,Rg,rQ,rQ]at this
   exact⟨⟨⟨O,e1⟩,hl⟩,(K_ ih' hl hys).2 e3⟩
  constructor
  ·rintro⟨⟨⟨e,-⟩,-⟩,-⟩;exact absurd e h
  intro e;exfalso;split at e <;> split at e <;> injection e with e <;> exact h e) x
theorem CK{ks ks':List Str}{n:Int}(h:ks.Perm ks'):Sl ks n=Sl ks' n:=by
  unfold Sl;rw[h.length_eq,decide_eq_decide.2 h.nodup_iff]
  congr 2
  rw[Bool.eq_iff_iff,List.all_eq_true,List.all_eq_true];exact⟨λhh k hk=>hh k (h.mem_iff.2 hk),λhh k hk=>hh k (h.mem_iff.1 hk)⟩
theorem B5{q:Tree->Bool}:∀{xs:List Tree},(∀x∈xs,Xc q x=true)->Yq q xs=true
  | [],_=>rfl
  | x::xs,h=>by rw[Yq,h x Ma,B5 (λy hy=>h y (by simp[hy]))];rfl
theorem JB{ks:List Str}{xs:List Tree}(hn:ks.Nodup)(hl:ks.length=xs.length):(G8 ks xs).Perm (If xs):=by
  have h1:(G8 ks xs).Perm (ks.map λkey=>(Mf ks (If xs) key).getD (.node 0 [] [] [])):=(Cs ks).map _;refine h1.trans ?_;have h2:(ks.map λkey=>(Mf ks (If xs) key).getD (.node 0 [] [] []))=If xs:=by
    apply List.ext_getElem
    ·rw[rQ,Rg,rQ,hl]
    intro i h1 h2;rw[List.getElem_map,N1 hn (by simpa using h1) h2];rfl
  rw[h2]
theorem X1{k:Int}{t:Str}{ks:List Str}{xs:List Tree}:sortT (.node k t ks xs)=if k=6 then .node k t (Ok ks) (G8 ks xs) else .node k t [] (If xs):=by rw[sortT];rfl
theorem F9(x:Tree):Xc nodeB x=true->Xc nodeB (sortT x)=true:=Tree.ind (Q:=λx=>Xc nodeB x=true->Xc nodeB (sortT x)=true) (λk t ks xs ih hx=>by
  obtain⟨hn,hxs⟩:=Ee hx;have hs:∀y∈If xs,Xc nodeB y=true:=by
    intro y hy;rw[Rg]at hy;obtain⟨z,hz,rfl⟩:=nQ.1 hy;exact ih z hz (hxs z hz)
  rw[X1];split
  ·rename_i h6
   subst h6;obtain⟨nd,len⟩:=Gr hn;have hp:=JB nd len;rw[Xc,Bool.and_eq_true];refine⟨?_,B5 λy hy=>hs y (hp.mem_iff.1 hy)⟩;simp only[nodeB]at hn ⊢;rw[if_pos trivial]at hn ⊢;rw[CK (Cs ks),hp.length_eq,Rg,rQ];exact hn
  rename_i h6
  rw[Xc,Bool.and_eq_true];refine⟨?_,B5 hs⟩;simp only[nodeB]at hn ⊢;by_cases h5:k=5
  ·rw[if_pos h5]at hn ⊢
   simp at hn ⊢;exact hn.2
  rw[if_neg h5, if_neg h6]at hn ⊢;by_cases hc:ks≠[]\/xs≠[]
  ·rw[if_pos hc]at hn;cases hn
  have hk : ks = [] := Classical.byContradiction λh => hc (.inl h);have hx0:xs=[]:=Classical.byContradiction λh=>hc (.inr h);subst hk hx0;simpa[If]using hn) x
theorem Gw{x:Tree}(h:Kd x=true):Xc nodeB (sortT x)=true:=F9 x (Yi h)
theorem Pq(x y:Tree):Id y x = - Id x y:=by
  unfold Id;cases hx:Kd x <;> cases hy:Kd y <;> simp;exact (GP _ (Gw hx)).anti _ (Gw hy)
theorem Po{x y:Tree}(hx:Kd x=true)(hy:Kd y=true):Ow x y=true↔sortT x=sortT y:=by
  unfold Ow;rw[hx,hy];exact VW x (Yi hx) y (Yi hy)
theorem Yw{x y:Tree}(hx:Kd x=true)(hy:Kd y=true):decide (Id x y=0)=Ow x y:=by
  rw[Bool.eq_iff_iff,decide_eq_true_eq,Po hx hy,Id,if_pos hx,if_pos hy];exact (GP _ (Gw hx)).eq _ (Gw hy)
theorem By:∀xs:List Tree,Dc xs=(xs.map Qb).sum
  | []=>rfl
  | x::xs=>by rw[Dc,By xs];rfl
theorem PH{xs ys:List Tree}(h:xs.Perm ys):Dc xs=Dc ys:=by
  rw[By,By];exact (h.map _).sum_nat
theorem EB{xs ys:List Tree}(h:xs.Perm ys):Jd xs=Jd ys:=by
  induction h with
  | nil=>rfl
  | cons x _ ih=>rw[Jd,Jd,ih]
  | swap x y l=>simp only[Jd];omega
  | trans _ _ h1 h2=>rw[h1,h2]
theorem C9(x:Tree):Xc nodeB x=true->Qb (sortT x)=Qb x/\Cd (sortT x)=Cd x:=Tree.ind (Q:=λx=>Xc nodeB x=true->Qb (sortT x)=Qb x/\Cd (sortT x)=Cd x) (λk t ks xs ih hx=>by
  obtain⟨hn,hxs⟩:=Ee hx;have h1:∀ys:List Tree,(∀y∈ys,y∈xs)->Dc (If ys)=Dc ys/\Jd (If ys)=Jd ys:=by
    intro ys
    induction ys with
    | nil=>intro _;exact⟨rfl,rfl⟩
    | cons y ys ihy =>
      intro hm;obtain⟨a,b⟩:=ih y (hm y Ma) (hxs y (hm y Ma));obtain⟨c,d⟩:=ihy (λz hz=>hm z (by simp[hz]));simp only[If,Dc,Jd,a,b,c,d];exact⟨trivial,trivial⟩
  obtain⟨a,b⟩:=h1 xs (λ_ h=>h);rw[X1];split
  ·rename_i h6
   subst h6;obtain⟨nd,len⟩:=Gr hn;have hp:=JB nd len;simp only[Qb,Cd,PH hp,EB hp,a,b];exact⟨trivial,trivial⟩
  simp only[Qb, Cd, a, b];exact⟨trivial,trivial⟩) x
theorem VS{x:Tree}(h:Kd x=true):Kd (sortT x)=true:=by
  obtain⟨a,b⟩:=C9 x (Yi h);have c:=F9 x (Yi h);unfold Kd Im at h ⊢;rw[a,b,c];simp only[Bool.and_eq_true]at h;simp[h.1]
theorem Ak{x:Tree}(h:Kd x=true):Od x=sortT x:=by rw[Od,if_pos h]
end Go.Scarf
