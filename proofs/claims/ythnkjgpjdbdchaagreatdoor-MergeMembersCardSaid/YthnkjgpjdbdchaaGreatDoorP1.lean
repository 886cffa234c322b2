/- A part of the proof. -/
import Derived.Test.YthnkjgpjdbdchaaGreatDoorBd
set_option linter.all false
set_option maxHeartbeats 8000000
set_option maxRecDepth 10000
namespace Go.Scarf
structure LA {α:Type} (f:α->α->Int) (P:α->Prop) (a:α):Prop where
  rng:∀b,f a b = -1\/f a b=0\/f a b=1
  anti:∀b,P b->f b a = - f a b
  eq:∀b,P b->(f a b=0↔a=b)
  tr:∀b c,P b->P c->f a b<=0->f b c<=0->f a c<=0
theorem Y4{ks:List Str}{xs:List Tree}(hn:ks.Nodup):∀{i:Nat}(h:i<ks.length)(h2:i<xs.length),Jd ks xs ks[i]=some xs[i]:=by
  induction ks generalizing xs with
  | nil=>intro i h;cases h
  | cons k ks ih =>
    intro i h h2;cases xs with
    | nil=>cases h2
    | cons x xs =>
      cases i with
      | zero=>simp[Jd]
      | succ i =>
        have hne:k≠ks[i]'(by simpa using h):=λe=>(List.nodup_cons.1 hn).1 (e▸eQ _);simp only[Jd,List.getElem_cons_succ];rw[if_neg hne];exact ih (List.nodup_cons.1 hn).2 (by simpa using h) (by simpa using h2)
theorem R3{ks:List Str}{xs:List Tree}(hl:ks.length=xs.length){key:Str}(h:key∈ks):∃y,Jd ks xs key=some y:=by
  induction ks generalizing xs with
  | nil=>cases h
  | cons k ks ih =>
    cases xs with
    | nil=>cases hl
    | cons x xs =>
      rw[Jd];by_cases e:k=key
      ·exact⟨x,if_pos e⟩
      rw[if_neg e];exact ih (by simpa using hl) (by rcases oQ.1 h with h|h;exact absurd h.symm e;exact h)
theorem Uy{ks:List Str}{xs:List Tree}{key:Str}{y:Tree}(h:Jd ks xs key=some y):key∈ks:=by
  induction ks generalizing xs with
  | nil=>cases xs <;> cases h
  | cons k ks ih =>
    cases xs with
    | nil=>cases h
    | cons x xs =>
      rw[Jd]at h;by_cases e:k=key
      ·simp[e]
      rw[if_neg e]at h;simp[ih h]
theorem Ho{ks:List Str}{xs:List Tree}(key:Str):Jd ks (Kg xs) key=(Jd ks xs key).map sortT:=by
  cases h:Jd ks xs key with
  | some y=>exact K0 h
  | none =>
    induction ks generalizing xs with
    | nil=>cases xs <;> rfl
    | cons k ks ih =>
      cases xs with
      | nil=>rfl
      | cons x xs =>
        rw[Jd]at h;rw[Kg,Jd];by_cases e:k=key
        ·rw[if_pos e]at h;cases h
        rw[if_neg e]at h ⊢;exact ih h
theorem HJ{ks ks':List Str}(h1:ks.Nodup)(hl:ks.length=ks'.length)(hs:∀k∈ks,k∈ks'):ks.Perm ks':=by
  induction ks generalizing ks' with
  | nil =>
    have:ks'=[]:=List.eq_nil_of_length_eq_zero (by simpa using hl.symm);subst this;exact .refl _
  | cons k ks ih =>
    have hk:=hs k Da;have hp:=List.perm_cons_erase hk;refine List.Perm.trans (List.Perm.cons k (ih (List.nodup_cons.1 h1).2 ?_ ?_)) hp.symm
    ·rw[List.length_erase_of_mem hk,<-hl];simp
    intro x hx;have hne:x≠k:=λe=>(List.nodup_cons.1 h1).1 (e▸hx);exact (List.mem_erase_of_ne hne).2 (hs x (by simp[hx]))
theorem DD{xs ys:List Tree}(h:∀x∈xs,∀y,Pd nodeB y=true->(Gf x y=true↔sortT x=sortT y))(hl:xs.length=ys.length)(hy:∀y∈ys,Pd nodeB y=true):D2 xs ys=true↔Kg xs=Kg ys:=by
  induction xs generalizing ys with
  | nil => cases ys with
    | nil=>simp[D2]
    | cons y ys=>cases hl
  | cons x xs ih => cases ys with
    | nil=>cases hl
    | cons y ys =>
      rw[D2,Bool.and_eq_true,h x Da y (hy y Da),ih (λx hx=>h x (by simp[hx])) (by simpa using hl) (λy hy'=>hy y (by simp[hy'])),Kg,Kg,List.cons.injEq]
theorem GP(xs:List Tree)(ks ks':List Str)(ys:List Tree)(hl:ks.length=xs.length):I1 xs ks ks' ys=true↔∀i (h:i<ks.length),∃y,Jd ks' ys ks[i]=some y/\Gf (xs[i]'by_Om) y=true:=by
  induction xs generalizing ks with
  | nil =>
    have:ks=[]:=List.eq_nil_of_length_eq_zero (by simpa using hl);subst this;simp[I1]
  | cons x xs ih => cases ks with
    | nil=>cases hl
    | cons k ks =>
      rw[I1,Bool.and_eq_true,ih ks (by simpa using hl)];constructor
      ·rintro⟨h1, h2⟩ i hi
       cases i with
       | zero =>
         cases hk:Jd ks' ys k with
         | none=>rw[hk]at h1;cases h1
         | some y=>rw[hk]at h1;exact⟨y,hk,h1⟩
       | succ i=>exact h2 i (by simpa using hi)
      intro h;refine⟨?_,λi hi=>h (i+1) (by simpa using hi)⟩;obtain⟨y,h1,h2⟩:=h 0 Da;simp only[List.getElem_cons_zero]at h1 h2;rw[h1];exact h2
theorem GK(x:Tree):Pd nodeB x=true->∀y,Pd nodeB y=true->(Gf x y=true↔sortT x=sortT y):=Tree.ind (Q:=λx=>Pd nodeB x=true->∀y,Pd nodeB y=true->(Gf x y=true↔sortT x=sortT y)) (λk t ks xs ih hx y hy=>by
  obtain⟨k',t',ks',ys⟩:=y;obtain⟨hn,hxs⟩:=De hx;obtain⟨hn',hys⟩:=De hy;have ih':∀x∈xs,∀y,Pd nodeB y=true->(Gf x y=true↔sortT x=sortT y):=λx hx'=>ih x hx' (hxs x hx');rw[Gf,Bool.and_eq_true,Bool.and_eq_true,Bool.and_eq_true,decide_eq_true_eq,decide_eq_true_eq,decide_eq_true_eq,sortT,sortT];by_cases h:k=k'
  ·subst h
   by_cases h6:k=6
   ·subst h6
    obtain⟨nd,len⟩:=Lo hn;obtain⟨nd',len'⟩:=Lo hn';rw[if_neg Da,if_pos rfl,if_pos rfl,Bool.and_eq_true,decide_eq_true_eq,GP xs ks ks' ys len];constructor
    ·rintro⟨⟨⟨-, e1⟩, e2⟩, e3, hall⟩
     have hp:ks.Perm ks':=HJ nd e3 (λk hk=>by
       obtain⟨i,hi,rfl⟩:=List.getElem_of_mem hk;obtain⟨y,h1,-⟩:=hall i hi;exact Uy h1)
     have hs:Yj ks=Yj ks':=by unfold Yj;exact mergeSort_of_perm hp
     rw[e1,<-hs]
     congr 1
     refine List.map_congr_left λkey hkey=>?_;have hin:=Lr.1 hkey;obtain⟨i,hi,rfl⟩:=List.getElem_of_mem hin;obtain⟨y,h1,h2⟩:=hall i hi;rw[Ho,Ho,h1,Y4 nd hi tX];simp only[Option.map_some,Option.getD_some];exact (ih' _ (eQ _) y (hys y (Sn h1))).1 h2
    intro e;injection e with _ e1 e2 e3
    have hl:ks.length=ks'.length:=by have:=congrArg List.length e2;rwa [Aj,Aj]at this
    refine⟨⟨⟨O,e1⟩,by omega⟩,hl,λi hi=>?_⟩;have hin:ks[i]∈Yj ks:=Lr.2 (eQ _);have hin':ks[i]∈ks':=Lr.1 (e2▸hin);obtain⟨y,h1⟩:=R3 len' hin';refine⟨y,h1,(ih' _ (eQ _) y (hys y (Sn h1))).2 ?_⟩;rw[<-e2]at e3;have:=List.map_inj_left.1 e3 ks[i] hin;rw[Ho,Ho,h1,Y4 nd hi tX]at this;simpa using this
   rw[if_pos h6, if_neg h6, if_neg h6];constructor
   ·rintro⟨⟨⟨-, e1⟩, e2⟩, e3⟩
    rw[e1,(DD ih' e2 hys).1 e3]
   intro e;injection e with _ e1 _ e3
   have hl:xs.length=ys.length:=by have:=congrArg List.length e3;rwa [Zk,Zk,rQ,rQ]at this
   exact⟨⟨⟨O,e1⟩,hl⟩,(DD ih' hl hys).2 e3⟩
  constructor
  ·rintro⟨⟨⟨e,-⟩,-⟩,-⟩;exact absurd e h
  intro e;exfalso;split at e <;> split at e <;> injection e with e <;> exact h e) x
theorem TQ{ks ks':List Str}{n:Int}(h:ks.Perm ks'):Tp ks n=Tp ks' n:=by
  unfold Tp;rw[h.length_eq,decide_eq_decide.2 h.nodup_iff]
  congr 2
  rw[Bool.eq_iff_iff,List.all_eq_true,List.all_eq_true];exact⟨λhh k hk=>hh k (h.mem_iff.2 hk),λhh k hk=>hh k (h.mem_iff.1 hk)⟩
theorem Ur{q:Tree->Bool}:∀{xs:List Tree},(∀x∈xs,Pd q x=true)->Bt q xs=true
  | [],_=>rfl
  | x::xs,h=>by rw[Bt,h x Da,Ur (λy hy=>h y (by simp[hy]))];rfl
theorem MT{ks:List Str}{xs:List Tree}(hn:ks.Nodup)(hl:ks.length=xs.length):(D6 ks xs).Perm (Kg xs):=by
  have h1:(D6 ks xs).Perm (ks.map λkey=>(Jd ks (Kg xs) key).getD (.node 0 [] [] [])):=(Fs ks).map _;refine h1.trans ?_;have h2:(ks.map λkey=>(Jd ks (Kg xs) key).getD (.node 0 [] [] []))=Kg xs:=by
    apply List.ext_getElem
    ·rw[rQ,Zk,rQ,hl]
    intro i h1 h2;rw[List.getElem_map,Y4 hn (by simpa using h1) h2];rfl
  rw[h2]
theorem D5{k:Int}{t:Str}{ks:List Str}{xs:List Tree}:sortT (.node k t ks xs)=if k=6 then .node k t (Yj ks) (D6 ks xs) else .node k t [] (Kg xs):=by rw[sortT];rfl
theorem EV(x:Tree):Pd nodeB x=true->Pd nodeB (sortT x)=true:=Tree.ind (Q:=λx=>Pd nodeB x=true->Pd nodeB (sortT x)=true) (λk t ks xs ih hx=>by
  obtain⟨hn,hxs⟩:=De hx;have hs:∀y∈Kg xs,Pd nodeB y=true:=by
    intro y hy;rw[Zk]at hy;obtain⟨z,hz,rfl⟩:=nQ.1 hy;exact ih z hz (hxs z hz)
  rw[D5];split
  ·rename_i h6
   subst h6;obtain⟨nd,len⟩:=Lo hn;have hp:=MT nd len;rw[Pd,Bool.and_eq_true];refine⟨?_,Ur λy hy=>hs y (hp.mem_iff.1 hy)⟩;simp only[nodeB]at hn ⊢;rw[if_pos trivial]at hn ⊢;rw[TQ (Fs ks),hp.length_eq,Zk,rQ];exact hn
  rename_i h6
  rw[Pd,Bool.and_eq_true];refine⟨?_,Ur hs⟩;simp only[nodeB]at hn ⊢;by_cases h5:k=5
  ·rw[if_pos h5]at hn ⊢
   simp at hn ⊢;exact hn.2
  rw[if_neg h5, if_neg h6]at hn ⊢;by_cases hc:ks≠[]\/xs≠[]
  ·rw[if_pos hc]at hn;cases hn
  have hk : ks = [] := Classical.byContradiction λh => hc (.inl h);have hx0:xs=[]:=Classical.byContradiction λh=>hc (.inr h);subst hk hx0;simpa[Kg]using hn) x
theorem ZU{x y:Tree}(hx:Mf x=true)(hy:Mf y=true):Cr x y=true↔sortT x=sortT y:=by
  unfold Cr;rw[hx,hy];exact GK x (Uk hx) y (Uk hy)
theorem O0:∀xs:List Tree,Kb xs=(xs.map Mb).sum
  | []=>rfl
  | x::xs=>by rw[Kb,O0 xs];rfl
theorem Kx{xs ys:List Tree}(h:xs.Perm ys):Kb xs=Kb ys:=by
  rw[O0,O0];exact (h.map _).sum_nat
theorem VG{xs ys:List Tree}(h:xs.Perm ys):Dd xs=Dd ys:=by
  induction h with
  | nil=>rfl
  | cons x _ ih=>rw[Dd,Dd,ih]
  | swap x y l=>simp only[Dd];omega
  | trans _ _ h1 h2=>rw[h1,h2]
theorem S4(x:Tree):Pd nodeB x=true->Mb (sortT x)=Mb x/\Uc (sortT x)=Uc x:=Tree.ind (Q:=λx=>Pd nodeB x=true->Mb (sortT x)=Mb x/\Uc (sortT x)=Uc x) (λk t ks xs ih hx=>by
  obtain⟨hn,hxs⟩:=De hx;have h1:∀ys:List Tree,(∀y∈ys,y∈xs)->Kb (Kg ys)=Kb ys/\Dd (Kg ys)=Dd ys:=by
    intro ys
    induction ys with
    | nil=>intro _;exact⟨rfl,rfl⟩
    | cons y ys ihy =>
      intro hm;obtain⟨a,b⟩:=ih y (hm y Da) (hxs y (hm y Da));obtain⟨c,d⟩:=ihy (λz hz=>hm z (by simp[hz]));simp only[Kg,Kb,Dd,a,b,c,d];exact⟨trivial,trivial⟩
  obtain⟨a,b⟩:=h1 xs (λ_ h=>h);rw[D5];split
  ·rename_i h6
   subst h6;obtain⟨nd,len⟩:=Lo hn;have hp:=MT nd len;simp only[Mb,Uc,Kx hp,VG hp,a,b];exact⟨trivial,trivial⟩
  simp only[Mb, Uc, a, b];exact⟨trivial,trivial⟩) x
theorem EF{f:Str->Tree}{key:Str}:∀{l:List Str},key∈l->Jd l (l.map f) key=some (f key)
  | [],h=>absurd h Da
  | k :: l, h => by
    rw[List.map_cons,Jd];by_cases e:k=key
    ·rw[if_pos e,e]
    rw[if_neg e];exact EF (by rcases oQ.1 h with h|h;exact absurd h.symm e;exact h)
theorem NU{x:Tree}(h:Mf x=true):Mf (sortT x)=true:=by
  obtain⟨a,b⟩:=S4 x (Uk h);have c:=EV x (Uk h);unfold Mf Hl at h ⊢;rw[a,b,c];simp only[Bool.and_eq_true]at h;simp[h.1]
theorem At{x:Tree}(h:Mf x=true):Ei x=sortT x:=by rw[Ei,if_pos h]
theorem ST:∀{xs:List Tree},(∀x∈xs,JT x)->IQ xs
  | [],_=>by rw[IQ];trivial
  | x::xs,h=>by rw[IQ];exact⟨h x Da,ST (λy hy=>h y (by simp[hy]))⟩
mutual
def Qd:Tree->Nat|.node _ t ks xs=>max t.length (max (Dm ks) (Tj xs))
def Tj:List Tree->Nat|[]=>0|x::xs=>max (Qd x) (Tj xs)
def Dm:List Str->Nat|[]=>0|k::ks=>max k.length (Dm ks)
end
theorem Nm:∀{ks:List Str}{k:Str},k∈ks->k.length<=Dm ks
  | y :: ys, k, h => by
    rw[Dm];rcases oQ.1 h with rfl|h
    ·omega
    have:=Nm h;omega
theorem Ji:∀{xs:List Tree}{x:Tree},x∈xs->Qd x<=Tj xs
  | y :: ys, k, h => by
    rw[Tj];rcases oQ.1 h with rfl|h
    ·omega
    have:=Ji h;omega
theorem Gy{n:Nat}:∀{ks:List Str},(∀k∈ks,k.length<=n)->Dm ks<=n
  | [],_=>by rw[Dm];omega
  | k :: ks, h => by
    rw[Dm];have h1:=h k Da;have h2:=Gy (λy hy=>h y (by simp[hy]):∀k∈ks,k.length<=n);omega
theorem Bu{n:Nat}:∀{xs:List Tree},(∀x∈xs,Qd x<=n)->Tj xs<=n
  | [],_=>by rw[Tj];omega
  | k :: ks, h => by
    rw[Tj];have h1:=h k Da;have h2:=Bu (λy hy=>h y (by simp[hy]):∀x∈ks,Qd x<=n);omega
theorem okQ_max(x:Tree):Qd x<=17592186044416->JT x:=Tree.ind (Q:=λx=>Qd x<=17592186044416->JT x) (λk t ks xs ih h=>by
  rw[Qd]at h;rw[JT];exact⟨by omega,λk hk=>by have:=Nm hk;omega,ST λy hy=>ih y hy (by have:=Ji hy;omega)⟩) x
theorem Re(x:Tree):Qd x<=17592186044416->H3 x:=Tree.ind (Q:=λx=>Qd x<=17592186044416->H3 x) (λk t ks xs ih h=>by
  rw[Qd]at h;rw[H3];exact⟨by omega,λk hk=>by have:=Nm hk;omega,KS λy hy=>ih y hy (by have:=Ji hy;omega)⟩) x
theorem BV(x:Tree):Kn x=true->Qd x<=2048:=Tree.ind (Q:=λx=>Kn x=true->Qd x<=2048) (λk t ks xs ih h=>by
  rw[Kn,Bool.and_eq_true,Bool.and_eq_true,decide_eq_true_eq,List.all_eq_true]at h;rw[Qd];have h1:Dm ks<=2048:=Gy λk hk=>by have:=h.1.2 k hk;simp only[decide_eq_true_eq]at this;omega
  have key:∀ys:List Tree,(∀y∈ys,y∈xs)->Ys ys=true->Tj ys<=2048:=by
    intro ys
    induction ys with
    | nil=>intro _ _;rw[Tj];omega
    | cons y ys ihy =>
      intro hm hs;rw[Ys,Bool.and_eq_true]at hs;rw[Tj];have a:=ih y (hm y Da) hs.1;have b:=ihy (λz hz=>hm z (by simp[hz])) hs.2;omega
  have h2:=key xs (λ_ h=>h) h.2;omega) x
theorem EY(x:Tree):Qd (sortT x)<=Qd x:=Tree.ind (Q:=λx=>Qd (sortT x)<=Qd x) (λk t ks xs ih=>by
  have hs:∀y∈Kg xs,Qd y<=Tj xs:=by
    intro y hy;rw[Zk]at hy;obtain⟨z,hz,rfl⟩:=nQ.1 hy;exact fQ (ih z hz) (Ji hz)
  rw[sortT];split
  ·rw[Qd, Qd]
   have h1:Dm (Yj ks)<=Dm ks:=Gy λk hk=>Nm (Lr.1 hk);have h2:Tj ((Yj ks).map λkey=>(Jd ks (Kg xs) key).getD (.node 0 [] [] []))<=Tj xs:=Bu λy hy=>by
     obtain⟨key,_,rfl⟩:=nQ.1 hy;cases hl:Jd ks (Kg xs) key with
     | none=>simp[Qd,Dm,Tj]
     | some z=>exact hs z (Sn hl)
   omega
  rw[Qd, Qd];have h2:=Bu hs;have h3:Dm []=0:=by rw[Dm]
  omega) x
theorem N2(m:Bool)(ind d:Nat)(D:Nat)(hD:d+1<=D):∀(ps:List Str)(b:Bool),(Ct m ind d b ps).length<=(ps.map λp=>p.length+(2+ind*D)).sum
  | [],b=>by rw[Ct];simp
  | p :: ps, b => by
    have h1:=N2 m ind d D hD ps false;have h2:=L2 m ind (d+1);have h3:ind*(d+1)<=ind*D:=Nat.mul_le_mul_left _ hD;have h4:(if b=true then ([]:Str) else [44]).length<=1:=by split <;> simp
    rw[Ct,List.map_cons,List.sum_cons];simp only[dQ];omega
theorem CX(m:Bool)(ind L D:Nat)(x:Tree):∀d,Qd x<=L->d+Uc x<=D->(Mn m ind x d).length+(6*L+6+ind*D)<=Mb x*(12*L+40+2*(ind*D)) :=
  Tree.ind (Q:=λx=>∀d,Qd x<=L->d+Uc x<=D->(Mn m ind x d).length+(6*L+6+ind*D)<=Mb x*(12*L+40+2*(ind*D))) (λk t ks xs ih d hL hd=>by
  rw[Qd]at hL;rw[Uc]at hd;have hq:=VE t;have hl:=L2 m ind d;have hid:ind*d<=ind*D:=Nat.mul_le_mul_left _ tX;have key1:∀ys:List Tree,(∀y∈ys,y∈xs)->((Xx m ind ys (d+1)).map λp=>p.length+(2+ind*D)).sum<=Kb ys*(12*L+40+2*(ind*D)):=by
    intro ys
    induction ys with
    | nil=>intro _;simp[Xx]
    | cons y ys ihy =>
      intro hm;have h1:=ih y (hm y Da) (d+1) (by have:=Ji (hm y Da);omega) (by have:=Gi (hm y Da);omega);have h2:=ihy (λz hz=>hm z (by simp[hz]));rw[Xx,List.map_cons,List.sum_cons,Kb,Nat.add_mul];omega
  have key2:∀(ys:List Tree)(js:List Str),(∀y∈ys,y∈xs)->(∀k∈js,k.length<=L)->((Ls m ind ys js (d+1)).map λp=>p.length+(2+ind*D)).sum<=Kb ys*(12*L+40+2*(ind*D)):=by
    intro ys
    induction ys with
    | nil=>intro _ _ _;simp[Ls]
    | cons y ys ihy =>
      intro js hm hj;have h1:=ih y (hm y Da) (d+1) (by have:=Ji (hm y Da);omega) (by have:=Gi (hm y Da);omega);have h2:=ihy js.tail (λz hz=>hm z (by simp[hz])) (λk hk=>hj k (List.mem_of_mem_tail hk));have h3:(js.headD []).length<=L:=by
        cases js with
        | nil=>simp
        | cons a b=>exact hj a Da
      have h4:=VE (js.headD []);have h5:(if m=true then ([32]:Str) else []).length<=1:=by split <;> simp
      rw[Ls,List.map_cons,List.sum_cons,Kb,Nat.add_mul];simp only[dQ,kQ,List.length_nil];omega
  have fin:∀(o c:UInt8)(ps:List Str)(N:Nat),(xs=[]->ps=[])->(ps.map λp=>p.length+(2+ind*D)).sum<=N->(Cs m ind d o c ps).length+(6*L+6+ind*D)<=1*(12*L+40+2*(ind*D))+N:=by
    intro o c ps N he hN;have h5:(if ps=[] then ([]:Str) else Zr m ind d).length<=1+ind*D:=by
      split
      ·simp
      omega
    have h6:(Ct m ind d true ps).length<=N:=by
      by_cases hp:ps=[]
      ·subst hp;rw[Ct];simp
      have hx : xs ≠ [] := λh => hp (he h);have h7:1<=Dd xs:=by
        cases xs with
        | nil=>exact absurd rfl hx
        | cons a b => rw[Dd];have : 1 <= Uc a := by (obtain⟨_, _, _, _⟩ := a;rw[Uc];omega)
                      omega
      exact fQ (N2 m ind d D tX ps true) hN
    rw[Cs];simp only[dQ,kQ,List.length_nil];omega
  rw[Mn,Mb,Nat.add_mul];split
  ·simp only[kQ,List.length_nil];omega
  split
  ·omega
  split
  ·exact fin _ _ _ _ (λh=>by rw[h,Xx]) (key1 xs (λ_ h=>h))
  split
  ·exact fin _ _ _ _ (λh=>by rw[h,Ls]) (key2 xs ks (λ_ h=>h) (λk hk=>by have:=Nm hk;omega))
  omega) x
def Ay(x:Tree):Str:=if Nc x=true then Mn false 0 x 0 else []
def GY(x:Tree):Int:=if Nc x=true then 0 else 1
theorem Oy(q:Tree->Bool):∀xs:List Tree,Bt q xs=xs.all (Pd q)
  | []=>rfl
  | x::xs=>by rw[Bt,Oy q xs];rfl
def no7(x:Tree):Bool:=decide (x.kind≠7)
theorem MY(p q:Tree->Bool)(x:Tree):Pd (λx=>p x&&q x) x=(Pd p x&&Pd q x):=Tree.ind (Q:=λx=>Pd (λx=>p x&&q x) x=(Pd p x&&Pd q x)) (λk t ks xs ih=>by
  rw[Pd,Pd,Pd,Oy,Oy,Oy];have h:xs.all (Pd λx=>p x&&q x)=(xs.all (Pd p)&&xs.all (Pd q)):=by
    rw[Bool.eq_iff_iff,Bool.and_eq_true,List.all_eq_true,List.all_eq_true,List.all_eq_true];refine⟨λg=>⟨λy hy=>?_,λy hy=>?_⟩,λg y hy=>?_⟩
    ·have:=g y hy;rw[ih y hy,Bool.and_eq_true]at this;exact this.1
    ·have:=g y hy;rw[ih y hy,Bool.and_eq_true]at this;exact this.2
    rw[ih y hy,Bool.and_eq_true];exact⟨g.1 y hy,g.2 y hy⟩
  rw[h];cases p (.node k t ks xs) <;> cases q (.node k t ks xs) <;> simp) x
theorem WZ(x:Tree):Nc x=(Mf x&&Pd no7 x):=by
  have h:Pd rnodeB x=(Pd no7 x&&Pd nodeB x):=MY no7 nodeB x;rw[Nc,Mf,h];cases Hl x <;> cases Pd no7 x <;> simp
theorem Ef{x:Tree}(h:Nc x=true):Mf x=true:=by
  rw[WZ,Bool.and_eq_true]at h;exact h.1
theorem BJ(x:Tree)(h:Mb x<=1000000000):Mb (Ei x)<=1000000000:=by
  by_cases ho:Mf x=true
  ·rw[At ho,(S4 x (Uk ho)).1];exact h
  rw[Ei,if_neg ho];decide
theorem S6(x:Tree):Qd (Ei x)<=Qd x:=by
  by_cases ho:Mf x=true
  ·rw[At ho];exact EY x
  rw[Ei, if_neg ho];have:Qd zeroT=0:=by decide
  omega
open Go.RowKit Go.Proofs Go.Proofs.Tryz
def YZ(x:Tree)(ind d:Int):Prop:=Nc x=true/\(0<=ind/\ind<=8)/\(0<=d/\d<=32)
instance (x:Tree) (ind d:Int):Decidable (YZ x ind d):=by unfold YZ;infer_instance
theorem FE{x:Tree}(h:Nc x=true)(hm:Qd x<=1073741824)(m:Bool)(ind d:Nat)(hi:ind<=8)(hd:d<=32):(Mn m ind x d).length<=140737488355328:=by
  have h1:=Hi h;have h2:=CX m ind (Qd x) 64 x d (gQ _) tX;have h3:Mb x<=4096:=VW (Ef h);have h4:ind*64<=8*64:=Nat.mul_le_mul_right _ hi;have h5:Mb x*(12*Qd x+40+2*(ind*64))<=4096*(12*1073741824+40+2*512):=Nat.mul_le_mul h3 tX;omega
theorem comp_c(x:Tree)(S:Nat->Prop)(w0:World)(cs:List Value)(rx:Rep S w0 (Ub x) cs)(hG:Gl w0)(hsz:Mb x<=1000000000)(hm:Qd x<=1073741824):Calls prog 223 #[.agg cs.toArray] w0 (Be λv w'=>v=.tuple #[I (Ay x),J (GY x)]/\Same [] w0 w'):=by
  refine Uo (OU x S w0 cs rx hG (Re x tX) (okQ_max x tX) hsz (λh=>FE h hm _ _ _ tX tX)) λv w' ⟨h1,h2⟩=>⟨?_,h2⟩;rw[h1,Ay,GY];split <;> rfl
end Go.Scarf
