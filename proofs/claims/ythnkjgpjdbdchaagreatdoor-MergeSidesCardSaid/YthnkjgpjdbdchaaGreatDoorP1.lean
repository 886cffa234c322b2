/- A part of the proof. -/
import Derived.Test.YthnkjgpjdbdchaaGreatDoorBd
import Derived.Lib.BufferRead
import Derived.Lib.ItoaMem
set_option linter.all false
set_option maxHeartbeats 8000000
set_option maxRecDepth 10000
namespace Go.Scarf
structure LA {α:Type} (f:α->α->Int) (P:α->Prop) (a:α):Prop where
  rng:∀b,f a b = -1\/f a b=0\/f a b=1
  anti:∀b,P b->f b a = - f a b
  eq:∀b,P b->(f a b=0↔a=b)
  tr:∀b c,P b->P c->f a b<=0->f b c<=0->f a c<=0
theorem V3{ks:List Str}{xs:List Tree}(hn:ks.Nodup):∀{i:Nat}(h:i<ks.length)(h2:i<xs.length),Td ks xs ks[i]=some xs[i]:=by
  induction ks generalizing xs with
  | nil=>intro i h;cases h
  | cons k ks ih =>
    intro i h h2;cases xs with
    | nil=>cases h2
    | cons x xs =>
      cases i with
      | zero=>simp[Td]
      | succ i =>
        have hne:k≠ks[i]'(by simpa using h):=λe=>(List.nodup_cons.1 hn).1 (e▸eQ _);simp only[Td,List.getElem_cons_succ];rw[if_neg hne];exact ih (List.nodup_cons.1 hn).2 (by simpa using h) (by simpa using h2)
theorem W9{ks:List Str}{xs:List Tree}(hl:ks.length=xs.length){key:Str}(h:key∈ks):∃y,Td ks xs key=some y:=by
  induction ks generalizing xs with
  | nil=>cases h
  | cons k ks ih =>
    cases xs with
    | nil=>cases hl
    | cons x xs =>
      rw[Td];by_cases e:k=key
      ·exact⟨x,if_pos e⟩
      rw[if_neg e];exact ih (by simpa using hl) (by rcases oQ.1 h with h|h;exact absurd h.symm e;exact h)
theorem HB{ks:List Str}{xs:List Tree}{key:Str}{y:Tree}(h:Td ks xs key=some y):key∈ks:=by
  induction ks generalizing xs with
  | nil=>cases xs <;> cases h
  | cons k ks ih =>
    cases xs with
    | nil=>cases h
    | cons x xs =>
      rw[Td]at h;by_cases e:k=key
      ·simp[e]
      rw[if_neg e]at h;simp[ih h]
theorem Im{ks:List Str}{xs:List Tree}(key:Str):Td ks (Sf xs) key=(Td ks xs key).map sortT:=by
  cases h:Td ks xs key with
  | some y=>exact Kz h
  | none =>
    induction ks generalizing xs with
    | nil=>cases xs <;> rfl
    | cons k ks ih =>
      cases xs with
      | nil=>rfl
      | cons x xs =>
        rw[Td]at h;rw[Sf,Td];by_cases e:k=key
        ·rw[if_pos e]at h;cases h
        rw[if_neg e]at h ⊢;exact ih h
theorem OK{ks ks':List Str}(h1:ks.Nodup)(hl:ks.length=ks'.length)(hs:∀k∈ks,k∈ks'):ks.Perm ks':=by
  induction ks generalizing ks' with
  | nil =>
    have:ks'=[]:=List.eq_nil_of_length_eq_zero (by simpa using hl.symm);subst this;exact .refl _
  | cons k ks ih =>
    have hk:=hs k Da;have hp:=List.perm_cons_erase hk;refine List.Perm.trans (List.Perm.cons k (ih (List.nodup_cons.1 h1).2 ?_ ?_)) hp.symm
    ·rw[List.length_erase_of_mem hk,<-hl];simp
    intro x hx;have hne:x≠k:=λe=>(List.nodup_cons.1 h1).1 (e▸hx);exact (List.mem_erase_of_ne hne).2 (hs x (by simp[hx]))
theorem TD{xs ys:List Tree}(h:∀x∈xs,∀y,Zd nodeB y=true->(Ch x y=true↔sortT x=sortT y))(hl:xs.length=ys.length)(hy:∀y∈ys,Zd nodeB y=true):C1 xs ys=true↔Sf xs=Sf ys:=by
  induction xs generalizing ys with
  | nil => cases ys with
    | nil=>simp[C1]
    | cons y ys=>cases hl
  | cons x xs ih => cases ys with
    | nil=>cases hl
    | cons y ys =>
      rw[C1,Bool.and_eq_true,h x Da y (hy y Da),ih (λx hx=>h x (by simp[hx])) (by simpa using hl) (λy hy'=>hy y (by simp[hy'])),Sf,Sf,List.cons.injEq]
theorem QM(xs:List Tree)(ks ks':List Str)(ys:List Tree)(hl:ks.length=xs.length):W0 xs ks ks' ys=true↔∀i (h:i<ks.length),∃y,Td ks' ys ks[i]=some y/\Ch (xs[i]'by_Om) y=true:=by
  induction xs generalizing ks with
  | nil =>
    have:ks=[]:=List.eq_nil_of_length_eq_zero (by simpa using hl);subst this;simp[W0]
  | cons x xs ih => cases ks with
    | nil=>cases hl
    | cons k ks =>
      rw[W0,Bool.and_eq_true,ih ks (by simpa using hl)];constructor
      ·rintro⟨h1, h2⟩ i hi
       cases i with
       | zero =>
         cases hk:Td ks' ys k with
         | none=>rw[hk]at h1;cases h1
         | some y=>rw[hk]at h1;exact⟨y,hk,h1⟩
       | succ i=>exact h2 i (by simpa using hi)
      intro h;refine⟨?_,λi hi=>h (i+1) (by simpa using hi)⟩;obtain⟨y,h1,h2⟩:=h 0 Da;simp only[List.getElem_cons_zero]at h1 h2;rw[h1];exact h2
theorem same_iff(x:Tree):Zd nodeB x=true->∀y,Zd nodeB y=true->(Ch x y=true↔sortT x=sortT y):=Tree.ind (Q:=λx=>Zd nodeB x=true->∀y,Zd nodeB y=true->(Ch x y=true↔sortT x=sortT y)) (λk t ks xs ih hx y hy=>by
  obtain⟨k',t',ks',ys⟩:=y;obtain⟨hn,hxs⟩:=Se hx;obtain⟨hn',hys⟩:=Se hy;have ih':∀x∈xs,∀y,Zd nodeB y=true->(Ch x y=true↔sortT x=sortT y):=λx hx'=>ih x hx' (hxs x hx');rw[Ch,Bool.and_eq_true,Bool.and_eq_true,Bool.and_eq_true,decide_eq_true_eq,decide_eq_true_eq,decide_eq_true_eq,sortT,sortT];by_cases h:k=k'
  ·subst h
   by_cases h6:k=6
   ·subst h6
    obtain⟨nd,len⟩:=Tm hn;obtain⟨nd',len'⟩:=Tm hn';rw[if_neg Da,if_pos rfl,if_pos rfl,Bool.and_eq_true,decide_eq_true_eq,QM xs ks ks' ys len];constructor
    ·rintro⟨⟨⟨-, e1⟩, e2⟩, e3, hall⟩
     have hp:ks.Perm ks':=OK nd e3 (λk hk=>by
       obtain⟨i,hi,rfl⟩:=List.getElem_of_mem hk;obtain⟨y,h1,-⟩:=hall i hi;exact HB h1)
     have hs:Li ks=Li ks':=by unfold Li;exact mergeSort_of_perm hp
     rw[e1,<-hs]
     congr 1
     refine List.map_congr_left λkey hkey=>?_;have hin:=Cp.1 hkey;obtain⟨i,hi,rfl⟩:=List.getElem_of_mem hin;obtain⟨y,h1,h2⟩:=hall i hi;rw[Im,Im,h1,V3 nd hi sX];simp only[Option.map_some,Option.getD_some];exact (ih' _ (eQ _) y (hys y (Xn h1))).1 h2
    intro e;injection e with _ e1 e2 e3
    have hl:ks.length=ks'.length:=by have:=congrArg List.length e2;rwa [Ri,Ri]at this
    refine⟨⟨⟨O,e1⟩,by omega⟩,hl,λi hi=>?_⟩;have hin:ks[i]∈Li ks:=Cp.2 (eQ _);have hin':ks[i]∈ks':=Cp.1 (e2▸hin);obtain⟨y,h1⟩:=W9 len' hin';refine⟨y,h1,(ih' _ (eQ _) y (hys y (Xn h1))).2 ?_⟩;rw[<-e2]at e3;have:=List.map_inj_left.1 e3 ks[i] hin;rw[Im,Im,h1,V3 nd hi sX]at this;simpa using this
   rw[if_pos h6, if_neg h6, if_neg h6];constructor
   ·rintro⟨⟨⟨-, e1⟩, e2⟩, e3⟩
    rw[e1,(TD ih' e2 hys).1 e3]
   intro e;injection e with _ e1 _ e3
   have hl:xs.length=ys.length:=by have:=congrArg List.length e3;rwa [Ci,Ci,rQ,rQ]at this
   exact⟨⟨⟨O,e1⟩,hl⟩,(TD ih' hl hys).2 e3⟩
  constructor
  ·rintro⟨⟨⟨e,-⟩,-⟩,-⟩;exact absurd e h
  intro e;exfalso;split at e <;> split at e <;> injection e with e <;> exact h e) x
theorem WN{ks ks':List Str}{n:Int}(h:ks.Perm ks'):Yr ks n=Yr ks' n:=by
  unfold Yr;rw[h.length_eq,decide_eq_decide.2 h.nodup_iff]
  congr 2
  rw[Bool.eq_iff_iff,List.all_eq_true,List.all_eq_true];exact⟨λhh k hk=>hh k (h.mem_iff.2 hk),λhh k hk=>hh k (h.mem_iff.1 hk)⟩
theorem M0{q:Tree->Bool}:∀{xs:List Tree},(∀x∈xs,Zd q x=true)->Et q xs=true
  | [],_=>rfl
  | x::xs,h=>by rw[Et,h x Da,M0 (λy hy=>h y (by simp[hy]))];rfl
theorem SF{ks:List Str}{xs:List Tree}(hn:ks.Nodup)(hl:ks.length=xs.length):(X8 ks xs).Perm (Sf xs):=by
  have h1:(X8 ks xs).Perm (ks.map λkey=>(Td ks (Sf xs) key).getD (.node 0 [] [] [])):=(Hp ks).map _;refine h1.trans ?_;have h2:(ks.map λkey=>(Td ks (Sf xs) key).getD (.node 0 [] [] []))=Sf xs:=by
    apply List.ext_getElem
    ·rw[rQ,Ci,rQ,hl]
    intro i h1 h2;rw[List.getElem_map,V3 hn (by simpa using h1) h2];rfl
  rw[h2]
theorem Xq{k:Int}{t:Str}{ks:List Str}{xs:List Tree}:sortT (.node k t ks xs)=if k=6 then .node k t (Li ks) (X8 ks xs) else .node k t [] (Sf xs):=by rw[sortT];rfl
theorem EV(x:Tree):Zd nodeB x=true->Zd nodeB (sortT x)=true:=Tree.ind (Q:=λx=>Zd nodeB x=true->Zd nodeB (sortT x)=true) (λk t ks xs ih hx=>by
  obtain⟨hn,hxs⟩:=Se hx;have hs:∀y∈Sf xs,Zd nodeB y=true:=by
    intro y hy;rw[Ci]at hy;obtain⟨z,hz,rfl⟩:=nQ.1 hy;exact ih z hz (hxs z hz)
  rw[Xq];split
  ·rename_i h6
   subst h6;obtain⟨nd,len⟩:=Tm hn;have hp:=SF nd len;rw[Zd,Bool.and_eq_true];refine⟨?_,M0 λy hy=>hs y (hp.mem_iff.1 hy)⟩;simp only[nodeB]at hn ⊢;rw[if_pos trivial]at hn ⊢;rw[WN (Hp ks),hp.length_eq,Ci,rQ];exact hn
  rename_i h6
  rw[Zd,Bool.and_eq_true];refine⟨?_,M0 hs⟩;simp only[nodeB]at hn ⊢;by_cases h5:k=5
  ·rw[if_pos h5]at hn ⊢
   simp at hn ⊢;exact hn.2
  rw[if_neg h5, if_neg h6]at hn ⊢;by_cases hc:ks≠[]\/xs≠[]
  ·rw[if_pos hc]at hn;cases hn
  have hk : ks = [] := Classical.byContradiction λh => hc (.inl h);have hx0:xs=[]:=Classical.byContradiction λh=>hc (.inr h);subst hk hx0;simpa[Sf]using hn) x
theorem Gz:∀xs:List Tree,Pb xs=(xs.map Rb).sum
  | []=>rfl
  | x::xs=>by rw[Pb,Gz xs];rfl
theorem Nw{xs ys:List Tree}(h:xs.Perm ys):Pb xs=Pb ys:=by
  rw[Gz,Gz];exact (h.map _).sum_nat
theorem HG{xs ys:List Tree}(h:xs.Perm ys):Fd xs=Fd ys:=by
  induction h with
  | nil=>rfl
  | cons x _ ih=>rw[Fd,Fd,ih]
  | swap x y l=>simp only[Fd];omega
  | trans _ _ h1 h2=>rw[h1,h2]
theorem Gy(x:Tree):Zd nodeB x=true->Rb (sortT x)=Rb x/\Ed (sortT x)=Ed x:=Tree.ind (Q:=λx=>Zd nodeB x=true->Rb (sortT x)=Rb x/\Ed (sortT x)=Ed x) (λk t ks xs ih hx=>by
  obtain⟨hn,hxs⟩:=Se hx;have h1:∀ys:List Tree,(∀y∈ys,y∈xs)->Pb (Sf ys)=Pb ys/\Fd (Sf ys)=Fd ys:=by
    intro ys
    induction ys with
    | nil=>intro _;exact⟨rfl,rfl⟩
    | cons y ys ihy =>
      intro hm;obtain⟨a,b⟩:=ih y (hm y Da) (hxs y (hm y Da));obtain⟨c,d⟩:=ihy (λz hz=>hm z (by simp[hz]));simp only[Sf,Pb,Fd,a,b,c,d];exact⟨trivial,trivial⟩
  obtain⟨a,b⟩:=h1 xs (λ_ h=>h);rw[Xq];split
  ·rename_i h6
   subst h6;obtain⟨nd,len⟩:=Tm hn;have hp:=SF nd len;simp only[Rb,Ed,Nw hp,HG hp,a,b];exact⟨trivial,trivial⟩
  simp only[Rb, Ed, a, b];exact⟨trivial,trivial⟩) x
theorem N9(ks:List Str):Li (Li ks)=Li ks:=by
  have h:(Li ks).Perm ks:=Hp ks;show (Li ks).mergeSort leB=Li ks;exact Oy h
theorem PC{f:Str->Tree}{key:Str}:∀{l:List Str},key∈l->Td l (l.map f) key=some (f key)
  | [],h=>absurd h Da
  | k :: l, h => by
    rw[List.map_cons,Td];by_cases e:k=key
    ·rw[if_pos e,e]
    rw[if_neg e];exact PC (by rcases oQ.1 h with h|h;exact absurd h.symm e;exact h)
theorem Z3(x:Tree):Zd nodeB x=true->sortT (sortT x)=sortT x:=Tree.ind (Q:=λx=>Zd nodeB x=true->sortT (sortT x)=sortT x) (λk t ks xs ih hx=>by
  obtain⟨hn,hxs⟩:=Se hx;rw[Xq];split
  ·rename_i h6
   subst h6;obtain⟨nd,len⟩:=Tm hn;rw[Xq,if_pos rfl,N9]
   congr 1
   unfold X8;rw[N9];refine List.map_congr_left λkey hkey=>?_;rw[Im,PC (f:=λkey=>(Td ks (Sf xs) key).getD (.node 0 [] [] [])) hkey];simp only[Option.map_some,Option.getD_some];obtain⟨y,hy⟩:=W9 len (Cp.1 hkey);rw[Im,hy];simp only[Option.map_some,Option.getD_some];exact ih y (Xn hy) (hxs y (Xn hy))
  rename_i h6
  rw[Xq,if_neg h6]
  congr 1
  rw[Ci,Ci,List.map_map];refine List.map_congr_left λy hy=>?_;exact ih y hy (hxs y hy)) x
theorem ED{x:Tree}(h:Ug x=true):Ug (sortT x)=true:=by
  obtain⟨a,b⟩:=Gy x (Ik h);have c:=EV x (Ik h);unfold Ug Sr at h ⊢;rw[a,b,c];simp only[Bool.and_eq_true]at h;simp[h.1]
theorem Uj{x:Tree}(h:Ug x=true):Vd x=sortT x:=by rw[Vd,if_pos h]
theorem UQ:∀{xs:List Tree},(∀x∈xs,JR x)->ZL xs
  | [],_=>by rw[ZL];trivial
  | x::xs,h=>by rw[ZL];exact⟨h x Da,UQ (λy hy=>h y (by simp[hy]))⟩
mutual
def Nd:Tree->Nat|.node _ t ks xs=>max t.length (max (Vk ks) (Jj xs))
def Jj:List Tree->Nat|[]=>0|x::xs=>max (Nd x) (Jj xs)
def Vk:List Str->Nat|[]=>0|k::ks=>max k.length (Vk ks)
end
theorem Em:∀{ks:List Str}{k:Str},k∈ks->k.length<=Vk ks
  | y :: ys, k, h => by
    rw[Vk];rcases oQ.1 h with rfl|h
    ·omega
    have:=Em h;omega
theorem Di:∀{xs:List Tree}{x:Tree},x∈xs->Nd x<=Jj xs
  | y :: ys, k, h => by
    rw[Jj];rcases oQ.1 h with rfl|h
    ·omega
    have:=Di h;omega
theorem Hx{n:Nat}:∀{ks:List Str},(∀k∈ks,k.length<=n)->Vk ks<=n
  | [],_=>by rw[Vk];omega
  | k :: ks, h => by
    rw[Vk];have h1:=h k Da;have h2:=Hx (λy hy=>h y (by simp[hy]):∀k∈ks,k.length<=n);omega
theorem Bu{n:Nat}:∀{xs:List Tree},(∀x∈xs,Nd x<=n)->Jj xs<=n
  | [],_=>by rw[Jj];omega
  | k :: ks, h => by
    rw[Jj];have h1:=h k Da;have h2:=Bu (λy hy=>h y (by simp[hy]):∀x∈ks,Nd x<=n);omega
theorem okQ_max(x:Tree):Nd x<=17592186044416->JR x:=Tree.ind (Q:=λx=>Nd x<=17592186044416->JR x) (λk t ks xs ih h=>by
  rw[Nd]at h;rw[JR];exact⟨by omega,λk hk=>by have:=Em hk;omega,UQ λy hy=>ih y hy (by have:=Di hy;omega)⟩) x
theorem Oh(x:Tree):Nd x<=17592186044416->U2 x:=Tree.ind (Q:=λx=>Nd x<=17592186044416->U2 x) (λk t ks xs ih h=>by
  rw[Nd]at h;rw[U2];exact⟨by omega,λk hk=>by have:=Em hk;omega,OQ λy hy=>ih y hy (by have:=Di hy;omega)⟩) x
theorem IV(x:Tree):Gn x=true->Nd x<=2048:=Tree.ind (Q:=λx=>Gn x=true->Nd x<=2048) (λk t ks xs ih h=>by
  rw[Gn,Bool.and_eq_true,Bool.and_eq_true,decide_eq_true_eq,List.all_eq_true]at h;rw[Nd];have h1:Vk ks<=2048:=Hx λk hk=>by have:=h.1.2 k hk;simp only[decide_eq_true_eq]at this;omega
  have key:∀ys:List Tree,(∀y∈ys,y∈xs)->Ls ys=true->Jj ys<=2048:=by
    intro ys
    induction ys with
    | nil=>intro _ _;rw[Jj];omega
    | cons y ys ihy =>
      intro hm hs;rw[Ls,Bool.and_eq_true]at hs;rw[Jj];have a:=ih y (hm y Da) hs.1;have b:=ihy (λz hz=>hm z (by simp[hz])) hs.2;omega
  have h2:=key xs (λ_ h=>h) h.2;omega) x
theorem KJ(x:Tree):Nd (sortT x)<=Nd x:=Tree.ind (Q:=λx=>Nd (sortT x)<=Nd x) (λk t ks xs ih=>by
  have hs:∀y∈Sf xs,Nd y<=Jj xs:=by
    intro y hy;rw[Ci]at hy;obtain⟨z,hz,rfl⟩:=nQ.1 hy;exact fQ (ih z hz) (Di hz)
  rw[sortT];split
  ·rw[Nd, Nd]
   have h1:Vk (Li ks)<=Vk ks:=Hx λk hk=>Em (Cp.1 hk);have h2:Jj ((Li ks).map λkey=>(Td ks (Sf xs) key).getD (.node 0 [] [] []))<=Jj xs:=Bu λy hy=>by
     obtain⟨key,_,rfl⟩:=nQ.1 hy;cases hl:Td ks (Sf xs) key with
     | none=>simp[Nd,Vk,Jj]
     | some z=>exact hs z (Xn hl)
   omega
  rw[Nd, Nd];have h2:=Bu hs;have h3:Vk []=0:=by rw[Vk]
  omega) x
theorem X1(m:Bool)(ind d:Nat)(D:Nat)(hD:d+1<=D):∀(ps:List Str)(b:Bool),(Ns m ind d b ps).length<=(ps.map λp=>p.length+(2+ind*D)).sum
  | [],b=>by rw[Ns];simp
  | p :: ps, b => by
    have h1:=X1 m ind d D hD ps false;have h2:=O1 m ind (d+1);have h3:ind*(d+1)<=ind*D:=Nat.mul_le_mul_left _ hD;have h4:(if b=true then ([]:Str) else [44]).length<=1:=by split <;> simp
    rw[Ns,List.map_cons,List.sum_cons];simp only[dQ];omega
theorem PS(m:Bool)(ind L D:Nat)(x:Tree):∀d,Nd x<=L->d+Ed x<=D->(Mn m ind x d).length+(6*L+6+ind*D)<=Rb x*(12*L+40+2*(ind*D)) :=
  Tree.ind (Q:=λx=>∀d,Nd x<=L->d+Ed x<=D->(Mn m ind x d).length+(6*L+6+ind*D)<=Rb x*(12*L+40+2*(ind*D))) (λk t ks xs ih d hL hd=>by
  rw[Nd]at hL;rw[Ed]at hd;have hq:=XC t;have hl:=O1 m ind d;have hid:ind*d<=ind*D:=Nat.mul_le_mul_left _ sX;have key1:∀ys:List Tree,(∀y∈ys,y∈xs)->((Nx m ind ys (d+1)).map λp=>p.length+(2+ind*D)).sum<=Pb ys*(12*L+40+2*(ind*D)):=by
    intro ys
    induction ys with
    | nil=>intro _;simp[Nx]
    | cons y ys ihy =>
      intro hm;have h1:=ih y (hm y Da) (d+1) (by have:=Di (hm y Da);omega) (by have:=Zh (hm y Da);omega);have h2:=ihy (λz hz=>hm z (by simp[hz]));rw[Nx,List.map_cons,List.sum_cons,Pb,Nat.add_mul];omega
  have key2:∀(ys:List Tree)(js:List Str),(∀y∈ys,y∈xs)->(∀k∈js,k.length<=L)->((Xr m ind ys js (d+1)).map λp=>p.length+(2+ind*D)).sum<=Pb ys*(12*L+40+2*(ind*D)):=by
    intro ys
    induction ys with
    | nil=>intro _ _ _;simp[Xr]
    | cons y ys ihy =>
      intro js hm hj;have h1:=ih y (hm y Da) (d+1) (by have:=Di (hm y Da);omega) (by have:=Zh (hm y Da);omega);have h2:=ihy js.tail (λz hz=>hm z (by simp[hz])) (λk hk=>hj k (List.mem_of_mem_tail hk));have h3:(js.headD []).length<=L:=by
        cases js with
        | nil=>simp
        | cons a b=>exact hj a Da
      have h4:=XC (js.headD []);have h5:(if m=true then ([32]:Str) else []).length<=1:=by split <;> simp
      rw[Xr,List.map_cons,List.sum_cons,Pb,Nat.add_mul];simp only[dQ,kQ,List.length_nil];omega
  have fin:∀(o c:UInt8)(ps:List Str)(N:Nat),(xs=[]->ps=[])->(ps.map λp=>p.length+(2+ind*D)).sum<=N->(Kr m ind d o c ps).length+(6*L+6+ind*D)<=1*(12*L+40+2*(ind*D))+N:=by
    intro o c ps N he hN;have h5:(if ps=[] then ([]:Str) else Nr m ind d).length<=1+ind*D:=by
      split
      ·simp
      omega
    have h6:(Ns m ind d true ps).length<=N:=by
      by_cases hp:ps=[]
      ·subst hp;rw[Ns];simp
      have hx : xs ≠ [] := λh => hp (he h);have h7:1<=Fd xs:=by
        cases xs with
        | nil=>exact absurd rfl hx
        | cons a b => rw[Fd];have : 1 <= Ed a := by (obtain⟨_, _, _, _⟩ := a;rw[Ed];omega)
                      omega
      exact fQ (X1 m ind d D sX ps true) hN
    rw[Kr];simp only[dQ,kQ,List.length_nil];omega
  rw[Mn,Rb,Nat.add_mul];split
  ·simp only[kQ,List.length_nil];omega
  split
  ·omega
  split
  ·exact fin _ _ _ _ (λh=>by rw[h,Nx]) (key1 xs (λ_ h=>h))
  split
  ·exact fin _ _ _ _ (λh=>by rw[h,Xr]) (key2 xs ks (λ_ h=>h) (λk hk=>by have:=Em hk;omega))
  omega) x
def Aw(x:Tree):Str:=if Sc x=true then Mn false 0 x 0 else []
def compE(x:Tree):Int:=if Sc x=true then 0 else 1
theorem Sn(q:Tree->Bool):∀xs:List Tree,Et q xs=xs.all (Zd q)
  | []=>rfl
  | x::xs=>by rw[Et,Sn q xs];rfl
theorem KX{α:Type}(q:α->Bool){xs ys:List α}(h:xs.Perm ys):xs.all q=ys.all q:=by
  rw[Bool.eq_iff_iff,List.all_eq_true,List.all_eq_true];exact⟨λg y hy=>g y (h.mem_iff.2 hy),λg y hy=>g y (h.mem_iff.1 hy)⟩
def no7(x:Tree):Bool:=decide (x.kind≠7)
theorem WX(p q:Tree->Bool)(x:Tree):Zd (λx=>p x&&q x) x=(Zd p x&&Zd q x):=Tree.ind (Q:=λx=>Zd (λx=>p x&&q x) x=(Zd p x&&Zd q x)) (λk t ks xs ih=>by
  rw[Zd,Zd,Zd,Sn,Sn,Sn];have h:xs.all (Zd λx=>p x&&q x)=(xs.all (Zd p)&&xs.all (Zd q)):=by
    rw[Bool.eq_iff_iff,Bool.and_eq_true,List.all_eq_true,List.all_eq_true,List.all_eq_true];refine⟨λg=>⟨λy hy=>?_,λy hy=>?_⟩,λg y hy=>?_⟩
    ·have:=g y hy;rw[ih y hy,Bool.and_eq_true]at this;exact this.1
    ·have:=g y hy;rw[ih y hy,Bool.and_eq_true]at this;exact this.2
    rw[ih y hy,Bool.and_eq_true];exact⟨g.1 y hy,g.2 y hy⟩
  rw[h];cases p (.node k t ks xs) <;> cases q (.node k t ks xs) <;> simp) x
theorem no7_sort(x:Tree):Zd nodeB x=true->Zd no7 (sortT x)=Zd no7 x:=Tree.ind (Q:=λx=>Zd nodeB x=true->Zd no7 (sortT x)=Zd no7 x) (λk t ks xs ih hx=>by
  obtain⟨hn,hxs⟩:=Se hx;have hs:(Sf xs).all (Zd no7)=xs.all (Zd no7):=by
    rw[Ci,List.all_map,Bool.eq_iff_iff,List.all_eq_true,List.all_eq_true];refine⟨λg y hy=>?_,λg y hy=>?_⟩
    ·have:=g y hy;simp only[Function.comp_apply]at this;rwa [ih y hy (hxs y hy)]at this
    simp only[Function.comp_apply];rw[ih y hy (hxs y hy)];exact g y hy
  rw[Xq];split
  ·rename_i h6
   subst h6;obtain⟨nd,len⟩:=Tm hn;rw[Zd,Zd,Sn,Sn,KX _ (SF nd len),hs];rfl
  rw[Zd, Zd, Sn, Sn, hs];rfl) x
theorem Qw(x:Tree):Sc x=(Ug x&&Zd no7 x):=by
  have h:Zd rnodeB x=(Zd no7 x&&Zd nodeB x):=WX no7 nodeB x;rw[Sc,Ug,h];cases Sr x <;> cases Zd no7 x <;> simp
theorem Nf{x:Tree}(h:Sc x=true):Ug x=true:=by
  rw[Qw,Bool.and_eq_true]at h;exact h.1
theorem XU:Ug zeroT=false:=by kernel_rfl
theorem HE(x:Tree):Sc (Vd x)=Sc x:=by
  by_cases h:Ug x=true
  ·rw[Uj h,Qw,Qw,ED h,h,no7_sort x (Ik h)]
  rw[Vd,if_neg h,Qw,Qw,XU,Bool.eq_false_iff.2 h];rfl
theorem CL(x:Tree)(h:Rb x<=1000000000):Rb (Vd x)<=1000000000:=by
  by_cases ho:Ug x=true
  ·rw[Uj ho,(Gy x (Ik ho)).1];exact h
  rw[Vd,if_neg ho];decide
theorem U5(x:Tree):Nd (Vd x)<=Nd x:=by
  by_cases ho:Ug x=true
  ·rw[Uj ho];exact KJ x
  rw[Vd, if_neg ho];have:Nd zeroT=0:=by decide
  omega
open Go.RowKit Go.Proofs Go.Proofs.Tryz
def IW(x:Tree)(ind d:Int):Prop:=Sc x=true/\(0<=ind/\ind<=8)/\(0<=d/\d<=32)
instance (x:Tree) (ind d:Int):Decidable (IW x ind d):=by unfold IW;infer_instance
theorem WD{x:Tree}(h:Sc x=true)(hm:Nd x<=1073741824)(m:Bool)(ind d:Nat)(hi:ind<=8)(hd:d<=32):(Mn m ind x d).length<=140737488355328:=by
  have h1:=Ul h;have h2:=PS m ind (Nd x) 64 x d (gQ _) sX;have h3:Rb x<=4096:=LU (Nf h);have h4:ind*64<=8*64:=Nat.mul_le_mul_right _ hi;have h5:Rb x*(12*Nd x+40+2*(ind*64))<=4096*(12*1073741824+40+2*512):=Nat.mul_le_mul h3 sX;omega
theorem comp_c(x:Tree)(S:Nat->Prop)(w0:World)(cs:List Value)(rx:Rep S w0 (Wb x) cs)(hG:Gl w0)(hsz:Rb x<=1000000000)(hm:Nd x<=1073741824):Calls prog 223 #[.agg cs.toArray] w0 (Wd λv w'=>v=.tuple #[I (Aw x),J (compE x)]/\Same [] w0 w'):=by
  refine Oo (QU x S w0 cs rx hG (Oh x sX) (okQ_max x sX) hsz (λh=>WD h hm _ _ _ sX sX)) λv w' ⟨h1,h2⟩=>⟨?_,h2⟩;rw[h1,Aw,compE];split <;> rfl
def nq(q:Bool)(c:UInt8):Bool:=if c=34 then !q else q
def FK(q:Bool)(c:UInt8)(l:Str):Str:=if nq q c=true\/(c≠32/\c≠10) then c::l else l
def Er:Bool->Str->Str
  | _,[]=>[]
  | q,[c]=>FK q c []
  | q,c::d::r=>if q=true/\c=92 then c::d::Er q r else FK q c (Er (nq q c) (d::r))
def Bal(a b:Str):Prop:=∀r,Er false (a++r)=b++Er false r
def Inq(a:Str):Prop:=∀r,Er true (a++r)=a++Er true r
theorem GC{q:Bool}{c:UInt8}{r:Str}(h:¬(q=true/\c=92)):Er q (c::r)=FK q c (Er (nq q c) r):=by
  cases r with
  | nil=>rw[Er,Er]
  | cons d r=>rw[Er,if_neg h]
theorem Bal.nil:Bal [] []:=λ_=>rfl
theorem Bal.app{a b a' b':Str}(h:Bal a a')(k:Bal b b'):Bal (a++b) (a'++b'):=λr=>by rw[sQ,h,k,sQ]
theorem Inq.nil:Inq []:=λ_=>rfl
theorem Inq.app{a b:Str}(h:Inq a)(k:Inq b):Inq (a++b):=λr=>by rw[sQ,h,k,sQ]
theorem Bal.byte{c:UInt8}(h1:c≠34)(h2:c≠32)(h3:c≠10):Bal [c] [c]:=λr=>by
  show Er false (c::r)=c::Er false r;rw[GC Da,FK,nq,if_neg h1,if_pos (.inr ⟨h2,h3⟩)]
theorem Bal.bytes:∀{a:Str},(∀c∈a,c≠34/\c≠32/\c≠10)->Bal a a
  | [],_=>Bal.nil
  | c :: a, h => by
    have h1:=h c Da;exact (Bal.byte h1.1 h1.2.1 h1.2.2).app (Bal.bytes λd hd=>h d (by simp[hd]))
theorem Inq.byte{c:UInt8}(h1:c≠34)(h2:c≠92):Inq [c]:=λr=>by
  show Er true (c::r)=c::Er true r;rw[GC (λh=>h2 h.2),FK,nq,if_neg h1,if_pos (.inl rfl)]
theorem Inq.bytes:∀{a:Str},(∀c∈a,c≠34/\c≠92)->Inq a
  | [],_=>Inq.nil
  | c :: a, h => by
    have h1:=h c Da;exact (Inq.byte h1.1 h1.2).app (Inq.bytes λd hd=>h d (by simp[hd]))
def nl(s:Str):Nat:=s.count 10
theorem MT{k:Int}{t:Str}{ks:List Str}{xs:List Tree}(h:Sc (.node k t ks xs)=true){x:Tree}(hx:x∈xs):Sc x=true:=by
  unfold Sc Sr at h ⊢;simp only[Bool.and_eq_true,decide_eq_true_eq]at h ⊢;have h1:=Sh hx;have h2:=Zh hx;rw[Rb,Ed]at h;exact⟨⟨by omega,by omega⟩,(Se h.2).2 x hx⟩
theorem ZN{k:Int}{t:Str}{ks:List Str}{xs:List Tree}(h:Sc (.node k t ks xs)=true)(hk:k=6):ks.length=xs.length/\∀x∈ks,Lib.validD x=true:=by
  have h1:=(Se (Rn h)).1;subst hk;refine⟨(Tm h1).2,?_⟩;simp only[nodeB,Yr]at h1;simp at h1;exact h1.1.1.2
def Vs(acc:List Str)(s:Str):List Str:=if s∈acc then acc else acc++[s]
def Kg(rows:List (List Str)):List Str:=rows.flatten.foldl Vs []
theorem addU_mem{acc:List Str}{s t:Str}:t∈Vs acc s↔t∈acc\/t=s:=by
  unfold Vs;split
  ·rename_i h
   constructor
   ·exact .inl
   rintro (h1|rfl)
   ·exact h1
   exact h
  simp
theorem DM{acc:List Str}(h:acc.Nodup)(s:Str):(Vs acc s).Nodup:=by
  unfold Vs;split
  ·exact h
  rename_i hn
  rw[List.nodup_append];refine⟨h,by simp,?_⟩;rintro a ha b hb rfl;simp only[pQ]at hb;subst hb;exact hn ha
theorem J6:∀(l:List Str){acc:List Str},acc.Nodup->(l.foldl Vs acc).Nodup
  | [],_,h=>h
  | s::l,_,h=>J6 l (DM h s)
theorem C5:∀(l:List Str){acc:List Str}{t:Str},t∈l.foldl Vs acc↔t∈acc\/t∈l
  | [],_,_=>by simp
  | s::l,_,_=>by rw[List.foldl_cons,C5 l,addU_mem,oQ,or_assoc]
theorem ZC:∀(l:List Str)(acc:List Str),∃r,l.foldl Vs acc=acc++r/\r.length<=l.length
  | [],acc=>⟨[],by simp⟩
  | s :: l, acc => by
    obtain⟨r,h,hr⟩:=ZC l (Vs acc s);by_cases hs:s∈acc
    ·have e : Vs acc s = acc := if_pos hs
     rw[e]at h;exact⟨r,by rw[List.foldl_cons,e,h],by simp;omega⟩
    have e : Vs acc s = acc ++ [s] := if_neg hs;rw[e]at h;exact⟨s::r,by rw[List.foldl_cons,e,h];simp,by simp;omega⟩
theorem Ai(rows:List (List Str)):(Kg rows).Nodup:=J6 _ List.nodup_nil
def idK(y:Tree):Bool:=decide (y.kind=4) || decide (y.kind=3)
def idB(x:Tree)(key:Str):Bool:=((Xt x key).2&&idK (Xt x key).1)&&decide (compE (Vd (Xt x key).1)=0)
def idS(x:Tree)(key:Str):Str:=if ((Xt x key).2&&idK (Xt x key).1)=true then Aw (Vd (Xt x key).1) else []
def KV(key:Str):List Tree->List Str->Option (List Str)
  | [],acc=>some acc
  | x::xs,acc=>if idB x key=true/\idS x key∉acc then KV key xs (acc++[idS x key]) else none
def GO(v:Tree)(key:Str):Option (List Str):=if Sc v=true/\v.kind=5 then KV key v.items [] else none
theorem JJ{key:Str}:∀(xs:List Tree)(acc l:List Str),KV key xs acc=some l->l.length=acc.length+xs.length
  | [],acc,l,h=>by rw[KV]at h;cases h;simp
  | x :: xs, acc, l, h => by
    rw[KV]at h;split at h
    ·have := JJ xs _ l h
     simp at this ⊢;omega
    cases h
theorem Lu{x:Tree}(h:Sc x=true):H5 x=x:=by rw[H5,if_pos (Nf h)]
def Ends(r:Str):Prop:=∀c s,r=c::s->c=44\/c=93\/c=125
theorem Ends.nil:Ends []:=λc s h=>by cases h
open Go.RowKit
section
variable {P:Program}{w0 w:World}{Ds:List Nat}{pre post sb:List (Nat × Obj)}
end
section
variable {P:Program}{R:Exit->Act->World->Prop}{n:Nat}{kt:Kt}{s:Nat->Value}{w:World}{ops rest:List Oper}
variable {d:Nat}{ty:TypeId}{pos:String}{aft:Array Edge}{g:Option (Nat × Bool)}
variable {w0:World}{Ds:List Nat}{sb:List (Nat × Obj)}
end
end Go.Scarf
