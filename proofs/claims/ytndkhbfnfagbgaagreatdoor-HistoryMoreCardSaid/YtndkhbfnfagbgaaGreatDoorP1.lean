/- A part of the proof. -/
import Derived.Test.YtndkhbfnfagbgaaGreatDoorBd
set_option linter.all false
set_option maxHeartbeats 8000000
set_option maxRecDepth 10000
namespace Go.Scarf
theorem HT{ks:List Str}{xs:List Tree}(hn:ks.Nodup):∀{i:Nat}(h:i<ks.length)(h2:i<xs.length),De ks xs ks[i]=some xs[i]:=by
  induction ks generalizing xs with
  | nil=>intro i h;cases h
  | cons k ks ih =>
    intro i h h2;cases xs with
    | nil=>cases h2
    | cons x xs =>
      cases i with
      | zero=>simp[De]
      | succ i =>
        have hne:k≠ks[i]'(by simpa using h):=λe=>(List.nodup_cons.1 hn).1 (e▸eQ _);simp only[De,List.getElem_cons_succ];rw[if_neg hne];exact ih (List.nodup_cons.1 hn).2 (by simpa using h) (by simpa using h2)
theorem BX{ks:List Str}{xs:List Tree}(hl:ks.length=xs.length){key:Str}(h:key∈ks):∃y,De ks xs key=some y:=by
  induction ks generalizing xs with
  | nil=>cases h
  | cons k ks ih =>
    cases xs with
    | nil=>cases hl
    | cons x xs =>
      rw[De];by_cases e:k=key
      ·exact⟨x,if_pos e⟩
      rw[if_neg e];exact ih (by simpa using hl) (by rcases oQ.1 h with h|h;exact absurd h.symm e;exact h)
theorem QT{ks:List Str}{xs:List Tree}{key:Str}{y:Tree}(h:De ks xs key=some y):key∈ks:=by
  induction ks generalizing xs with
  | nil=>cases xs <;> cases h
  | cons k ks ih =>
    cases xs with
    | nil=>cases h
    | cons x xs =>
      rw[De]at h;by_cases e:k=key
      ·simp[e]
      rw[if_neg e]at h;simp[ih h]
theorem YN{ks ks':List Str}{n:Int}(h:ks.Perm ks'):Ms ks n=Ms ks' n:=by
  unfold Ms;rw[h.length_eq,decide_eq_decide.2 h.nodup_iff]
  congr 2
  rw[Bool.eq_iff_iff,List.all_eq_true,List.all_eq_true];exact⟨λhh k hk=>hh k (h.mem_iff.2 hk),λhh k hk=>hh k (h.mem_iff.1 hk)⟩
theorem F0{q:Tree->Bool}:∀{xs:List Tree},(∀x∈xs,Af q x=true)->Tt q xs=true
  | [],_=>rfl
  | x::xs,h=>by rw[Tt,h x Da,F0 (λy hy=>h y (by simp[hy]))];rfl
theorem LS{ks:List Str}{xs:List Tree}(hn:ks.Nodup)(hl:ks.length=xs.length):(SA ks xs).Perm (Ih xs):=by
  have h1:(SA ks xs).Perm (ks.map λkey=>(De ks (Ih xs) key).getD (.node 0 [] [] [])):=(Er ks).map _;refine h1.trans ?_;have h2:(ks.map λkey=>(De ks (Ih xs) key).getD (.node 0 [] [] []))=Ih xs:=by
    apply List.ext_getElem
    ·rw[rQ,Bn,rQ,hl]
    intro i h1 h2;rw[List.getElem_map,HT hn (by simpa using h1) h2];rfl
  rw[h2]
theorem DB{k:Int}{t:Str}{ks:List Str}{xs:List Tree}:Zi (.node k t ks xs)=if k=6 then .node k t (Cn ks) (SA ks xs) else .node k t [] (Ih xs):=by rw[Zi];rfl
theorem US(x:Tree):Af nodeB x=true->Af nodeB (Zi x)=true:=Tree.ind (Q:=λx=>Af nodeB x=true->Af nodeB (Zi x)=true) (λk t ks xs ih hx=>by
  obtain⟨hn,hxs⟩:=Lf hx;have hs:∀y∈Ih xs,Af nodeB y=true:=by
    intro y hy;rw[Bn]at hy;obtain⟨z,hz,rfl⟩:=nQ.1 hy;exact ih z hz (hxs z hz)
  rw[DB];split
  ·rename_i h6
   subst h6;obtain⟨nd,len⟩:=Mp hn;have hp:=LS nd len;rw[Af,Bool.and_eq_true];refine⟨?_,F0 λy hy=>hs y (hp.mem_iff.1 hy)⟩;simp only[nodeB]at hn ⊢;rw[if_pos trivial]at hn ⊢;rw[YN (Er ks),hp.length_eq,Bn,rQ];exact hn
  rename_i h6
  rw[Af,Bool.and_eq_true];refine⟨?_,F0 hs⟩;simp only[nodeB]at hn ⊢;by_cases h5:k=5
  ·rw[if_pos h5]at hn ⊢
   simp at hn ⊢;exact hn.2
  rw[if_neg h5, if_neg h6]at hn ⊢;by_cases hc:ks≠[]\/xs≠[]
  ·rw[if_pos hc]at hn;cases hn
  have hk : ks = [] := Classical.byContradiction λh => hc (.inl h);have hx0:xs=[]:=Classical.byContradiction λh=>hc (.inr h);subst hk hx0;simpa[Ih]using hn) x
theorem Tz:∀xs:List Tree,Rb xs=(xs.map Wb).sum
  | []=>rfl
  | x::xs=>by rw[Rb,Tz xs];rfl
theorem Hx{xs ys:List Tree}(h:xs.Perm ys):Rb xs=Rb ys:=by
  rw[Tz,Tz];exact (h.map _).sum_nat
theorem FE{xs ys:List Tree}(h:xs.Perm ys):Ed xs=Ed ys:=by
  induction h with
  | nil=>rfl
  | cons x _ ih=>rw[Ed,Ed,ih]
  | swap x y l=>simp only[Ed];omega
  | trans _ _ h1 h2=>rw[h1,h2]
theorem K4(x:Tree):Af nodeB x=true->Wb (Zi x)=Wb x/\Cd (Zi x)=Cd x:=Tree.ind (Q:=λx=>Af nodeB x=true->Wb (Zi x)=Wb x/\Cd (Zi x)=Cd x) (λk t ks xs ih hx=>by
  obtain⟨hn,hxs⟩:=Lf hx;have h1:∀ys:List Tree,(∀y∈ys,y∈xs)->Rb (Ih ys)=Rb ys/\Ed (Ih ys)=Ed ys:=by
    intro ys
    induction ys with
    | nil=>intro _;exact⟨rfl,rfl⟩
    | cons y ys ihy =>
      intro hm;obtain⟨a,b⟩:=ih y (hm y Da) (hxs y (hm y Da));obtain⟨c,d⟩:=ihy (λz hz=>hm z (by simp[hz]));simp only[Ih,Rb,Ed,a,b,c,d];exact⟨trivial,trivial⟩
  obtain⟨a,b⟩:=h1 xs (λ_ h=>h);rw[DB];split
  ·rename_i h6
   subst h6;obtain⟨nd,len⟩:=Mp hn;have hp:=LS nd len;simp only[Wb,Cd,Hx hp,FE hp,a,b];exact⟨trivial,trivial⟩
  simp only[Wb, Cd, a, b];exact⟨trivial,trivial⟩) x
theorem GV{x:Tree}(h:Di x=true):Di (Zi x)=true:=by
  obtain⟨a,b⟩:=K4 x (Hm h);have c:=US x (Hm h);unfold Di Ir at h ⊢;rw[a,b,c];simp only[Bool.and_eq_true]at h;simp[h.1]
theorem Fs{x:Tree}(h:Di x=true):Fh x=Zi x:=by rw[Fh,if_pos h]
theorem XR:∀{xs:List Tree},(∀x∈xs,NQ x)->VO xs
  | [],_=>by rw[VO];trivial
  | x::xs,h=>by rw[VO];exact⟨h x Da,XR (λy hy=>h y (by simp[hy]))⟩
mutual
def Yd:Tree->Nat|.node _ t ks xs=>max t.length (max (Wm ks) (Tj xs))
def Tj:List Tree->Nat|[]=>0|x::xs=>max (Yd x) (Tj xs)
def Wm:List Str->Nat|[]=>0|k::ks=>max k.length (Wm ks)
end
theorem Ql:∀{ks:List Str}{k:Str},k∈ks->k.length<=Wm ks
  | y :: ys, k, h => by
    rw[Wm];rcases oQ.1 h with rfl|h
    ·omega
    have:=Ql h;omega
theorem Ai:∀{xs:List Tree}{x:Tree},x∈xs->Yd x<=Tj xs
  | y :: ys, k, h => by
    rw[Tj];rcases oQ.1 h with rfl|h
    ·omega
    have:=Ai h;omega
theorem G2{n:Nat}:∀{ks:List Str},(∀k∈ks,k.length<=n)->Wm ks<=n
  | [],_=>by rw[Wm];omega
  | k :: ks, h => by
    rw[Wm];have h1:=h k Da;have h2:=G2 (λy hy=>h y (by simp[hy]):∀k∈ks,k.length<=n);omega
theorem Zv{n:Nat}:∀{xs:List Tree},(∀x∈xs,Yd x<=n)->Tj xs<=n
  | [],_=>by rw[Tj];omega
  | k :: ks, h => by
    rw[Tj];have h1:=h k Da;have h2:=Zv (λy hy=>h y (by simp[hy]):∀x∈ks,Yd x<=n);omega
theorem okQ_max(x:Tree):Yd x<=17592186044416->NQ x:=Tree.ind (Q:=λx=>Yd x<=17592186044416->NQ x) (λk t ks xs ih h=>by
  rw[Yd]at h;rw[NQ];exact⟨by omega,λk hk=>by have:=Ql hk;omega,XR λy hy=>ih y hy (by have:=Ai hy;omega)⟩) x
theorem Hk(x:Tree):Yd x<=17592186044416->Yz x:=Tree.ind (Q:=λx=>Yd x<=17592186044416->Yz x) (λk t ks xs ih h=>by
  rw[Yd]at h;rw[Yz];exact⟨by omega,λk hk=>by have:=Ql hk;omega,FS λy hy=>ih y hy (by have:=Ai hy;omega)⟩) x
theorem XB(x:Tree):Rm x=true->Yd x<=2048:=Tree.ind (Q:=λx=>Rm x=true->Yd x<=2048) (λk t ks xs ih h=>by
  rw[Rm,Bool.and_eq_true,Bool.and_eq_true,decide_eq_true_eq,List.all_eq_true]at h;rw[Yd];have h1:Wm ks<=2048:=G2 λk hk=>by have:=h.1.2 k hk;simp only[decide_eq_true_eq]at this;omega
  have key:∀ys:List Tree,(∀y∈ys,y∈xs)->Xr ys=true->Tj ys<=2048:=by
    intro ys
    induction ys with
    | nil=>intro _ _;rw[Tj];omega
    | cons y ys ihy =>
      intro hm hs;rw[Xr,Bool.and_eq_true]at hs;rw[Tj];have a:=ih y (hm y Da) hs.1;have b:=ihy (λz hz=>hm z (by simp[hz])) hs.2;omega
  have h2:=key xs (λ_ h=>h) h.2;omega) x
theorem max_sort(x:Tree):Yd (Zi x)<=Yd x:=Tree.ind (Q:=λx=>Yd (Zi x)<=Yd x) (λk t ks xs ih=>by
  have hs:∀y∈Ih xs,Yd y<=Tj xs:=by
    intro y hy;rw[Bn]at hy;obtain⟨z,hz,rfl⟩:=nQ.1 hy;exact fQ (ih z hz) (Ai hz)
  rw[Zi];split
  ·rw[Yd, Yd]
   have h1:Wm (Cn ks)<=Wm ks:=G2 λk hk=>Ql (J3.1 hk);have h2:Tj ((Cn ks).map λkey=>(De ks (Ih xs) key).getD (.node 0 [] [] []))<=Tj xs:=Zv λy hy=>by
     obtain⟨key,_,rfl⟩:=nQ.1 hy;cases hl:De ks (Ih xs) key with
     | none=>simp[Yd,Wm,Tj]
     | some z=>exact hs z (Dy hl)
   omega
  rw[Yd, Yd];have h2:=Zv hs;have h3:Wm []=0:=by rw[Wm]
  omega) x
theorem G1(m:Bool)(ind d:Nat)(D:Nat)(hD:d+1<=D):∀(ps:List Str)(b:Bool),(Tr m ind d b ps).length<=(ps.map λp=>p.length+(2+ind*D)).sum
  | [],b=>by rw[Tr];simp
  | p :: ps, b => by
    have h1:=G1 m ind d D hD ps false;have h2:=H1 m ind (d+1);have h3:ind*(d+1)<=ind*D:=Nat.mul_le_mul_left _ hD;have h4:(if b=true then ([]:Str) else [44]).length<=1:=by split <;> simp
    rw[Tr,List.map_cons,List.sum_cons];simp only[dQ];omega
theorem ZS(m:Bool)(ind L D:Nat)(x:Tree):∀d,Yd x<=L->d+Cd x<=D->(Sm m ind x d).length+(6*L+6+ind*D)<=Wb x*(12*L+40+2*(ind*D)) :=
  Tree.ind (Q:=λx=>∀d,Yd x<=L->d+Cd x<=D->(Sm m ind x d).length+(6*L+6+ind*D)<=Wb x*(12*L+40+2*(ind*D))) (λk t ks xs ih d hL hd=>by
  rw[Yd]at hL;rw[Cd]at hd;have hq:=OC t;have hl:=H1 m ind d;have hid:ind*d<=ind*D:=Nat.mul_le_mul_left _ sX;have key1:∀ys:List Tree,(∀y∈ys,y∈xs)->((Ex m ind ys (d+1)).map λp=>p.length+(2+ind*D)).sum<=Rb ys*(12*L+40+2*(ind*D)):=by
    intro ys
    induction ys with
    | nil=>intro _;simp[Ex]
    | cons y ys ihy =>
      intro hm;have h1:=ih y (hm y Da) (d+1) (by have:=Ai (hm y Da);omega) (by have:=Jh (hm y Da);omega);have h2:=ihy (λz hz=>hm z (by simp[hz]));rw[Ex,List.map_cons,List.sum_cons,Rb,Nat.add_mul];omega
  have key2:∀(ys:List Tree)(js:List Str),(∀y∈ys,y∈xs)->(∀k∈js,k.length<=L)->((Dr m ind ys js (d+1)).map λp=>p.length+(2+ind*D)).sum<=Rb ys*(12*L+40+2*(ind*D)):=by
    intro ys
    induction ys with
    | nil=>intro _ _ _;simp[Dr]
    | cons y ys ihy =>
      intro js hm hj;have h1:=ih y (hm y Da) (d+1) (by have:=Ai (hm y Da);omega) (by have:=Jh (hm y Da);omega);have h2:=ihy js.tail (λz hz=>hm z (by simp[hz])) (λk hk=>hj k (List.mem_of_mem_tail hk));have h3:(js.headD []).length<=L:=by
        cases js with
        | nil=>simp
        | cons a b=>exact hj a Da
      have h4:=OC (js.headD []);have h5:(if m=true then ([32]:Str) else []).length<=1:=by split <;> simp
      rw[Dr,List.map_cons,List.sum_cons,Rb,Nat.add_mul];simp only[dQ,kQ,List.length_nil];omega
  have fin:∀(o c:UInt8)(ps:List Str)(N:Nat),(xs=[]->ps=[])->(ps.map λp=>p.length+(2+ind*D)).sum<=N->(Kr m ind d o c ps).length+(6*L+6+ind*D)<=1*(12*L+40+2*(ind*D))+N:=by
    intro o c ps N he hN;have h5:(if ps=[] then ([]:Str) else Hr m ind d).length<=1+ind*D:=by
      split
      ·simp
      omega
    have h6:(Tr m ind d true ps).length<=N:=by
      by_cases hp:ps=[]
      ·subst hp;rw[Tr];simp
      have hx : xs ≠ [] := λh => hp (he h);have h7:1<=Ed xs:=by
        cases xs with
        | nil=>exact absurd rfl hx
        | cons a b => rw[Ed];have : 1 <= Cd a := by (obtain⟨_, _, _, _⟩ := a;rw[Cd];omega)
                      omega
      exact fQ (G1 m ind d D sX ps true) hN
    rw[Kr];simp only[dQ,kQ,List.length_nil];omega
  rw[Sm,Wb,Nat.add_mul];split
  ·simp only[kQ,List.length_nil];omega
  split
  ·omega
  split
  ·exact fin _ _ _ _ (λh=>by rw[h,Ex]) (key1 xs (λ_ h=>h))
  split
  ·exact fin _ _ _ _ (λh=>by rw[h,Dr]) (key2 xs ks (λ_ h=>h) (λk hk=>by have:=Ql hk;omega))
  omega) x
def Xw(x:Tree):Str:=if Kd x=true then Sm false 0 x 0 else []
def PX(x:Tree):Int:=if Kd x=true then 0 else 1
theorem Qx(q:Tree->Bool):∀xs:List Tree,Tt q xs=xs.all (Af q)
  | []=>rfl
  | x::xs=>by rw[Tt,Qx q xs];rfl
def no7(x:Tree):Bool:=decide (x.kind≠7)
theorem allT_and(p q:Tree->Bool)(x:Tree):Af (λx=>p x&&q x) x=(Af p x&&Af q x):=Tree.ind (Q:=λx=>Af (λx=>p x&&q x) x=(Af p x&&Af q x)) (λk t ks xs ih=>by
  rw[Af,Af,Af,Qx,Qx,Qx];have h:xs.all (Af λx=>p x&&q x)=(xs.all (Af p)&&xs.all (Af q)):=by
    rw[Bool.eq_iff_iff,Bool.and_eq_true,List.all_eq_true,List.all_eq_true,List.all_eq_true];refine⟨λg=>⟨λy hy=>?_,λy hy=>?_⟩,λg y hy=>?_⟩
    ·have:=g y hy;rw[ih y hy,Bool.and_eq_true]at this;exact this.1
    ·have:=g y hy;rw[ih y hy,Bool.and_eq_true]at this;exact this.2
    rw[ih y hy,Bool.and_eq_true];exact⟨g.1 y hy,g.2 y hy⟩
  rw[h];cases p (.node k t ks xs) <;> cases q (.node k t ks xs) <;> simp) x
theorem JX(x:Tree):Kd x=(Di x&&Af no7 x):=by
  have h:Af rnodeB x=(Af no7 x&&Af nodeB x):=allT_and no7 nodeB x;rw[Kd,Di,h];cases Ir x <;> cases Af no7 x <;> simp
theorem Kj{x:Tree}(h:Kd x=true):Di x=true:=by
  rw[JX,Bool.and_eq_true]at h;exact h.1
theorem BH(x:Tree)(h:Wb x<=1000000000):Wb (Fh x)<=1000000000:=by
  by_cases ho:Di x=true
  ·rw[Fs ho,(K4 x (Hm ho)).1];exact h
  rw[Fh,if_neg ho];decide
theorem E6(x:Tree):Yd (Fh x)<=Yd x:=by
  by_cases ho:Di x=true
  ·rw[Fs ho];exact max_sort x
  rw[Fh, if_neg ho];have:Yd zeroT=0:=by decide
  omega
open Go.RowKit Go.Proofs Go.Proofs.Tryz
def FY(x:Tree)(ind d:Int):Prop:=Kd x=true/\(0<=ind/\ind<=8)/\(0<=d/\d<=32)
instance (x:Tree) (ind d:Int):Decidable (FY x ind d):=by unfold FY;infer_instance
theorem UB{x:Tree}(h:Kd x=true)(hm:Yd x<=1073741824)(m:Bool)(ind d:Nat)(hi:ind<=8)(hd:d<=32):(Sm m ind x d).length<=140737488355328:=by
  have h1:=Vk h;have h2:=ZS m ind (Yd x) 64 x d (gQ _) sX;have h3:Wb x<=4096:=WS (Kj h);have h4:ind*64<=8*64:=Nat.mul_le_mul_right _ hi;have h5:Wb x*(12*Yd x+40+2*(ind*64))<=4096*(12*1073741824+40+2*512):=Nat.mul_le_mul h3 sX;omega
theorem comp_c(x:Tree)(S:Nat->Prop)(w0:World)(cs:List Value)(rx:Rep S w0 (Zb x) cs)(hG:Gl w0)(hsz:Wb x<=1000000000)(hm:Yd x<=1073741824):Calls prog 210 #[.agg cs.toArray] w0 (Td λv w'=>v=.tuple #[I (Xw x),J (PX x)]/\Same [] w0 w'):=by
  refine Vn (XV x S w0 cs rx hG (Hk x sX) (okQ_max x sX) hsz (λh=>UB h hm _ _ _ sX sX)) λv w' ⟨h1,h2⟩=>⟨?_,h2⟩;rw[h1,Xw,PX];split <;> rfl
end Go.Scarf
