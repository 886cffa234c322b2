/- A part of the proof. -/
import Derived.Test.YtidlkjpohhbbcaaGreatDoorBd
import Derived.Lib.BufferRead
import Derived.Lib.ItoaMem
set_option linter.all false
set_option maxHeartbeats 8000000
set_option maxRecDepth 10000
namespace Go.Scarf
theorem TS:∀{xs:List Tree},(∀x∈xs,CT x)->IP xs
  | [],_=>by rw[IP];trivial
  | x::xs,h=>by rw[IP];exact⟨h x Oa,TS (λy hy=>h y (by simp[hy]))⟩
mutual
def Kd:Tree->Nat|.node _ t ks xs=>max t.length (max (Mk ks) (Rk xs))
def Rk:List Tree->Nat|[]=>0|x::xs=>max (Kd x) (Rk xs)
def Mk:List Str->Nat|[]=>0|k::ks=>max k.length (Mk ks)
end
theorem Hl:∀{ks:List Str}{k:Str},k∈ks->k.length<=Mk ks
  | y :: ys, k, h => by
    rw[Mk];rcases oQ.1 h with rfl|h
    ·omega
    have:=Hl h;omega
theorem Oj:∀{xs:List Tree}{x:Tree},x∈xs->Kd x<=Rk xs
  | y :: ys, k, h => by
    rw[Rk];rcases oQ.1 h with rfl|h
    ·omega
    have:=Oj h;omega
theorem Uz{n:Nat}:∀{ks:List Str},(∀k∈ks,k.length<=n)->Mk ks<=n
  | [],_=>by rw[Mk];omega
  | k :: ks, h => by
    rw[Mk];have h1:=h k Oa;have h2:=Uz (λy hy=>h y (by simp[hy]):∀k∈ks,k.length<=n);omega
theorem U0{n:Nat}:∀{xs:List Tree},(∀x∈xs,Kd x<=n)->Rk xs<=n
  | [],_=>by rw[Rk];omega
  | k :: ks, h => by
    rw[Rk];have h1:=h k Oa;have h2:=U0 (λy hy=>h y (by simp[hy]):∀x∈ks,Kd x<=n);omega
theorem okQ_max(x:Tree):Kd x<=17592186044416->CT x:=Tree.ind (Q:=λx=>Kd x<=17592186044416->CT x) (λk t ks xs ih h=>by
  rw[Kd]at h;rw[CT];exact⟨by omega,λk hk=>by have:=Hl hk;omega,TS λy hy=>ih y hy (by have:=Oj hy;omega)⟩) x
theorem Mn(x:Tree):Kd x<=17592186044416->Tq x:=Tree.ind (Q:=λx=>Kd x<=17592186044416->Tq x) (λk t ks xs ih h=>by
  rw[Kd]at h;rw[Tq];exact⟨by omega,λk hk=>by have:=Hl hk;omega,E6 λy hy=>ih y hy (by have:=Oj hy;omega)⟩) x
theorem DA(x:Tree):Jm x=true->Kd x<=2048:=Tree.ind (Q:=λx=>Jm x=true->Kd x<=2048) (λk t ks xs ih h=>by
  rw[Jm,Bool.and_eq_true,Bool.and_eq_true,decide_eq_true_eq,List.all_eq_true]at h;rw[Kd];have h1:Mk ks<=2048:=Uz λk hk=>by have:=h.1.2 k hk;simp only[decide_eq_true_eq]at this;omega
  have key:∀ys:List Tree,(∀y∈ys,y∈xs)->Fr ys=true->Rk ys<=2048:=by
    intro ys
    induction ys with
    | nil=>intro _ _;rw[Rk];omega
    | cons y ys ihy =>
      intro hm hs;rw[Fr,Bool.and_eq_true]at hs;rw[Rk];have a:=ih y (hm y Oa) hs.1;have b:=ihy (λz hz=>hm z (by simp[hz])) hs.2;omega
  have h2:=key xs (λ_ h=>h) h.2;omega) x
theorem max_sort(x:Tree):Kd (sortT x)<=Kd x:=Tree.ind (Q:=λx=>Kd (sortT x)<=Kd x) (λk t ks xs ih=>by
  have hs:∀y∈Ff xs,Kd y<=Rk xs:=by
    intro y hy;rw[Qh]at hy;obtain⟨z,hz,rfl⟩:=nQ.1 hy;exact fQ (ih z hz) (Oj hz)
  rw[sortT];split
  ·rw[Kd, Kd]
   have h1:Mk (Bg ks)<=Mk ks:=Uz λk hk=>Hl (Cp.1 hk);have h2:Rk ((Bg ks).map λkey=>(Ig ks (Ff xs) key).getD (.node 0 [] [] []))<=Rk xs:=U0 λy hy=>by
     obtain⟨key,_,rfl⟩:=nQ.1 hy;cases hl:Ig ks (Ff xs) key with
     | none=>simp[Kd,Mk,Rk]
     | some z=>exact hs z (Fp hl)
   omega
  rw[Kd, Kd];have h2:=U0 hs;have h3:Mk []=0:=by rw[Mk]
  omega) x
theorem V1(m:Bool)(ind d:Nat)(D:Nat)(hD:d+1<=D):∀(ps:List Str)(b:Bool),(Qi m ind d b ps).length<=(ps.map λp=>p.length+(2+ind*D)).sum
  | [],b=>by rw[Qi];simp
  | p :: ps, b => by
    have h1:=V1 m ind d D hD ps false;have h2:=K0 m ind (d+1);have h3:ind*(d+1)<=ind*D:=Nat.mul_le_mul_left _ hD;have h4:(if b=true then ([]:Str) else [44]).length<=1:=by split <;> simp
    rw[Qi,List.map_cons,List.sum_cons];simp only[dQ];omega
theorem R2(m:Bool)(ind L D:Nat)(x:Tree):∀d,Kd x<=L->d+Vc x<=D->(Ag m ind x d).length+(6*L+6+ind*D)<=Nb x*(12*L+40+2*(ind*D)) :=
  Tree.ind (Q:=λx=>∀d,Kd x<=L->d+Vc x<=D->(Ag m ind x d).length+(6*L+6+ind*D)<=Nb x*(12*L+40+2*(ind*D))) (λk t ks xs ih d hL hd=>by
  rw[Kd]at hL;rw[Vc]at hd;have hq:=G2 t;have hl:=K0 m ind d;have hid:ind*d<=ind*D:=Nat.mul_le_mul_left _ Aa;have key1:∀ys:List Tree,(∀y∈ys,y∈xs)->((Br m ind ys (d+1)).map λp=>p.length+(2+ind*D)).sum<=Ec ys*(12*L+40+2*(ind*D)):=by
    intro ys
    induction ys with
    | nil=>intro _;simp[Br]
    | cons y ys ihy =>
      intro hm;have h1:=ih y (hm y Oa) (d+1) (by have:=Oj (hm y Oa);omega) (by have:=Lh (hm y Oa);omega);have h2:=ihy (λz hz=>hm z (by simp[hz]));rw[Br,List.map_cons,List.sum_cons,Ec,Nat.add_mul];omega
  have key2:∀(ys:List Tree)(js:List Str),(∀y∈ys,y∈xs)->(∀k∈js,k.length<=L)->((Em m ind ys js (d+1)).map λp=>p.length+(2+ind*D)).sum<=Ec ys*(12*L+40+2*(ind*D)):=by
    intro ys
    induction ys with
    | nil=>intro _ _ _;simp[Em]
    | cons y ys ihy =>
      intro js hm hj;have h1:=ih y (hm y Oa) (d+1) (by have:=Oj (hm y Oa);omega) (by have:=Lh (hm y Oa);omega);have h2:=ihy js.tail (λz hz=>hm z (by simp[hz])) (λk hk=>hj k (List.mem_of_mem_tail hk));have h3:(js.headD []).length<=L:=by
        cases js with
        | nil=>simp
        | cons a b=>exact hj a Oa
      have h4:=G2 (js.headD []);have h5:(if m=true then ([32]:Str) else []).length<=1:=by split <;> simp
      rw[Em,List.map_cons,List.sum_cons,Ec,Nat.add_mul];simp only[dQ,kQ,List.length_nil];omega
  have fin:∀(o c:UInt8)(ps:List Str)(N:Nat),(xs=[]->ps=[])->(ps.map λp=>p.length+(2+ind*D)).sum<=N->(Im m ind d o c ps).length+(6*L+6+ind*D)<=1*(12*L+40+2*(ind*D))+N:=by
    intro o c ps N he hN;have h5:(if ps=[] then ([]:Str) else Nh m ind d).length<=1+ind*D:=by
      split
      ·simp
      omega
    have h6:(Qi m ind d true ps).length<=N:=by
      by_cases hp:ps=[]
      ·subst hp;rw[Qi];simp
      have hx : xs ≠ [] := λh => hp (he h);have h7:1<=Od xs:=by
        cases xs with
        | nil=>exact absurd rfl hx
        | cons a b => rw[Od];have : 1 <= Vc a := by (obtain⟨_, _, _, _⟩ := a;rw[Vc];omega)
                      omega
      exact fQ (V1 m ind d D Aa ps true) hN
    rw[Im];simp only[dQ,kQ,List.length_nil];omega
  rw[Ag,Nb,Nat.add_mul];split
  ·simp only[kQ,List.length_nil];omega
  split
  ·omega
  split
  ·exact fin _ _ _ _ (λh=>by rw[h,Br]) (key1 xs (λ_ h=>h))
  split
  ·exact fin _ _ _ _ (λh=>by rw[h,Em]) (key2 xs ks (λ_ h=>h) (λk hk=>by have:=Hl hk;omega))
  omega) x
def Sm(x:Tree):Str:=if Pf x=true then Ag false 0 x 0 else []
def Is(x:Tree):Int:=if Pf x=true then 0 else 1
theorem Nl(q:Tree->Bool):∀xs:List Tree,Gs q xs=xs.all (Me q)
  | []=>rfl
  | x::xs=>by rw[Gs,Nl q xs];rfl
theorem all_perm{α:Type}(q:α->Bool){xs ys:List α}(h:xs.Perm ys):xs.all q=ys.all q:=by
  rw[Bool.eq_iff_iff,List.all_eq_true,List.all_eq_true];exact⟨λg y hy=>g y (h.mem_iff.2 hy),λg y hy=>g y (h.mem_iff.1 hy)⟩
def no7(x:Tree):Bool:=decide (x.kind≠7)
theorem allT_and(p q:Tree->Bool)(x:Tree):Me (λx=>p x&&q x) x=(Me p x&&Me q x):=Tree.ind (Q:=λx=>Me (λx=>p x&&q x) x=(Me p x&&Me q x)) (λk t ks xs ih=>by
  rw[Me,Me,Me,Nl,Nl,Nl];have h:xs.all (Me λx=>p x&&q x)=(xs.all (Me p)&&xs.all (Me q)):=by
    rw[Bool.eq_iff_iff,Bool.and_eq_true,List.all_eq_true,List.all_eq_true,List.all_eq_true];refine⟨λg=>⟨λy hy=>?_,λy hy=>?_⟩,λg y hy=>?_⟩
    ·have:=g y hy;rw[ih y hy,Bool.and_eq_true]at this;exact this.1
    ·have:=g y hy;rw[ih y hy,Bool.and_eq_true]at this;exact this.2
    rw[ih y hy,Bool.and_eq_true];exact⟨g.1 y hy,g.2 y hy⟩
  rw[h];cases p (.node k t ks xs) <;> cases q (.node k t ks xs) <;> simp) x
theorem no7_sort(x:Tree):Me nodeB x=true->Me no7 (sortT x)=Me no7 x:=Tree.ind (Q:=λx=>Me nodeB x=true->Me no7 (sortT x)=Me no7 x) (λk t ks xs ih hx=>by
  obtain⟨hn,hxs⟩:=Bh hx;have hs:(Ff xs).all (Me no7)=xs.all (Me no7):=by
    rw[Qh,List.all_map,Bool.eq_iff_iff,List.all_eq_true,List.all_eq_true];refine⟨λg y hy=>?_,λg y hy=>?_⟩
    ·have:=g y hy;simp only[Function.comp_apply]at this;rwa [ih y hy (hxs y hy)]at this
    simp only[Function.comp_apply];rw[ih y hy (hxs y hy)];exact g y hy
  rw[Tw];split
  ·rename_i h6
   subst h6;obtain⟨nd,len⟩:=Wv hn;rw[Me,Me,Nl,Nl,all_perm _ (UF nd len),hs];rfl
  rw[Me, Me, Nl, Nl, hs];rfl) x
theorem Su(x:Tree):Pf x=(Qg x&&Me no7 x):=by
  have h:Me rnodeB x=(Me no7 x&&Me nodeB x):=allT_and no7 nodeB x;rw[Pf,Qg,h];cases Km x <;> cases Me no7 x <;> simp
theorem Sp{x:Tree}(h:Pf x=true):Qg x=true:=by
  rw[Su,Bool.and_eq_true]at h;exact h.1
theorem HY:Qg zeroT=false:=by kernel_rfl
theorem Ap(x:Tree):Pf (Ae x)=Pf x:=by
  by_cases h:Qg x=true
  ·rw[Zq h,Su,Su,OX h,h,no7_sort x (Hk h)]
  rw[Ae,if_neg h,Su,Su,HY,Bool.eq_false_iff.2 h];rfl
theorem YH(x:Tree)(h:Nb x<=1000000000):Nb (Ae x)<=1000000000:=by
  by_cases ho:Qg x=true
  ·rw[Zq ho,(LC x (Hk ho)).1];exact h
  rw[Ae,if_neg ho];decide
theorem X4(x:Tree):Kd (Ae x)<=Kd x:=by
  by_cases ho:Qg x=true
  ·rw[Zq ho];exact max_sort x
  rw[Ae, if_neg ho];have:Kd zeroT=0:=by decide
  omega
def RH:Bool->List Str->Nat
  | _,[]=>0
  | b,p::ps=>(if b then 0 else 1)+(p.length+RH false ps)
theorem VT:∀(ps:List Str),RH false ps=(ps.map λp=>p.length+1).sum
  | []=>rfl
  | p::ps=>by rw[RH,VT ps,List.map_cons,List.sum_cons];simp;omega
theorem FY:∀(ps:List Str),RH true ps=(ps.map λp=>p.length+1).sum-1
  | []=>rfl
  | p::ps=>by rw[RH,VT ps,List.map_cons,List.sum_cons];simp
theorem WA(d:Nat):∀(ps:List Str)(b:Bool),(Qi false 0 d b ps).length=RH b ps
  | [],b=>by rw[Qi,RH];rfl
  | p :: ps, b => by
    rw[Qi,RH];have h:=WA d ps false;have h2:Nh false 0 (d+1)=[]:=rfl;rw[h2];simp only[dQ,List.length_nil,h];cases b <;> simp
theorem Zt(d:Nat)(o c:UInt8)(ps:List Str):(Im false 0 d o c ps).length=2+((ps.map λp=>p.length+1).sum-1):=by
  rw[Im];have h2:Nh false 0 d=[]:=rfl;rw[h2,ite_self];simp only[dQ,kQ,List.length_nil,WA,FY];omega
def WR(d:Nat)(k:Str)(y:Tree):Nat:=(M_ false 0 d k y).length+1
theorem E8(d:Nat):∀(ks:List Str)(xs:List Tree),ks.length=xs.length->((Em false 0 xs ks d).map λp=>p.length+1).sum=((ks.zip xs).map λq=>WR d q.1 q.2).sum
  | [],[],_=>by simp[Em]
  | k :: ks, x :: xs, h => by
    rw[Em,List.map_cons,List.sum_cons,List.zip_cons_cons,List.map_cons,List.sum_cons];have:=E8 d ks xs (by simpa using h);rw[List.tail_cons,this];rfl
theorem zip_look{ks:List Str}{xs:List Tree}(nd:ks.Nodup)(len:ks.length=xs.length):ks.zip xs=ks.map λkey=>(key,(Ig ks xs key).getD (.node 0 [] [] [])):=by
  refine List.ext_getElem (by simp[len]) λi h1 h2=>?_;simp only[rQ]at h2;rw[List.getElem_zip,List.getElem_map,KA nd h2 Aa];rfl
theorem ID(x:Tree):Me nodeB x=true->∀d,(Ag false 0 (sortT x) d).length=(Ag false 0 x d).length:=Tree.ind (Q:=λx=>Me nodeB x=true->∀d,(Ag false 0 (sortT x) d).length=(Ag false 0 x d).length) (λk t ks xs ih hx d=>by
  obtain⟨hn,hxs⟩:=Bh hx;rw[Tw];by_cases h6:k=6
  ·subst h6
   rw[if_pos rfl];obtain⟨nd,len⟩:=Wv hn;rw[Ag,Ag];simp only[if_neg (by decide:¬(6:Int)=1),if_neg (by decide:¬(6:Int)=4),if_neg (by decide:¬(6:Int)=5),if_true];rw[Zt,Zt]
   congr 2
   rw[E8 _ _ _ (by rw[Tf,Fo]),E8 _ _ _ len,zip_look nd len];have e1:(Bg ks).zip (By ks xs)=(Bg ks).map λkey=>(key,(Ig ks (Ff xs) key).getD (.node 0 [] [] [])):=by
     rw[By];refine List.ext_getElem Oa λi h1 h2=>?_;rw[List.getElem_zip,List.getElem_map,List.getElem_map]
   rw[e1,List.map_map,List.map_map];have e2:((Bg ks).map ((λq:Str × Tree=>WR (d+1) q.1 q.2) ∘ λkey=>(key,(Ig ks (Ff xs) key).getD (.node 0 [] [] [])))).sum=(ks.map ((λq:Str × Tree=>WR (d+1) q.1 q.2) ∘ λkey=>(key,(Ig ks (Ff xs) key).getD (.node 0 [] [] [])))).sum:=((Un ks).map _).sum_nat;rw[e2]
   congr 1
   refine List.map_congr_left λkey hk=>?_;obtain⟨y,hy⟩:=PZ len hk;simp only[Function.comp_apply,SE,hy,Option.map_some,Option.getD_some,WR,M_,dQ];rw[ih y (Fp hy) (hxs y (Fp hy)) (d+1)]
  rw[if_neg h6, Ag, Ag];split
  ·rfl
  split
  ·rfl
  split
  ·rw[Zt, Zt, Lo, Lo, Qh, List.map_map, List.map_map, List.map_map]
   congr 3
   refine List.map_congr_left λy hy=>?_;simp only[Function.comp_apply];rw[ih y hy (hxs y hy) (d+1)]
  rfl) x
theorem G5(x:Tree):(Sm (Ae x)).length=(Sm x).length:=by
  rw[Sm,Sm,Ap];split
  ·rename_i h
   have ho:=Sp h;rw[Zq ho];exact ID x (Hk ho) 0
  rfl
open Go.RowKit
structure Sd where
  has:Bool
  val:Tree
structure Cf where
  path:List Str
  cls:Int
  b:Sd
  l:Sd
  r:Sd
def noS:Sd:=⟨false,zeroT⟩
def Hq(n:Nat):Str:=Rg (Kw n)
def SK(n:Nat):Tree:=.node 7 (Hq n) [] []
def Bl(s:Sd):Sd:=if s.has=true then ⟨true,Vv s.val⟩ else noS
def Lk(c:Cf)(p:Int):Sd × Bool:=if p=0 then (Bl c.b,true) else if p=1 then (Bl c.l,true) else if p=2 then (Bl c.r,true) else (noS,false)
mutual
def Hh:Tree->List Str
  | .node k t _ xs=>(if k=7 then [t] else [])++Cj xs
def Cj:List Tree->List Str
  | []=>[]
  | x::xs=>Hh x++Cj xs
end
def Q3(s:Sd)(cls:Int):Bool:=!s.has || (Pf s.val&&(decide (cls≠5) || decide (s.val.kind=5)))
def U_(c:Cf):Bool:=Q3 c.b c.cls&&(Q3 c.l c.cls&&Q3 c.r c.cls)
def noC:Cf:=⟨[],0,noS,noS,noS⟩
def Es(v:Tree)(l:List Cf)(pick:List Int):Bool :=
  decide (l.length=pick.length)&&(decide ((Hh v).eraseDups.length=l.length) &&
    (List.range l.length).all λi=>decide ((Hh v).count (Hq i)=1)&&(U_ (l.getD i noC)&&(Lk (l.getD i noC) (pick.getD i 0)).2))
def Tj(v:Tree):Int:=if v.kind≠7 then -1 else if (Kc v.text).2≠0 then -1 else (Vr (Kc v.text).1).1
def Ku(l:List Cf)(pick:List Int)(i:Int):Sd:=(Lk (l.getD i.toNat noC) (pick.getD i.toNat 0)).1
def Xt(l:List Cf)(k:Int)(key:Str)(h:Int)(s:Sd):List Str × List Tree :=
  if s.has=true then
    if k=6 then ([key],[s.val])
    else if 0<=h/\(l.getD h.toNat noC).cls=5 then ([],s.val.items)
    else ([],[s.val])
  else ([],[])
mutual
def Rf(l:List Cf)(pick:List Int):Tree->Sd
  | .node k t ks xs =>
    if 0<=Tj (.node k t ks xs) then Ku l pick (Tj (.node k t ks xs))
    else ⟨true,.node k t (Hj l pick k ks xs).1 (Hj l pick k ks xs).2⟩
def Hj(l:List Cf)(pick:List Int)(k:Int):List Str->List Tree->List Str × List Tree
  | _,[]=>([],[])
  | ks, x :: xs =>
    let a:=Xt l k (ks.headD []) (Tj x) (Rf l pick x)
    let b:=Hj l pick k ks.tail xs
    (a.1++b.1,a.2++b.2)
end
def Fl(v:Tree)(l:List Cf)(pick:List Int):Tree × Int :=
  if Qg v=true/\Es v l pick=true then
    let s:=Rf l pick v
    if s.has=true then (if Pf s.val=true then (s.val,0) else (zeroT,1)) else (zeroT,8)
  else (zeroT,1)
def numOk(i:Nat):Bool:=decide ((Kc (Hq i)).2=0)&&(decide ((Kc (Hq i)).1=Kw i)&&(decide (Vr (Kw i)=((i:Int),true))&&decide ((Hq i).length<=20)))
theorem num_all:(List.range 1000).all numOk=true:=by kernel_rfl
theorem num_is{i:Nat}(h:i<1000):(Kc (Hq i)).2=0/\(Kc (Hq i)).1=Kw i/\Vr (Kw i)=((i:Int),true)/\(Hq i).length<=20:=by
  have:=List.all_eq_true.1 num_all i (List.mem_range.2 h);simpa[numOk]using this
theorem RN{i:Nat}(h:i<1000):Tj (SK i)=i:=by
  obtain⟨h1,h2,h3,-⟩:=num_is h;show (if (7:Int)≠7 then (-1:Int) else if (Kc (Hq i)).2≠0 then -1 else (Vr (Kc (Hq i)).1).1)=_;rw[if_neg Ua,if_neg (by rw[h1];decide),h2,h3]
theorem Mt(v:Tree):Ec v.items+1<=Nb v:=by cases v;rw[Nb];simp only[Tree.items];omega
theorem YB{M:Nat}{x:Tree}(h:Kd x<=M):∀y∈x.items,Kd y<=M:=λy hy=>by
  cases x with
  | node k t ks xs =>
    have:=Oj (show y∈xs from hy);rw[Kd]at h;omega
theorem BL{M:Nat}{x:Tree}(h:Kd x<=M):∀k∈x.keys,k.length<=M:=λk hk=>by
  cases x with
  | node _ t ks xs =>
    have:=Hl (show k∈ks from hk);rw[Kd]at h;omega
def SdR(s:Sd):Prop:=s=noS\/(s.has=true/\Pf s.val=true)
def CfR(c:Cf):Prop:=SdR c.b/\SdR c.l/\SdR c.r/\(c.cls=5->c.b.val.kind=5/\c.l.val.kind=5/\c.r.val.kind=5)/\1<=c.cls/\c.cls<=6
theorem Yo:∀xs:List Tree,Cj xs=xs.flatMap Hh
  | []=>rfl
  | x::xs=>by rw[Cj,Yo xs,List.flatMap_cons]
open Go.RowKit Go.Proofs Go.Proofs.Tryz
def TK(b:Bool):D:=.lit (.bool b)
def Le(s:Sd):D:=.agg [TK s.has,Ob s.val]
def HA(c:Cf):D:=.agg [Oh c.path,Gj c.cls,Le c.b,Le c.l,Le c.r]
theorem Ky(s:Sd):Wd (Le s)=5:=by
  have:=Hc s.val;simp only[Le,Wd,Wd.sizeL,this,TK]
theorem AZ(c:Cf):Wd (HA c)=17:=by
  simp only[HA,Wd,Wd.sizeL,Ky,Oh,Gj]
section
variable {S:Nat->Prop}{w:World}
end
section
variable {S:Nat->Prop}{w w' w0:World}{Ds E:List Nat}{pre post bs_ sm sm1:List (Nat × Obj)}{pb:Nat}{RV:Value}{cfs:List Cf}
theorem Rep.side_inv{s:Sd}{cs:List Value}(h:Rep S w (Le s) cs):∃ct,cs=.bool s.has::ct/\Rep S w (Ob s.val) ct:=by
  unfold Le at h;rw[Rep]at h;obtain⟨c1,c2,rfl,h1,h2⟩:=RepL.cons_inv h;obtain⟨c3,c4,rfl,h3,h4⟩:=RepL.cons_inv h2;obtain rfl:=RepL.nil_inv h4;unfold TK at h1;rw[Rep]at h1;obtain⟨rfl,-⟩:=h1;exact⟨c3,by simp,h3⟩
theorem Rep.side_mk{s:Sd}{ct:List Value}(h:Rep S w (Ob s.val) ct):Rep S w (Le s) (.bool s.has::ct):=by
  unfold Le;rw[Rep];have h1:Rep S w (TK s.has) [.bool s.has]:=by unfold TK;rw[Rep];exact XO
  have:=RepL.cons_mk h1 (RepL.cons_mk h RepL.nil_mk);simpa using this
theorem Ml:Rep S w (Le noS) [.bool false,J 0,I [],aQ,aQ]:=Rep.side_mk (s:=noS) (An S w)
structure Tv where
  k:Int
  t:Str
  A:Option Addr
  n:Nat
  c:Nat
  B:Option Addr
  m:Nat
  e:Nat
structure Sv where
  h:Bool
  v:Tv
abbrev Tv.cells(x:Tv):List Value:=[J x.k,I x.t,.slice x.A x.n x.c,.slice x.B x.m x.e]
abbrev Sv.cells(x:Sv):List Value:=[.bool x.h,J x.v.k,I x.v.t,.slice x.v.A x.v.n x.v.c,.slice x.v.B x.v.m x.v.e]
abbrev th(x y z:Sv):List Value:=[.bool x.h,J x.v.k,I x.v.t,.slice x.v.A x.v.n x.v.c,.slice x.v.B x.v.m x.v.e,.bool y.h,J y.v.k,I y.v.t,.slice y.v.A y.v.n y.v.c,.slice y.v.B y.v.m y.v.e,.bool z.h,J z.v.k,I z.v.t,.slice z.v.A z.v.n z.v.c,.slice z.v.B z.v.m z.v.e]
def C4:Tv:=⟨0,[],none,0,0,none,0,0⟩
theorem Vg{y:Tree}{cs:List Value}(h:Rep S w (Ob y) cs):∃x:Tv,cs=x.cells/\x.k=y.kind/\x.t=y.text/\x.n=y.keys.length/\x.m=y.items.length:=by
  obtain⟨k,t,ks,xs⟩:=y;obtain⟨A,c,B,e,rfl,-,-,-,-⟩:=h.tree_inv;exact⟨⟨k,t,A,ks.length,c,B,xs.length,e⟩,O,O,O,O,O⟩
theorem Ji{S:Nat->Prop}{w:World}{t:Tree}{x:Tv}(h:Rep S w (Ob t) x.cells):x.k=t.kind/\x.t=t.text/\x.n=t.keys.length/\x.m=t.items.length/\Rep S w (Oh t.keys) [.slice x.A x.n x.c]/\Rep S w (.slice (Fe t.items)) [.slice x.B x.m x.e]:=by
  obtain⟨k,s,ks,xs⟩:=t;obtain⟨A,c,B,e,hq,-,-,h3,h4⟩:=h.tree_inv;simp only[Tv.cells,List.cons.injEq,Value.int.injEq,Value.string.injEq,Value.slice.injEq,true_and,and_true]at hq;obtain⟨e1,e2,e3,e4⟩:=hq;refine⟨e1,bs_inj.1 e2,e3.2.1,e4.2.1,?_,?_⟩
  ·rw[e3.1,e3.2.1,e3.2.2];exact h3
  rw[e4.1,e4.2.1,e4.2.2];exact h4
theorem Ow{s:Sd}{cs:List Value}(h:Rep S w (Le s) cs):∃x:Sv,cs=x.cells/\x.h=s.has/\x.v.k=s.val.kind/\Rep S w (Ob s.val) x.v.cells:=by
  obtain⟨ct,rfl,h1⟩:=h.side_inv;obtain⟨x,rfl,h2,-⟩:=Vg h1;exact⟨⟨s.has,x⟩,O,O,h2,h1⟩
theorem Cd{s:Sd}{x:Sv}(h:Rep S w (Le s) x.cells):x.h=s.has/\x.v.k=s.val.kind/\x.v.n=s.val.keys.length/\x.v.m=s.val.items.length/\Rep S w (Ob s.val) x.v.cells:=by
  obtain⟨ct,e,h1⟩:=h.side_inv;obtain⟨y,rfl,h2,-,h3,h4⟩:=Vg h1;simp only[List.cons.injEq,Value.bool.injEq,Value.int.injEq,true_and,Value.slice.injEq]at e;obtain⟨e0,e1,e2,e3,e4,-⟩:=e;refine⟨e0,e1.trans h2,e3.2.1.trans h3,e4.2.1.trans h4,?_⟩;have:x.v.cells=y.cells:=by simp only[Tv.cells,e1,e2,e3.1,e3.2.1,e3.2.2,e4.1,e4.2.1,e4.2.2]
  rw[this];exact h1
theorem Xx{s:Sd}{x:Tv}(h:Rep S w (Ob s.val) x.cells):Rep S w (Le s) (Sv.mk s.has x).cells:=Rep.side_mk h
theorem FR.part{bs_:List (Nat × Obj)}(h:FR w0 Ds bs_ w)(i off:Nat){b:Nat}{l l':List Value}{T:TypeId}{fz:Nat × Nat}(hi:bs_[i]? = some (b,.cells l.toArray T fz))(hl:(l.drop off).take l'.length=l') :
    ∀j (hj:j<l'.length),w.cell? ((⟨b,off,none⟩:Addr).add j)=some l'[j]:=λj hj=>by
  have e:(⟨b,off,none⟩:Addr).add j=⟨b,off+j,none⟩:=by unfold Addr.add;split <;> simp_all
  rw[e,Zc (h.heap hi) (off+j)];have h1:(l.drop off)[j]? = some l'[j]:=by
    have:((l.drop off).take l'.length)[j]? = some l'[j]:=by rw[hl];exact List.getElem?_eq_getElem hj
    rw[List.getElem?_take,if_pos hj]at this;exact this
  rw[List.getElem?_drop]at h1;simpa using h1
theorem FR.rowS{w0 w:World}{E:List Nat}{bs_:List (Nat × Obj)}{S:Nat->Prop}{ds:List D}{l:List Value}(hF:FR w0 E bs_ w)(k:Nat){b n:Nat}{T:TypeId}(hi:bs_[k]? = some (b,.cells l.toArray T))(hr:RepL S w ds l)(hn:ds.length=n)(hm:n<=9223372036854775807):Rep (λx=>S x\/x=b) w (.slice ds) [.slice (some ⟨b,0,none⟩) n n] :=
  Rep.slice_mk hn.symm (gQ _) hm λ_=>⟨_,rfl,l,λj hj=>⟨hF.cellsAll k hi j hj,.inr rfl⟩,RepL.weaken (λ_ h _=>.inl h) hr⟩
theorem FR.repE{w0 w:World}{Dz:List Nat}{bs_:List (Nat × Obj)}{S:Nat->Prop}{d:D}{cs:List Value}(hF:FR w0 Dz bs_ w)(hS:∀b,S b->b<w0.heap.size/\b∉Dz)(h:Rep S w0 d cs):Rep S w d cs:=h.same hF.same λb hb hs=>(hS b hs).2 hb
theorem Rep.low{S:Nat->Prop}{w:World}{d:D}{cs:List Value}(h:Rep S w d cs):Rep (λb=>b<w.heap.size) w d cs:=h.weaken λ_ _ hl=>hl
def wE(w:World):World:={ w with heap:=#[] }
theorem RX.base{i:List Nat}{ds:List D}{cs:List Value}{u:World}(h:RX w0 i w ds cs)(hu:u.heap.size<=w0.heap.size):RX u i w ds cs:=RepL.weaken (λ_ hb _=>⟨fQ hu hb.1,hb.2⟩) h
theorem RX.empty{i:List Nat}{ds:List D}{cs:List Value}(h:RX w0 i w ds cs)(u:World):RX (wE u) i w ds cs:=h.base (Nat.zero_le _)
def ids(sm:List (Nat × Obj)):List Nat:=sm.map (·.1)
theorem RX.grow{u w w':World}{i:List Nat}{sl sl':List (Nat × Obj)}{ds:List D}{cs:List Value}(h:RX u i w ds cs)(hE:Same (sl.map (·.1)) w w')(hn:∀p∈sl',p.1∈sl.map (·.1)\/w.heap.size<=p.1)(hi:∀x∈sl.map (·.1),x∈i):RX u (i++ids sl') w' ds cs :=
  h.step hE hi λx hx=>by
    rcases mQ.1 hx with h1|h1
    ·exact .inl h1
    obtain⟨p, hp, rfl⟩ := nQ.1 h1;rcases hn p hp with h2|h2
    ·exact .inl (hi _ h2)
    exact .inr h2
structure Mx (i:List Nat) (w:World) (sm:List (Nat × Obj)) (pb:Nat) (RV:Value) (cfs:List Cf):Prop where
  ex:∃(A:Option Addr)(c:Nat)(sl:List (Nat × Obj))(vals:List Value),sm=(pb,.cells #[RV,.slice A cfs.length c] 0)::sl/\SlB 40 17 A cfs.length c vals sl/\RX (wE w) i w (cfs.map HA) vals
section
variable {i i':List Nat}
theorem Mx.step(h:Mx i w sm pb RV cfs)(hs:Same E w w')(he:∀b∈E,b∈i)(hi:∀x∈i',x∈i\/w.heap.size<=x):Mx i' w' sm pb RV cfs:=by
  obtain⟨A,c,sl,vals,h1,h2,h3⟩:=h.ex;exact⟨A,c,sl,vals,h1,h2,(h3.step hs he hi).empty w'⟩
theorem Mx.ext(h:Mx i w sm pb RV cfs)(hs:Same [] w w'):Mx i w' sm pb RV cfs:=h.step hs Oa (λ_ hx=>.inl hx)
theorem Mx.store(h:Mx i w sm pb RV cfs)(hs:Same E w w')(he:∀b∈E,b∈i):Mx i w' sm pb RV cfs:=h.step hs he (λ_ hx=>.inl hx)
theorem Mx.alloc{b:Nat}(h:Mx i w sm pb RV cfs)(hs:Same [] w w')(hb:b=w.heap.size):Mx (b::i) w' sm pb RV cfs :=
  h.step hs Oa (λx hx=>by rcases oQ.1 hx with rfl|hx;exact .inr Aa;exact .inl hx)
theorem Mx.sub(h:Mx i w sm pb RV cfs)(hi:∀x∈i',x∈i):Mx i' w sm pb RV cfs:=h.step (Same.refl [] w) Oa (λx hx=>.inl (hi x hx))
theorem SlB.typ1{e m n c:Nat}{A:Option Addr}{xs:List Value}{sb:List (Nat × Obj)}(h:SlB e m A n c xs sb):sb.length<=1/\∀q∈sb,∃cur,q.2=.cells cur e:=by
  rcases h.2 with ⟨-,-,rfl⟩|⟨g,cur,-,rfl,-⟩
  ·exact⟨by simp,λq hq=>by cases hq⟩
  exact⟨by simp,λq hq=>by simp only[pQ]at hq;subst hq;exact⟨cur,rfl⟩⟩
theorem Mx.pw(h:Mx i w sm pb RV cfs)(hh:∀q∈sm,w.heap[q.1]? = some q.2):sm.Pairwise (λp q=>q.1≠p.1):=by
  obtain⟨A,c,sl,vals,rfl,h2,-⟩:=h.ex;refine List.pairwise_cons.2 ⟨λq hq e=>?_,h2.pw⟩;obtain⟨cur,e2⟩:=h2.typ1.2 q hq;have h5:=hh q (by simp[hq]);have h6:=hh _ List.mem_cons_self;have e':q.1=pb:=e;rw[e',h6,e2]at h5;have:=lQ h5;simp at this
theorem Mx.start(h:Mx i w sm pb RV cfs)(hh:∀q∈sm,w.heap[q.1]? = some q.2):FR w (ids sm) ([]++(sm++[])) w:=by
  rw[List.nil_append,qQ];exact⟨.refl _ _,λq hq=>⟨hh q hq,.inr (List.mem_map_of_mem hq)⟩,h.pw hh⟩
theorem Mx.box(h:Mx i w sm pb RV cfs)(hh:∀q∈sm,w.heap[q.1]? = some q.2):∃(A:Option Addr)(c:Nat),w.heap[pb]? = some (.cells #[RV,.slice A cfs.length c] 0):=by
  obtain⟨A,c,sl,vals,rfl,-,-⟩:=h.ex;exact⟨A,c,hh _ List.mem_cons_self⟩
structure Mc (w:World) (sm:List (Nat × Obj)) (w':World) (sm':List (Nat × Obj)):Prop where
  same:Same (ids sm) w w'
  fresh:∀q∈sm',w.heap.size<=q.1\/q.1∈ids sm
theorem FR.segs_of(hF:FR w0 Ds (pre++(sm++post)) w):∀q∈sm,w.heap[q.1]? = some q.2/\(w0.heap.size<=q.1\/q.1∈Ds):=λq hq=>hF.own q (by simp[hq])
theorem FR.hh(hF:FR w0 Ds bs_ w)(hsp:Spl bs_ pre sm post:=by repeat (first|exact Spl.z|apply Spl.c|apply Spl.a)):∀q∈sm,w.heap[q.1]? = some q.2:=by
  rw[hsp.eq]at hF;exact λq hq=>(hF.segs_of q hq).1
def Nq(w:World)(sm':List (Nat × Obj))(w':World)(x:Nat):Prop:=Btw w w' x/\x∉ids sm'
theorem RX.swap{j:List Nat}{u:World}{ds:List D}{cs:List Value}(h:RX u i w ds cs)(hE:Mc w sm w' sm1)(hi:∀x∈ids sm,x∈i)(hj:∀x∈j,x∈i\/x∈ids sm1):RX u j w' ds cs :=
  h.step hE.same hi λx hx=>by
    rcases hj x hx with h1|h1
    ·exact .inl h1
    obtain⟨q, hq, rfl⟩ := nQ.1 h1;rcases hE.fresh q hq with h2|h2
    ·exact .inr h2
    exact .inl (hi _ h2)
theorem RX.nq{d:D}{cs:List Value}(h:RX w0 i w [d] cs)(hi:∀x∈ids sm,x∈i):Rep (Nq w0 sm w) w d cs:=h.rep.weaken λ_ hb _=>⟨⟨hb.1,hb.2.1,hb.2.2.2⟩,λhm=>hb.2.2.1 (hi _ hm)⟩
def Off(S:Nat->Prop)(w0:World)(sm:List (Nat × Obj)):Prop:=∀b,S b->b<w0.heap.size/\b∉ids sm
theorem Off.or{S':Nat->Prop}(h:Off S w sm)(h':Off S' w sm):Off (λb=>S b\/S' b) w sm:=λb hb=>hb.elim (h b) (h' b)
end
end
end Go.Scarf
namespace Go.Scarf
open Go.RowKit Go.Proofs Go.Proofs.Tryz
set_option maxRecDepth 100000
section
variable {H:Type}{enc:TypeId × Value->H}{W:World}{base:Nat}{sp:Nat->Bool}{held:Bool}
open Go.ChangeShapes Go.WideShapes Go.ChangeAt Go.Lib Go.Shelf
theorem cs38:prog.cellsOf 38=5:=by kernel_rfl
theorem cs40:prog.cellsOf 40=17:=by kernel_rfl
theorem cs4:prog.cellsOf 4=1:=by kernel_rfl
theorem Vz{fuel:Nat}{cs:List Value}{x:DataW H × List MemPlace}(h:DataW.trod enc prog W base sp held fuel 38 cs=some x):∃q:Sd,Rep (λ_=>True) W (Le q) cs:=by
  obtain⟨xs,n,rfl,-,hcl,hxl,hf⟩:=DataW.trod_struct underlying38 h;have hcl':cs.length=5:=hcl.trans cs38;have get:∀(i:Nat)(hi:i<2),xs[i]? = some (xs[i]'(by rw[hxl];exact hi)):=λi hi=>List.getElem?_eq_getElem _;have h0:=(hf 0 _ rfl).trans (get 0 Aa);have h1:=(hf 1 _ rfl).trans (get 1 Aa);obtain⟨b,hb,-⟩:=DataW.trod_bool fX h0;obtain⟨t,ht⟩:=tree_of _ _ _ h1;have ht':Rep (λ_=>True) W (Ob t) ((cs.drop 1).take (prog.cellsOf 36)):=ht;have hb':(cs.drop 0).take (prog.cellsOf 4)=[.bool b]:=hb;refine⟨⟨b,t⟩,?_⟩;have e:cs=[.bool b]++(cs.drop 1).take (prog.cellsOf 36):=by
    rw[<-hb',cs4,cs36]
    match cs,hcl' with
    | [_,_,_,_,_],_=>rfl
  rw[e];exact Rep.side_mk (s:=⟨b,t⟩) ht'
theorem cf_of{fuel:Nat}{cs:List Value}{x:DataW H × List MemPlace}(h:DataW.trod enc prog W base sp held fuel 40 cs=some x):∃q:Cf,Rep (λ_=>True) W (HA q) cs:=by
  obtain⟨xs,n,rfl,-,hcl,hxl,hf⟩:=DataW.trod_struct underlying40 h;have hcl':cs.length=17:=hcl.trans cs40;have get:∀(i:Nat)(hi:i<5),xs[i]? = some (xs[i]'(by rw[hxl];exact hi)):=λi hi=>List.getElem?_eq_getElem _;have h0:=(hf 0 _ rfl).trans (get 0 Aa);have h1:=(hf 1 _ rfl).trans (get 1 Aa);have h2:=(hf 2 _ rfl).trans (get 2 Aa);have h3:=(hf 3 _ rfl).trans (get 3 Aa);have h4:=(hf 4 _ rfl).trans (get 4 Aa);obtain⟨a,ha⟩:=Lz (g:=Vl) cX cs9 (λn _ cs x h=>V5 h) h0;obtain⟨k,hk⟩:=KR h1;obtain⟨b,hb⟩:=Vz h2;obtain⟨l,hl⟩:=Vz h3;obtain⟨r,hr⟩:=Vz h4;refine⟨⟨a,k,b,l,r⟩,?_⟩;have e:cs=(cs.drop 0).take (prog.cellsOf 33)++((cs.drop 1).take (prog.cellsOf 3)++((cs.drop 2).take (prog.cellsOf 38)++((cs.drop 7).take (prog.cellsOf 38)++((cs.drop 12).take (prog.cellsOf 38)++[])))):=by
    rw[show prog.cellsOf 33=1 by kernel_rfl,cs3,cs38]
    match cs,hcl' with
    | [_,_,_,_,_,_,_,_,_,_,_,_,_,_,_,_,_],_=>rfl
  rw[e];unfold HA;exact Rep.agg_mk (RepL.cons_mk ha (RepL.cons_mk hk (RepL.cons_mk hb (RepL.cons_mk hl (RepL.cons_mk hr RepL.nil_mk)))))
theorem open_cf{r:Reach}{b0:Nat}{v:Value}{d:DataW H}{q:List MemPlace}(hv:Value.okWide prog W r b0 40 v)(h:DataW.Trod enc prog W base sp held 40 v d q) :
    ∃(x:Cf)(cs:List Value),v=.agg cs.toArray/\Rep (λ_=>True) W (HA x) cs:=by
  obtain⟨cs,rfl,-⟩:=okWide_struct underlying40 hv;obtain⟨fuel,hf⟩:=h;obtain⟨t,ht⟩:=cf_of hf;exact⟨t,cs.toList,O,ht⟩
theorem WU{r:Reach}{b0:Nat}{v:Value}{d:DataW H}{q:List MemPlace}(hv:Value.okWide prog W r b0 38 v)(h:DataW.Trod enc prog W base sp held 38 v d q) :
    ∃(x:Sd)(cs:List Value),v=.agg cs.toArray/\Rep (λ_=>True) W (Le x) cs:=by
  obtain⟨cs,rfl,-⟩:=okWide_struct underlying38 hv;obtain⟨fuel,hf⟩:=h;obtain⟨t,ht⟩:=Vz hf;exact⟨t,cs.toList,O,ht⟩
theorem rec40:prog.readableRec 40=true:=by kernel_rfl
theorem row40:40<prog.types.size:=of_decide_eq_true Qb
theorem rec38:prog.readableRec 38=true:=by kernel_rfl
theorem row38:38<prog.types.size:=of_decide_eq_true Qb
end
end Go.Scarf
namespace Go.Scarf
open Go.RowKit Go.Proofs Go.Proofs.Tryz
def pretOk(x:Tree)(ind d:Int):Prop:=Pf x=true/\(0<=ind/\ind<=8)/\(0<=d/\d<=32)
instance (x:Tree) (ind d:Int):Decidable (pretOk x ind d):=by unfold pretOk;infer_instance
theorem NW{x:Tree}(h:Pf x=true)(hm:Kd x<=1073741824)(m:Bool)(ind d:Nat)(hi:ind<=8)(hd:d<=32):(Ag m ind x d).length<=140737488355328:=by
  have h1:=Kr h;have h2:=R2 m ind (Kd x) 64 x d (gQ _) Aa;have h3:Nb x<=4096:=JB (Sp h);have h4:ind*64<=8*64:=Nat.mul_le_mul_right _ hi;have h5:Nb x*(12*Kd x+40+2*(ind*64))<=4096*(12*1073741824+40+2*512):=Nat.mul_le_mul h3 Aa;omega
theorem comp_c(x:Tree)(S:Nat->Prop)(w0:World)(cs:List Value)(rx:Rep S w0 (Ob x) cs)(hG:Gl w0)(hsz:Nb x<=1000000000)(hm:Kd x<=1073741824):Calls prog 69 #[.agg cs.toArray] w0 (Yc λv w'=>v=.tuple #[I (Sm x),J (Is x)]/\Same [] w0 w'):=by
  refine Cm (XW x S w0 cs rx hG (Mn x Aa) (okQ_max x Aa) hsz (λh=>NW h hm _ _ _ Aa Aa)) λv w' ⟨h1,h2⟩=>⟨?_,h2⟩;rw[h1,Sm,Is];split <;> rfl
theorem DU(x:Tree)(S:Nat->Prop)(w0:World)(cs:List Value)(rx:Rep S w0 (Ob x) cs)(hG:Gl w0)(hsz:Nb x<=1000000000)(hm:Kd x<=1073741824):Calls prog 38 #[.agg cs.toArray] w0 (Yc λv w'=>v=.tuple #[I (Sm (Ae x)),J (Is (Ae x))]/\Same [] w0 w'):=by
 have hl:cs.length=4:=rx.length.trans (Hc x);have ho:=rx.one_;refine Fa func38 O ntmps38 Ab (Wb _) ?_;have hF:=FR.start w0 [];refine Ea (Pl (v:=.agg (List.toArray cs)) (cs:=(List.toArray cs)) hF O O ?_);rintro b1 w hb1 hF -;refine Ba (He O) (Ba (Fb O) (Lb (Ia (v:=.agg (List.toArray cs)) (Wa (l:=cs) aZ nZ O hl (hF.cellsAll 0 O)) ?_)));refine Eb (GX x hsz _ _ cs (hF.rep rx) (Mn x Aa) (hG.ext hF.same)) (Ma en_70 O O) ?_;rintro _ w ⟨c1,rfl,hRt,hE⟩;have hlc1:c1.length=4:=hRt.length.trans (Hc _);have hoc1:=hRt.one_;have hX1:=RX.made (ids:=[b1]) hF.same.size (λx hx=>hF.lt_ids (by grind)) hRt;have hF:=hF.ext hE;clear hE hRt;refine Pa hF (comp_c (Ae x) _ _ c1 hX1.rep (hG.ext hF.same) (YH x hsz) (fQ (X4 x) hm)) (Ma en_69 O O) ?_;intro w hF;refine Ba (Ly O O) (Ba (Rj O O) (Ba (He O) (Ba (Fb O) (Da ?_))));refine Db (Cb (La (Oc (v:=I (Sm (Ae x))) (x:=J (Is (Ae x))) O O O) ?_));exact⟨O,hF.same⟩
def nq(q:Bool)(c:UInt8):Bool:=if c=34 then !q else q
def MI(q:Bool)(c:UInt8)(l:Str):Str:=if nq q c=true\/(c≠32/\c≠10) then c::l else l
def Pp:Bool->Str->Str
  | _,[]=>[]
  | q,[c]=>MI q c []
  | q,c::d::r=>if q=true/\c=92 then c::d::Pp q r else MI q c (Pp (nq q c) (d::r))
theorem x_convSl{P:Program}{w0 w:World}{Ds:List Nat}{ρ:Operand->Value}{dst:Option Nat}{ty:TypeId}{pos:String}{aft:Array Edge}{g:Option (Nat × Bool)}{t t':Nat}{x:Operand}{A:Option Addr}{c:Nat}{s:Str}{pre post sb:List (Nat × Obj)}
    (hS:SlB 5 1 A s.length c (Lib.byteCells s) sb) (hF:FR w0 Ds (pre++(sb++post)) w) (ht:P.underlying t=some (.slice 5)) (he:P.underlying 5=some (.int .u8)) (hd:P.underlying t'=some .string) (hx:ρ x=.slice A s.length c) :
    (execOp ρ ⟨dst,.convert t t' x,ty,pos,aft,g⟩).run P w=.ok (.value (I s)) w:=by
  cases A with
  | some a=>exact ZH s ht he hd hx rfl λj hj=>hS.cells hF a rfl j _ (by simp[Lib.byteCells,hj])
  | none =>
    have h0:s.length=0:=by
      rcases hS.2 with ⟨h,-⟩|⟨g,cur,h,-⟩
      ·exact h
      cases h
    obtain rfl:=List.eq_nil_of_length_eq_zero h0;have h:=Lib.run_convert_nil_bytes (P:=P) w t t' 5 c ht he hd;simp only[execOp,hx];rw[show (([]:Str).length)=0 from rfl,Sem.run_bind,h];rfl
def Bal(a b:Str):Prop:=∀r,Pp false (a++r)=b++Pp false r
def Inq(a:Str):Prop:=∀r,Pp true (a++r)=a++Pp true r
theorem UC{q:Bool}{c:UInt8}{r:Str}(h:¬(q=true/\c=92)):Pp q (c::r)=MI q c (Pp (nq q c) r):=by
  cases r with
  | nil=>rw[Pp,Pp]
  | cons d r=>rw[Pp,if_neg h]
theorem Bal.nil:Bal [] []:=λ_=>rfl
theorem Bal.app{a b a' b':Str}(h:Bal a a')(k:Bal b b'):Bal (a++b) (a'++b'):=λr=>by rw[sQ,h,k,sQ]
theorem Inq.nil:Inq []:=λ_=>rfl
theorem Inq.app{a b:Str}(h:Inq a)(k:Inq b):Inq (a++b):=λr=>by rw[sQ,h,k,sQ]
theorem Bal.byte{c:UInt8}(h1:c≠34)(h2:c≠32)(h3:c≠10):Bal [c] [c]:=λr=>by
  show Pp false (c::r)=c::Pp false r;rw[UC Oa,MI,nq,if_neg h1,if_pos (.inr ⟨h2,h3⟩)]
theorem Bal.bytes:∀{a:Str},(∀c∈a,c≠34/\c≠32/\c≠10)->Bal a a
  | [],_=>Bal.nil
  | c :: a, h => by
    have h1:=h c Oa;exact (Bal.byte h1.1 h1.2.1 h1.2.2).app (Bal.bytes λd hd=>h d (by simp[hd]))
theorem Inq.byte{c:UInt8}(h1:c≠34)(h2:c≠92):Inq [c]:=λr=>by
  show Pp true (c::r)=c::Pp true r;rw[UC (λh=>h2 h.2),MI,nq,if_neg h1,if_pos (.inl rfl)]
theorem Inq.bytes:∀{a:Str},(∀c∈a,c≠34/\c≠92)->Inq a
  | [],_=>Inq.nil
  | c :: a, h => by
    have h1:=h c Oa;exact (Inq.byte h1.1 h1.2).app (Inq.bytes λd hd=>h d (by simp[hd]))
theorem LK{r:Int}(h:128<=r):∀x∈Lib.encodeRuneZ r,128<=x:=by
  intro x hx;by_cases h1:r<=2047
  ·rw[Lib.encodeRuneZ_two h h1]at hx;simp at hx;omega
  by_cases h2:(2048<=r/\r<55296)\/(57343<r/\r<=65535)
  ·rw[Lib.encodeRuneZ_three h2]at hx;simp at hx;omega
  by_cases h3:65536<=r/\r<=1114111
  ·rw[Lib.encodeRuneZ_four h3.1 h3.2]at hx;simp at hx;omega
  rw[Lib.encodeRuneZ_bad Aa]at hx;simp at hx;omega
def nl(s:Str):Nat:=s.count 10
def Ri(b:UInt8):Str:=if b.toNat<128 then Zu b.toNat else [b]
def Eu:Str->Str
  | []=>[]
  | b::s=>Ri b++Eu s
theorem C7:∀a b:Str,Eu (a++b)=Eu a++Eu b
  | [],b=>rfl
  | x::a,b=>by rw[List.cons_append,Eu,Eu,C7 a b,sQ]
theorem rune_one(r:Int):Lib.encodeRune r=Ai r:=rfl
theorem CB:∀{s:Str},(∀c∈s,128<=c.toNat)->Eu s=s
  | [],_=>rfl
  | c :: s, h => by
    have h1:=h c Oa;rw[Eu,Ri,if_neg Aa,CB λd hd=>h d (by simp[hd])];rfl
theorem esc_high{r:Nat}(h:128<=r):Zu r=Ai r:=by
  have h0:¬Ug (r:Int)≠0:=by
    unfold Ug
    repeat' split
    all_goals first|omega|simp
  rw[Zu,if_neg h0,if_pos Aa]
theorem GN{r:Nat}(h:128<=r):∀c∈Ai r,128<=c.toNat:=by
  intro c hc;obtain⟨x,hx,rfl⟩:=nQ.1 hc;have hb:=Lib.encodeRuneZ_byte _ x hx;have:=LK (by omega:(128:Int)<=r) x hx;simp only[UInt8.toNat_ofNat'];omega
theorem esc_rune(r:Nat):Zu r=Eu (Ai r):=by
  by_cases h:r<128
  ·have e:Ai (r:Int)=[UInt8.ofNat r]:=by
     rw[Ai,Lib.encodeRuneZ_one Aa Aa];simp
   have e2:(UInt8.ofNat r).toNat=r:=by simp only[UInt8.toNat_ofNat'];omega
   rw[e,Eu,Eu,Ri,e2,if_pos h,qQ]
  rw[esc_high Aa,CB (GN Aa)]
theorem BJ(s:Str)(p:Nat):Lib.validD (s.drop p)=true->Rv s p=Eu (s.drop p):=by
  induction h:s.length-p using Nat.strongRecOn generalizing p with
  | ind n ih =>
    intro hv;by_cases hp:p<s.length
    ·have hne : s.drop p ≠ [] := by intro e;have := congrArg List.length e;simp at this;omega
     rw[Lib.validD_step _ hne]at hv;split at hv
     ·cases hv
     rename_i hok
     have he:=Lib.encode_decode (s.drop p) hne hok;rw[Uk]at he hv;have h2:=Jg s p;rw[List.drop_drop]at hv;rw[Wp hp,ih (s.length-(p+(Utf8.decode (bs s) p).2)) Aa _ rfl hv,esc_rune,<-rune_one,he,<-List.drop_drop,<-C7,List.take_append_drop]
    rw[X2 hp,List.drop_eq_nil_of_le Aa];rfl
theorem QH{s:Str}(h:Lib.validD s=true):Py s=[34]++(Eu s++[34]):=by
  rw[Py,BJ s 0 (by simpa using h),List.drop_zero,sQ]
def ZF:Str->Bool
  | [c]=>decide (c≠92)&&decide (c≠34)
  | [a,c]=>decide (a=92)&&decide (c≠117)
  | [a,c,_,_,_,_]=>decide (a=92)&&decide (c=117)
  | _=>false
theorem QK:∀n<256,ZF (Ri (UInt8.ofNat n))=true:=by decide +kernel
theorem BP(b:UInt8):ZF (Ri b)=true:=by have:=QK b.toNat (UInt8.toNat_lt b);simpa using this
theorem GJ{p:Str}(h:ZF p=true):(∃c,p=[c]/\c≠92/\c≠34)\/(∃c,p=[92,c]/\c≠117)\/(∃a b c d,p=[92,117,a,b,c,d]):=by
  unfold ZF at h;split at h <;> simp_all
def Ends(r:Str):Prop:=∀c s,r=c::s->c=44\/c=93\/c=125
theorem Ends.nil:Ends []:=λc s h=>by cases h
theorem G4{k:Int}{t:Str}{ks:List Str}{xs:List Tree}(h:rnodeB (.node k t ks xs)=true) :
    (k=1/\t=[]/\ks=[]/\xs=[])\/(k=2/\(t=[116,114,117,101]\/t=[102,97,108,115,101])/\ks=[]/\xs=[])\/(k=3/\Pj t=true/\ks=[]/\xs=[]) \/
    (k=4/\Lib.validD t=true/\ks=[]/\xs=[])\/(k=5/\t=[]/\ks=[])\/(k=6/\t=[]/\ks.Nodup/\(∀x∈ks,Lib.validD x=true)/\ks.length=xs.length):=by
  unfold rnodeB at h;rw[Bool.and_eq_true,decide_eq_true_eq]at h;obtain⟨h7,h⟩:=h;have h7':k≠7:=h7;simp only[nodeB]at h;by_cases h5:k=5
  ·rw[if_pos h5]at h
   simp at h;exact .inr (.inr (.inr (.inr (.inl ⟨h5,h.2,h.1⟩))))
  rw[if_neg h5]at h;by_cases h6:k=6
  ·rw[if_pos h6]at h
   simp[Om]at h;exact .inr (.inr (.inr (.inr (.inr ⟨h6,h.2,h.1.1.1,h.1.1.2,by omega⟩))))
  rw[if_neg h6]at h;by_cases hh:ks≠[]\/xs≠[]
  ·rw[if_pos hh]at h;cases h
  rw[if_neg hh]at h;have hk:ks=[]:=Classical.byContradiction λhc=>hh (.inl hc);have hx:xs=[]:=Classical.byContradiction λhc=>hh (.inr hc);by_cases h1:k=1
  ·rw[if_pos h1]at h
   simp at h;exact .inl ⟨h1,h,hk,hx⟩
  rw[if_neg h1]at h;by_cases h2:k=2
  ·rw[if_pos h2]at h
   simp at h;exact .inr (.inl ⟨h2,h,hk,hx⟩)
  rw[if_neg h2]at h;by_cases h3:k=3
  ·rw[if_pos h3]at h
   exact .inr (.inr (.inl ⟨h3,h,hk,hx⟩))
  rw[if_neg h3]at h;by_cases h4:k=4
  ·rw[if_pos h4]at h
   exact .inr (.inr (.inr (.inl ⟨h4,h,hk,hx⟩)))
  rw[if_neg h4,if_neg h7']at h;cases h
open Go.RowKit
def Ud(s:Sd):Tree:=.node 5 [] [] (if s.has then [s.val] else [])
def Sq(s:Sd)(k:Int):Bool:=!s.has || (Pf s.val&&(decide (k≠5) || decide (s.val.kind=5)))
def Jk(c:Cf):Bool:=Sq c.b c.cls&&(Sq c.l c.cls&&(Sq c.r c.cls&&(decide (1<=c.cls)&&decide (c.cls<=6))))
def Qo(x y:Tree):Tree × Tree:=if Ke y x<0 then (y,x) else (x,y)
def Y_(k:Int):Tree:=.node 3 (Rg (Kw k)) [] []
def Po(c:Cf):Tree:=.node 5 [] [] [Y_ c.cls,Ud c.b,(Qo (Ud c.l) (Ud c.r)).1,(Qo (Ud c.l) (Ud c.r)).2]
def Uf(c:Cf):Str × Bool:=if Jk c=true then (Sm (Ae (Po c)),decide (Is (Ae (Po c))=0)) else ([],false)
def turnC(c:Cf):Cf:=⟨[],c.cls,c.b,c.r,c.l⟩
theorem OG(k:Int)(t:Str)(hk:-9223372036854775808<=k/\k<=9223372036854775807)(ht:t.length<=9223372036854775807)(w:World):Rep (λ_=>True) w (Ob (.node k t [] [])) [J k,I t,aQ,aQ]:=Rep.tree_mk (ks:=[]) (xs:=[]) hk ht (Rep.nil_slice 0 Aa none) (Rep.nil_slice 0 Aa none)
end Go.Scarf
