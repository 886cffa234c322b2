/- A part of the proof. -/
import Derived.Test.YtgkmigdopohcnaaGreatDoorBd
import Derived.Test.YtgkmigdopohcnaaGreatDoorP1
import Derived.Test.YtgkmigdopohcnaaGreatDoorRow
set_option linter.all false
set_option maxHeartbeats 8000000
set_option maxRecDepth 10000
namespace Go.Scarf
theorem UJ:∀{xs:List Tree},(∀x∈xs,HJ x)->GG xs
  | [],_=>by rw[GG];trivial
  | x::xs,h=>by rw[GG];exact⟨h x La,UJ (λy hy=>h y (by simp[hy]))⟩
mutual
def Id:Tree->Nat|.node _ t ks xs=>max t.length (max (Uj ks) (Qj xs))
def Qj:List Tree->Nat|[]=>0|x::xs=>max (Id x) (Qj xs)
def Uj:List Str->Nat|[]=>0|k::ks=>max k.length (Uj ks)
end
theorem Zm:∀{ks:List Str}{k:Str},k∈ks->k.length<=Uj ks
  | y :: ys, k, h => by
    rw[Uj];rcases oQ.1 h with rfl|h
    ·omega
    have:=Zm h;omega
theorem Mk:∀{xs:List Tree}{x:Tree},x∈xs->Id x<=Qj xs
  | y :: ys, k, h => by
    rw[Qj];rcases oQ.1 h with rfl|h
    ·omega
    have:=Mk h;omega
theorem Bw{n:Nat}:∀{ks:List Str},(∀k∈ks,k.length<=n)->Uj ks<=n
  | [],_=>by rw[Uj];omega
  | k :: ks, h => by
    rw[Uj];have h1:=h k La;have h2:=Bw (λy hy=>h y (by simp[hy]):∀k∈ks,k.length<=n);omega
theorem Nw{n:Nat}:∀{xs:List Tree},(∀x∈xs,Id x<=n)->Qj xs<=n
  | [],_=>by rw[Qj];omega
  | k :: ks, h => by
    rw[Qj];have h1:=h k La;have h2:=Nw (λy hy=>h y (by simp[hy]):∀x∈ks,Id x<=n);omega
theorem CW(x:Tree):Id x<=17592186044416->HJ x:=Tree.ind (Q:=λx=>Id x<=17592186044416->HJ x) (λk t ks xs ih h=>by
  rw[Id]at h;rw[HJ];exact⟨by omega,λk hk=>by have:=Zm hk;omega,UJ λy hy=>ih y hy (by have:=Mk hy;omega)⟩) x
theorem Al(x:Tree):Id x<=17592186044416->Co x:=Tree.ind (Q:=λx=>Id x<=17592186044416->Co x) (λk t ks xs ih h=>by
  rw[Id]at h;rw[Co];exact⟨by omega,λk hk=>by have:=Zm hk;omega,Vz λy hy=>ih y hy (by have:=Mk hy;omega)⟩) x
theorem CO(x:Tree):Gk x=true->Id x<=2048:=Tree.ind (Q:=λx=>Gk x=true->Id x<=2048) (λk t ks xs ih h=>by
  rw[Gk,Bool.and_eq_true,Bool.and_eq_true,decide_eq_true_eq,List.all_eq_true]at h;rw[Id];have h1:Uj ks<=2048:=Bw λk hk=>by have:=h.1.2 k hk;simp only[decide_eq_true_eq]at this;omega
  have key:∀ys:List Tree,(∀y∈ys,y∈xs)->Eo ys=true->Qj ys<=2048:=by
    intro ys
    induction ys with
    | nil=>intro _ _;rw[Qj];omega
    | cons y ys ihy =>
      intro hm hs;rw[Eo,Bool.and_eq_true]at hs;rw[Qj];have a:=ih y (hm y La) hs.1;have b:=ihy (λz hz=>hm z (by simp[hz])) hs.2;omega
  have h2:=key xs (λ_ h=>h) h.2;omega) x
theorem XT(x:Tree):Id (sortT x)<=Id x:=Tree.ind (Q:=λx=>Id (sortT x)<=Id x) (λk t ks xs ih=>by
  have hs:∀y∈Ve xs,Id y<=Qj xs:=by
    intro y hy;rw[Sh]at hy;obtain⟨z,hz,rfl⟩:=nQ.1 hy;exact fQ (ih z hz) (Mk hz)
  rw[sortT];split
  ·rw[Id, Id]
   have h1:Uj (Lj ks)<=Uj ks:=Bw λk hk=>Zm (Dt.1 hk);have h2:Qj ((Lj ks).map λkey=>(Lf ks (Ve xs) key).getD (.node 0 [] [] []))<=Qj xs:=Nw λy hy=>by
     obtain⟨key,_,rfl⟩:=nQ.1 hy;cases hl:Lf ks (Ve xs) key with
     | none=>simp[Id,Uj,Qj]
     | some z=>exact hs z (Ap hl)
   omega
  rw[Id, Id];have h2:=Nw hs;have h3:Uj []=0:=by rw[Uj]
  omega) x
theorem Xw(m:Bool)(ind d:Nat)(D:Nat)(hD:d+1<=D):∀(ps:List Str)(b:Bool),(Bl m ind d b ps).length<=(ps.map λp=>p.length+(2+ind*D)).sum
  | [],b=>by rw[Bl];simp
  | p :: ps, b => by
    have h1:=Xw m ind d D hD ps false;have h2:=Zw m ind (d+1);have h3:ind*(d+1)<=ind*D:=Nat.mul_le_mul_left _ hD;have h4:(if b=true then ([]:Str) else [44]).length<=1:=by split <;> simp
    rw[Bl,List.map_cons,List.sum_cons];simp only[dQ];omega
theorem E7(m:Bool)(ind L D:Nat)(x:Tree):∀d,Id x<=L->d+Hd x<=D->(Tg m ind x d).length+(6*L+6+ind*D)<=Mb x*(12*L+40+2*(ind*D)) :=
  Tree.ind (Q:=λx=>∀d,Id x<=L->d+Hd x<=D->(Tg m ind x d).length+(6*L+6+ind*D)<=Mb x*(12*L+40+2*(ind*D))) (λk t ks xs ih d hL hd=>by
  rw[Id]at hL;rw[Hd]at hd;have hq:=G7 t;have hl:=Zw m ind d;have hid:ind*d<=ind*D:=Nat.mul_le_mul_left _ Ba;have key1:∀ys:List Tree,(∀y∈ys,y∈xs)->((Po m ind ys (d+1)).map λp=>p.length+(2+ind*D)).sum<=Vb ys*(12*L+40+2*(ind*D)):=by
    intro ys
    induction ys with
    | nil=>intro _;simp[Po]
    | cons y ys ihy =>
      intro hm;have h1:=ih y (hm y La) (d+1) (by have:=Mk (hm y La);omega) (by have:=Ah (hm y La);omega);have h2:=ihy (λz hz=>hm z (by simp[hz]));rw[Po,List.map_cons,List.sum_cons,Vb,Nat.add_mul];omega
  have key2:∀(ys:List Tree)(js:List Str),(∀y∈ys,y∈xs)->(∀k∈js,k.length<=L)->((Tj m ind ys js (d+1)).map λp=>p.length+(2+ind*D)).sum<=Vb ys*(12*L+40+2*(ind*D)):=by
    intro ys
    induction ys with
    | nil=>intro _ _ _;simp[Tj]
    | cons y ys ihy =>
      intro js hm hj;have h1:=ih y (hm y La) (d+1) (by have:=Mk (hm y La);omega) (by have:=Ah (hm y La);omega);have h2:=ihy js.tail (λz hz=>hm z (by simp[hz])) (λk hk=>hj k (List.mem_of_mem_tail hk));have h3:(js.headD []).length<=L:=by
        cases js with
        | nil=>simp
        | cons a b=>exact hj a La
      have h4:=G7 (js.headD []);have h5:(if m=true then ([32]:Str) else []).length<=1:=by split <;> simp
      rw[Tj,List.map_cons,List.sum_cons,Vb,Nat.add_mul];simp only[dQ,kQ,List.length_nil];omega
  have fin:∀(o c:UInt8)(ps:List Str)(N:Nat),(xs=[]->ps=[])->(ps.map λp=>p.length+(2+ind*D)).sum<=N->(Ak m ind d o c ps).length+(6*L+6+ind*D)<=1*(12*L+40+2*(ind*D))+N:=by
    intro o c ps N he hN;have h5:(if ps=[] then ([]:Str) else Yk m ind d).length<=1+ind*D:=by
      split
      ·simp
      omega
    have h6:(Bl m ind d true ps).length<=N:=by
      by_cases hp:ps=[]
      ·subst hp;rw[Bl];simp
      have hx : xs ≠ [] := λh => hp (he h);have h7:1<=Wc xs:=by
        cases xs with
        | nil=>exact absurd rfl hx
        | cons a b => rw[Wc];have : 1 <= Hd a := by (obtain⟨_, _, _, _⟩ := a;rw[Hd];omega)
                      omega
      exact fQ (Xw m ind d D Ba ps true) hN
    rw[Ak];simp only[dQ,kQ,List.length_nil];omega
  rw[Tg,Mb,Nat.add_mul];split
  ·simp only[kQ,List.length_nil];omega
  split
  ·omega
  split
  ·exact fin _ _ _ _ (λh=>by rw[h,Po]) (key1 xs (λ_ h=>h))
  split
  ·exact fin _ _ _ _ (λh=>by rw[h,Tj]) (key2 xs ks (λ_ h=>h) (λk hk=>by have:=Zm hk;omega))
  omega) x
def Am(x:Tree):Str:=if Gf x=true then Tg false 0 x 0 else []
def Lw(x:Tree):Int:=if Gf x=true then 0 else 1
theorem Kk(q:Tree->Bool):∀xs:List Tree,Np q xs=xs.all (Td q)
  | []=>rfl
  | x::xs=>by rw[Np,Kk q xs];rfl
theorem PQ{α:Type}(q:α->Bool){xs ys:List α}(h:xs.Perm ys):xs.all q=ys.all q:=by
  rw[Bool.eq_iff_iff,List.all_eq_true,List.all_eq_true];exact⟨λg y hy=>g y (h.mem_iff.2 hy),λg y hy=>g y (h.mem_iff.1 hy)⟩
def NV(x:Tree):Bool:=decide (x.kind≠7)
theorem ZR(p q:Tree->Bool)(x:Tree):Td (λx=>p x&&q x) x=(Td p x&&Td q x):=Tree.ind (Q:=λx=>Td (λx=>p x&&q x) x=(Td p x&&Td q x)) (λk t ks xs ih=>by
  rw[Td,Td,Td,Kk,Kk,Kk];have h:xs.all (Td λx=>p x&&q x)=(xs.all (Td p)&&xs.all (Td q)):=by
    rw[Bool.eq_iff_iff,Bool.and_eq_true,List.all_eq_true,List.all_eq_true,List.all_eq_true];refine⟨λg=>⟨λy hy=>?_,λy hy=>?_⟩,λg y hy=>?_⟩
    ·have:=g y hy;rw[ih y hy,Bool.and_eq_true]at this;exact this.1
    ·have:=g y hy;rw[ih y hy,Bool.and_eq_true]at this;exact this.2
    rw[ih y hy,Bool.and_eq_true];exact⟨g.1 y hy,g.2 y hy⟩
  rw[h];cases p (.node k t ks xs) <;> cases q (.node k t ks xs) <;> simp) x
theorem PT(x:Tree):Td nodeB x=true->Td NV (sortT x)=Td NV x:=Tree.ind (Q:=λx=>Td nodeB x=true->Td NV (sortT x)=Td NV x) (λk t ks xs ih hx=>by
  obtain⟨hn,hxs⟩:=Tf hx;have hs:(Ve xs).all (Td NV)=xs.all (Td NV):=by
    rw[Sh,List.all_map,Bool.eq_iff_iff,List.all_eq_true,List.all_eq_true];refine⟨λg y hy=>?_,λg y hy=>?_⟩
    ·have:=g y hy;simp only[Function.comp_apply]at this;rwa [ih y hy (hxs y hy)]at this
    simp only[Function.comp_apply];rw[ih y hy (hxs y hy)];exact g y hy
  rw[Mt];split
  ·rename_i h6
   subst h6;obtain⟨nd,len⟩:=Cu hn;rw[Td,Td,Kk,Kk,PQ _ (V8 nd len),hs];rfl
  rw[Td, Td, Kk, Kk, hs];rfl) x
theorem Ss(x:Tree):Gf x=(Kg x&&Td NV x):=by
  have h:Td rnodeB x=(Td NV x&&Td nodeB x):=ZR NV nodeB x;rw[Gf,Kg,h];cases Bq x <;> cases Td NV x <;> simp
theorem Vq{x:Tree}(h:Gf x=true):Kg x=true:=by
  rw[Ss,Bool.and_eq_true]at h;exact h.1
theorem QN:Kg zeroT=false:=by kernel_rfl
theorem K9(x:Tree):Gf (Ae x)=Gf x:=by
  by_cases h:Kg x=true
  ·rw[Ko h,Ss,Ss,ON h,h,PT x (Sk h)]
  rw[Ae,if_neg h,Ss,Ss,QN,Bool.eq_false_iff.2 h];rfl
theorem PB(x:Tree)(h:Mb x<=1000000000):Mb (Ae x)<=1000000000:=by
  by_cases ho:Kg x=true
  ·rw[Ko ho,(Z5 x (Sk ho)).1];exact h
  rw[Ae,if_neg ho];decide
theorem UC(x:Tree):Id (Ae x)<=Id x:=by
  by_cases ho:Kg x=true
  ·rw[Ko ho];exact XT x
  rw[Ae, if_neg ho];have:Id zeroT=0:=by decide
  omega
def FB:Bool->List Str->Nat
  | _,[]=>0
  | b,p::ps=>(if b then 0 else 1)+(p.length+FB false ps)
theorem CL:∀(ps:List Str),FB false ps=(ps.map λp=>p.length+1).sum
  | []=>rfl
  | p::ps=>by rw[FB,CL ps,List.map_cons,List.sum_cons];simp;omega
theorem EN:∀(ps:List Str),FB true ps=(ps.map λp=>p.length+1).sum-1
  | []=>rfl
  | p::ps=>by rw[FB,CL ps,List.map_cons,List.sum_cons];simp
theorem O7(d:Nat):∀(ps:List Str)(b:Bool),(Bl false 0 d b ps).length=FB b ps
  | [],b=>by rw[Bl,FB];rfl
  | p :: ps, b => by
    rw[Bl,FB];have h:=O7 d ps false;have h2:Yk false 0 (d+1)=[]:=rfl;rw[h2];simp only[dQ,List.length_nil,h];cases b <;> simp
theorem Gq(d:Nat)(o c:UInt8)(ps:List Str):(Ak false 0 d o c ps).length=2+((ps.map λp=>p.length+1).sum-1):=by
  rw[Ak];have h2:Yk false 0 d=[]:=rfl;rw[h2,ite_self];simp only[dQ,kQ,List.length_nil,O7,EN];omega
def IL(d:Nat)(k:Str)(y:Tree):Nat:=(C9 false 0 d k y).length+1
theorem P2(d:Nat):∀(ks:List Str)(xs:List Tree),ks.length=xs.length->((Tj false 0 xs ks d).map λp=>p.length+1).sum=((ks.zip xs).map λq=>IL d q.1 q.2).sum
  | [],[],_=>by simp[Tj]
  | k :: ks, x :: xs, h => by
    rw[Tj,List.map_cons,List.sum_cons,List.zip_cons_cons,List.map_cons,List.sum_cons];have:=P2 d ks xs (by simpa using h);rw[List.tail_cons,this];rfl
theorem YQ{ks:List Str}{xs:List Tree}(nd:ks.Nodup)(len:ks.length=xs.length):ks.zip xs=ks.map λkey=>(key,(Lf ks xs key).getD (.node 0 [] [] [])):=by
  refine List.ext_getElem (by simp[len]) λi h1 h2=>?_;simp only[rQ]at h2;rw[List.getElem_zip,List.getElem_map,G6 nd h2 Ba];rfl
theorem M9(x:Tree):Td nodeB x=true->∀d,(Tg false 0 (sortT x) d).length=(Tg false 0 x d).length:=Tree.ind (Q:=λx=>Td nodeB x=true->∀d,(Tg false 0 (sortT x) d).length=(Tg false 0 x d).length) (λk t ks xs ih hx d=>by
  obtain⟨hn,hxs⟩:=Tf hx;rw[Mt];by_cases h6:k=6
  ·subst h6
   rw[if_pos rfl];obtain⟨nd,len⟩:=Cu hn;rw[Tg,Tg];simp only[if_neg (by decide:¬(6:Int)=1),if_neg (by decide:¬(6:Int)=4),if_neg (by decide:¬(6:Int)=5),if_true];rw[Gq,Gq]
   congr 2
   rw[P2 _ _ _ (by rw[Ki,Mv]),P2 _ _ _ len,YQ nd len];have e1:(Lj ks).zip (Nz ks xs)=(Lj ks).map λkey=>(key,(Lf ks (Ve xs) key).getD (.node 0 [] [] [])):=by
     rw[Nz];refine List.ext_getElem La λi h1 h2=>?_;rw[List.getElem_zip,List.getElem_map,List.getElem_map]
   rw[e1,List.map_map,List.map_map];have e2:((Lj ks).map ((λq:Str × Tree=>IL (d+1) q.1 q.2) ∘ λkey=>(key,(Lf ks (Ve xs) key).getD (.node 0 [] [] [])))).sum=(ks.map ((λq:Str × Tree=>IL (d+1) q.1 q.2) ∘ λkey=>(key,(Lf ks (Ve xs) key).getD (.node 0 [] [] [])))).sum:=((In ks).map _).sum_nat;rw[e2]
   congr 1
   refine List.map_congr_left λkey hk=>?_;obtain⟨y,hy⟩:=XP len hk;simp only[Function.comp_apply,K_,hy,Option.map_some,Option.getD_some,IL,C9,dQ];rw[ih y (Ap hy) (hxs y (Ap hy)) (d+1)]
  rw[if_neg h6, Tg, Tg];split
  ·rfl
  split
  ·rfl
  split
  ·rw[Gq, Gq, Qp, Qp, Sh, List.map_map, List.map_map, List.map_map]
   congr 3
   refine List.map_congr_left λy hy=>?_;simp only[Function.comp_apply];rw[ih y hy (hxs y hy) (d+1)]
  rfl) x
theorem Ez(x:Tree):(Am (Ae x)).length=(Am x).length:=by
  rw[Am,Am,K9];split
  ·rename_i h
   have ho:=Vq h;rw[Ko ho];exact M9 x (Sk ho) 0
  rfl
open Go.RowKit
structure Sd where
  has:Bool
  val:Tree
structure Cf where
  path:List Str
  cls:Int
  b:Sd
  l:Sd
  r:Sd
def noS:Sd:=⟨false,zeroT⟩
def En(n:Nat):Str:=Qh (M4 n)
def UA(n:Nat):Tree:=.node 7 (En n) [] []
def Th(s:Sd):Sd:=if s.has=true then ⟨true,Ms s.val⟩ else noS
def Pi(c:Cf)(p:Int):Sd × Bool:=if p=0 then (Th c.b,true) else if p=1 then (Th c.l,true) else if p=2 then (Th c.r,true) else (noS,false)
mutual
def Pf:Tree->List Str
  | .node k t _ xs=>(if k=7 then [t] else [])++Gh xs
def Gh:List Tree->List Str
  | []=>[]
  | x::xs=>Pf x++Gh xs
end
def Tx(s:Sd)(cls:Int):Bool:=!s.has || (Gf s.val&&(decide (cls≠5) || decide (s.val.kind=5)))
def C5(c:Cf):Bool:=Tx c.b c.cls&&(Tx c.l c.cls&&Tx c.r c.cls)
def noC:Cf:=⟨[],0,noS,noS,noS⟩
def Vp(v:Tree)(l:List Cf)(pick:List Int):Bool :=
  decide (l.length=pick.length)&&(decide ((Pf v).eraseDups.length=l.length) &&
    (List.range l.length).all λi=>decide ((Pf v).count (En i)=1)&&(C5 (l.getD i noC)&&(Pi (l.getD i noC) (pick.getD i 0)).2))
def Zh(v:Tree):Int:=if v.kind≠7 then -1 else if (Oc v.text).2≠0 then -1 else (B4 (Oc v.text).1).1
def Zq(l:List Cf)(pick:List Int)(i:Int):Sd:=(Pi (l.getD i.toNat noC) (pick.getD i.toNat 0)).1
def Sq(l:List Cf)(k:Int)(key:Str)(h:Int)(s:Sd):List Str × List Tree :=
  if s.has=true then
    if k=6 then ([key],[s.val])
    else if 0<=h/\(l.getD h.toNat noC).cls=5 then ([],s.val.items)
    else ([],[s.val])
  else ([],[])
mutual
def Me(l:List Cf)(pick:List Int):Tree->Sd
  | .node k t ks xs =>
    if 0<=Zh (.node k t ks xs) then Zq l pick (Zh (.node k t ks xs))
    else ⟨true,.node k t (Hh l pick k ks xs).1 (Hh l pick k ks xs).2⟩
def Hh(l:List Cf)(pick:List Int)(k:Int):List Str->List Tree->List Str × List Tree
  | _,[]=>([],[])
  | ks, x :: xs =>
    let a:=Sq l k (ks.headD []) (Zh x) (Me l pick x)
    let b:=Hh l pick k ks.tail xs
    (a.1++b.1,a.2++b.2)
end
def Dj(v:Tree)(l:List Cf)(pick:List Int):Tree × Int :=
  if Kg v=true/\Vp v l pick=true then
    let s:=Me l pick v
    if s.has=true then (if Gf s.val=true then (s.val,0) else (zeroT,1)) else (zeroT,8)
  else (zeroT,1)
def ZZ(i:Nat):Bool:=decide ((Oc (En i)).2=0)&&(decide ((Oc (En i)).1=M4 i)&&(decide (B4 (M4 i)=((i:Int),true))&&decide ((En i).length<=20)))
theorem UW:(List.range 1000).all ZZ=true:=by kernel_rfl
theorem num_is{i:Nat}(h:i<1000):(Oc (En i)).2=0/\(Oc (En i)).1=M4 i/\B4 (M4 i)=((i:Int),true)/\(En i).length<=20:=by
  have:=List.all_eq_true.1 UW i (List.mem_range.2 h);simpa[ZZ]using this
theorem GF{i:Nat}(h:i<1000):Zh (UA i)=i:=by
  obtain⟨h1,h2,h3,-⟩:=num_is h;show (if (7:Int)≠7 then (-1:Int) else if (Oc (En i)).2≠0 then -1 else (B4 (Oc (En i)).1).1)=_;rw[if_neg Ta,if_neg (by rw[h1];decide),h2,h3]
theorem Ju(v:Tree):Vb v.items+1<=Mb v:=by cases v;rw[Mb];simp only[Tree.items];omega
theorem R5{M:Nat}{x:Tree}(h:Id x<=M):∀y∈x.items,Id y<=M:=λy hy=>by
  cases x with
  | node k t ks xs =>
    have:=Mk (show y∈xs from hy);rw[Id]at h;omega
theorem X_{M:Nat}{x:Tree}(h:Id x<=M):∀k∈x.keys,k.length<=M:=λk hk=>by
  cases x with
  | node _ t ks xs =>
    have:=Zm (show k∈ks from hk);rw[Id]at h;omega
def SdR(s:Sd):Prop:=s=noS\/(s.has=true/\Gf s.val=true)
def CfR(c:Cf):Prop:=SdR c.b/\SdR c.l/\SdR c.r/\(c.cls=5->c.b.val.kind=5/\c.l.val.kind=5/\c.r.val.kind=5)/\1<=c.cls/\c.cls<=6
theorem Jm:∀xs:List Tree,Gh xs=xs.flatMap Pf
  | []=>rfl
  | x::xs=>by rw[Gh,Jm xs,List.flatMap_cons]
open Go.RowKit Go.Proofs Go.Proofs.Tryz
def VE(b:Bool):D:=.lit (.bool b)
def Od(s:Sd):D:=.agg [VE s.has,Hb s.val]
def D5(c:Cf):D:=.agg [Lh c.path,Kh c.cls,Od c.b,Od c.l,Od c.r]
theorem Yu(s:Sd):Xc (Od s)=5:=by
  have:=Nc s.val;simp only[Od,Xc,Xc.sizeL,this,VE]
theorem HU(c:Cf):Xc (D5 c)=17:=by
  simp only[D5,Xc,Xc.sizeL,Yu,Lh,Kh]
section
variable {S:Nat->Prop}{w:World}
end
section
variable {S:Nat->Prop}{w w' w0:World}{Ds E:List Nat}{pre post bs_ sm sm1:List (Nat × Obj)}{pb:Nat}{RV:Value}{cfs:List Cf}
theorem Rep.side_inv{s:Sd}{cs:List Value}(h:Rep S w (Od s) cs):∃ct,cs=.bool s.has::ct/\Rep S w (Hb s.val) ct:=by
  unfold Od at h;rw[Rep]at h;obtain⟨c1,c2,rfl,h1,h2⟩:=RepL.cons_inv h;obtain⟨c3,c4,rfl,h3,h4⟩:=RepL.cons_inv h2;obtain rfl:=RepL.nil_inv h4;unfold VE at h1;rw[Rep]at h1;obtain⟨rfl,-⟩:=h1;exact⟨c3,by simp,h3⟩
theorem Rep.side_mk{s:Sd}{ct:List Value}(h:Rep S w (Hb s.val) ct):Rep S w (Od s) (.bool s.has::ct):=by
  unfold Od;rw[Rep];have h1:Rep S w (VE s.has) [.bool s.has]:=by unfold VE;rw[Rep];exact ae1
  have:=RepL.cons_mk h1 (RepL.cons_mk h RepL.nil_mk);simpa using this
theorem Tm:Rep S w (Od noS) [.bool false,J 0,I [],aQ,aQ]:=Rep.side_mk (s:=noS) (Dm S w)
structure Tv where
  k:Int
  t:Str
  A:Option Addr
  n:Nat
  c:Nat
  B:Option Addr
  m:Nat
  e:Nat
structure Sv where
  h:Bool
  v:Tv
abbrev Tv.cells(x:Tv):List Value:=[J x.k,I x.t,.slice x.A x.n x.c,.slice x.B x.m x.e]
abbrev Sv.cells(x:Sv):List Value:=[.bool x.h,J x.v.k,I x.v.t,.slice x.v.A x.v.n x.v.c,.slice x.v.B x.v.m x.v.e]
abbrev th(x y z:Sv):List Value:=[.bool x.h,J x.v.k,I x.v.t,.slice x.v.A x.v.n x.v.c,.slice x.v.B x.v.m x.v.e,.bool y.h,J y.v.k,I y.v.t,.slice y.v.A y.v.n y.v.c,.slice y.v.B y.v.m y.v.e,.bool z.h,J z.v.k,I z.v.t,.slice z.v.A z.v.n z.v.c,.slice z.v.B z.v.m z.v.e]
def O5:Tv:=⟨0,[],none,0,0,none,0,0⟩
theorem Di{y:Tree}{cs:List Value}(h:Rep S w (Hb y) cs):∃x:Tv,cs=x.cells/\x.k=y.kind/\x.t=y.text/\x.n=y.keys.length/\x.m=y.items.length:=by
  obtain⟨k,t,ks,xs⟩:=y;obtain⟨A,c,B,e,rfl,-,-,-,-⟩:=h.tree_inv;exact⟨⟨k,t,A,ks.length,c,B,xs.length,e⟩,O,O,O,O,O⟩
theorem Ti{S:Nat->Prop}{w:World}{t:Tree}{x:Tv}(h:Rep S w (Hb t) x.cells):x.k=t.kind/\x.t=t.text/\x.n=t.keys.length/\x.m=t.items.length/\Rep S w (Lh t.keys) [.slice x.A x.n x.c]/\Rep S w (.slice (Qd t.items)) [.slice x.B x.m x.e]:=by
  obtain⟨k,s,ks,xs⟩:=t;obtain⟨A,c,B,e,hq,-,-,h3,h4⟩:=h.tree_inv;simp only[Tv.cells,List.cons.injEq,Value.int.injEq,Value.string.injEq,Value.slice.injEq,true_and,and_true]at hq;obtain⟨e1,e2,e3,e4⟩:=hq;refine⟨e1,DP.1 e2,e3.2.1,e4.2.1,?_,?_⟩
  ·rw[e3.1,e3.2.1,e3.2.2];exact h3
  rw[e4.1,e4.2.1,e4.2.2];exact h4
theorem Ct{s:Sd}{cs:List Value}(h:Rep S w (Od s) cs):∃x:Sv,cs=x.cells/\x.h=s.has/\x.v.k=s.val.kind/\Rep S w (Hb s.val) x.v.cells:=by
  obtain⟨ct,rfl,h1⟩:=h.side_inv;obtain⟨x,rfl,h2,-⟩:=Di h1;exact⟨⟨s.has,x⟩,O,O,h2,h1⟩
theorem Dd{s:Sd}{x:Sv}(h:Rep S w (Od s) x.cells):x.h=s.has/\x.v.k=s.val.kind/\x.v.n=s.val.keys.length/\x.v.m=s.val.items.length/\Rep S w (Hb s.val) x.v.cells:=by
  obtain⟨ct,e,h1⟩:=h.side_inv;obtain⟨y,rfl,h2,-,h3,h4⟩:=Di h1;simp only[List.cons.injEq,Value.bool.injEq,Value.int.injEq,true_and,Value.slice.injEq]at e;obtain⟨e0,e1,e2,e3,e4,-⟩:=e;refine⟨e0,e1.trans h2,e3.2.1.trans h3,e4.2.1.trans h4,?_⟩;have:x.v.cells=y.cells:=by simp only[Tv.cells,e1,e2,e3.1,e3.2.1,e3.2.2,e4.1,e4.2.1,e4.2.2]
  rw[this];exact h1
theorem F3{s:Sd}{x:Tv}(h:Rep S w (Hb s.val) x.cells):Rep S w (Od s) (Sv.mk s.has x).cells:=Rep.side_mk h
theorem FR.part{bs_:List (Nat × Obj)}(h:FR w0 Ds bs_ w)(i off:Nat){b:Nat}{l l':List Value}{T:TypeId}{fz:Nat × Nat}(hi:bs_[i]? = some (b,.cells l.toArray T fz))(hl:(l.drop off).take l'.length=l') :
    ∀j (hj:j<l'.length),w.cell? ((⟨b,off,none⟩:Addr).add j)=some l'[j]:=λj hj=>by
  have e:(⟨b,off,none⟩:Addr).add j=⟨b,off+j,none⟩:=by unfold Addr.add;split <;> simp_all
  rw[e,Cc (h.heap hi) (off+j)];have h1:(l.drop off)[j]? = some l'[j]:=by
    have:((l.drop off).take l'.length)[j]? = some l'[j]:=by rw[hl];exact List.getElem?_eq_getElem hj
    rw[List.getElem?_take,if_pos hj]at this;exact this
  rw[List.getElem?_drop]at h1;simpa using h1
theorem FR.rowS{w0 w:World}{E:List Nat}{bs_:List (Nat × Obj)}{S:Nat->Prop}{ds:List D}{l:List Value}(hF:FR w0 E bs_ w)(k:Nat){b n:Nat}{T:TypeId}(hi:bs_[k]? = some (b,.cells l.toArray T))(hr:RepL S w ds l)(hn:ds.length=n)(hm:n<=9223372036854775807):Rep (λx=>S x\/x=b) w (.slice ds) [W b n n] :=
  Rep.slice_mk hn.symm (gQ _) hm λ_=>⟨_,rfl,l,λj hj=>⟨hF.cellsAll k hi j hj,.inr rfl⟩,RepL.weaken (λ_ h _=>.inl h) hr⟩
theorem FR.repE{w0 w:World}{Dz:List Nat}{bs_:List (Nat × Obj)}{S:Nat->Prop}{d:D}{cs:List Value}(hF:FR w0 Dz bs_ w)(hS:∀b,S b->b<w0.heap.size/\b∉Dz)(h:Rep S w0 d cs):Rep S w d cs:=h.same hF.same λb hb hs=>(hS b hs).2 hb
theorem Rep.low{S:Nat->Prop}{w:World}{d:D}{cs:List Value}(h:Rep S w d cs):Rep (λb=>b<w.heap.size) w d cs:=h.weaken λ_ _ hl=>hl
def wE(w:World):World:={ w with heap:=#[] }
theorem RX.base{i:List Nat}{ds:List D}{cs:List Value}{u:World}(h:RX w0 i w ds cs)(hu:u.heap.size<=w0.heap.size):RX u i w ds cs:=RepL.weaken (λ_ hb _=>⟨fQ hu hb.1,hb.2⟩) h
theorem RX.empty{i:List Nat}{ds:List D}{cs:List Value}(h:RX w0 i w ds cs)(u:World):RX (wE u) i w ds cs:=h.base (Nat.zero_le _)
def ids(sm:List (Nat × Obj)):List Nat:=sm.map (·.1)
theorem RX.grow{u w w':World}{i:List Nat}{sl sl':List (Nat × Obj)}{ds:List D}{cs:List Value}(h:RX u i w ds cs)(hE:Same (sl.map (·.1)) w w')(hn:∀p∈sl',p.1∈sl.map (·.1)\/w.heap.size<=p.1)(hi:∀x∈sl.map (·.1),x∈i):RX u (i++ids sl') w' ds cs :=
  h.step hE hi λx hx=>by
    rcases mQ.1 hx with h1|h1
    ·exact .inl h1
    obtain⟨p, hp, rfl⟩ := nQ.1 h1;rcases hn p hp with h2|h2
    ·exact .inl (hi _ h2)
    exact .inr h2
structure Mx (i:List Nat) (w:World) (sm:List (Nat × Obj)) (pb:Nat) (RV:Value) (cfs:List Cf):Prop where
  ex:∃(A:Option Addr)(c:Nat)(sl:List (Nat × Obj))(vals:List Value),sm=(pb,.cells #[RV,.slice A cfs.length c] 0)::sl/\SlB 29 17 A cfs.length c vals sl/\RX (wE w) i w (cfs.map D5) vals
section
variable {i i':List Nat}
theorem Mx.step(h:Mx i w sm pb RV cfs)(hs:Same E w w')(he:∀b∈E,b∈i)(hi:∀x∈i',x∈i\/w.heap.size<=x):Mx i' w' sm pb RV cfs:=by
  obtain⟨A,c,sl,vals,h1,h2,h3⟩:=h.ex;exact⟨A,c,sl,vals,h1,h2,(h3.step hs he hi).empty w'⟩
theorem Mx.ext(h:Mx i w sm pb RV cfs)(hs:Same [] w w'):Mx i w' sm pb RV cfs:=h.step hs La (λ_ hx=>.inl hx)
theorem Mx.store(h:Mx i w sm pb RV cfs)(hs:Same E w w')(he:∀b∈E,b∈i):Mx i w' sm pb RV cfs:=h.step hs he (λ_ hx=>.inl hx)
theorem Mx.alloc{b:Nat}(h:Mx i w sm pb RV cfs)(hs:Same [] w w')(hb:b=w.heap.size):Mx (b::i) w' sm pb RV cfs :=
  h.step hs La (λx hx=>by rcases oQ.1 hx with rfl|hx;exact .inr Ba;exact .inl hx)
theorem Mx.sub(h:Mx i w sm pb RV cfs)(hi:∀x∈i',x∈i):Mx i' w sm pb RV cfs:=h.step (Same.refl [] w) La (λx hx=>.inl (hi x hx))
theorem SlB.typ1{e m n c:Nat}{A:Option Addr}{xs:List Value}{sb:List (Nat × Obj)}(h:SlB e m A n c xs sb):sb.length<=1/\∀q∈sb,∃cur,q.2=.cells cur e:=by
  rcases h.2 with ⟨-,-,rfl⟩|⟨g,cur,-,rfl,-⟩
  ·exact⟨by simp,λq hq=>by cases hq⟩
  exact⟨by simp,λq hq=>by simp only[pQ]at hq;subst hq;exact⟨cur,rfl⟩⟩
theorem Mx.pw(h:Mx i w sm pb RV cfs)(hh:∀q∈sm,w.heap[q.1]? = some q.2):sm.Pairwise (λp q=>q.1≠p.1):=by
  obtain⟨A,c,sl,vals,rfl,h2,-⟩:=h.ex;refine List.pairwise_cons.2 ⟨λq hq e=>?_,h2.pw⟩;obtain⟨cur,e2⟩:=h2.typ1.2 q hq;have h5:=hh q (by simp[hq]);have h6:=hh _ List.mem_cons_self;have e':q.1=pb:=e;rw[e',h6,e2]at h5;have:=lQ h5;simp at this
theorem Mx.start(h:Mx i w sm pb RV cfs)(hh:∀q∈sm,w.heap[q.1]? = some q.2):FR w (ids sm) ([]++(sm++[])) w:=by
  rw[List.nil_append,qQ];exact⟨.refl _ _,λq hq=>⟨hh q hq,.inr (List.mem_map_of_mem hq)⟩,h.pw hh⟩
theorem Mx.box(h:Mx i w sm pb RV cfs)(hh:∀q∈sm,w.heap[q.1]? = some q.2):∃(A:Option Addr)(c:Nat),w.heap[pb]? = some (.cells #[RV,.slice A cfs.length c] 0):=by
  obtain⟨A,c,sl,vals,rfl,-,-⟩:=h.ex;exact⟨A,c,hh _ List.mem_cons_self⟩
structure Mc (w:World) (sm:List (Nat × Obj)) (w':World) (sm':List (Nat × Obj)):Prop where
  same:Same (ids sm) w w'
  fresh:∀q∈sm',w.heap.size<=q.1\/q.1∈ids sm
theorem FR.segs_of(hF:FR w0 Ds (pre++(sm++post)) w):∀q∈sm,w.heap[q.1]? = some q.2/\(w0.heap.size<=q.1\/q.1∈Ds):=λq hq=>hF.own q (by simp[hq])
theorem FR.hh(hF:FR w0 Ds bs_ w)(hsp:Spl bs_ pre sm post:=by repeat (first|exact Spl.z|apply Spl.c|apply Spl.a)):∀q∈sm,w.heap[q.1]? = some q.2:=by
  rw[hsp.eq]at hF;exact λq hq=>(hF.segs_of q hq).1
def Nq(w:World)(sm':List (Nat × Obj))(w':World)(x:Nat):Prop:=Btw w w' x/\x∉ids sm'
theorem RX.swap{j:List Nat}{u:World}{ds:List D}{cs:List Value}(h:RX u i w ds cs)(hE:Mc w sm w' sm1)(hi:∀x∈ids sm,x∈i)(hj:∀x∈j,x∈i\/x∈ids sm1):RX u j w' ds cs :=
  h.step hE.same hi λx hx=>by
    rcases hj x hx with h1|h1
    ·exact .inl h1
    obtain⟨q, hq, rfl⟩ := nQ.1 h1;rcases hE.fresh q hq with h2|h2
    ·exact .inr h2
    exact .inl (hi _ h2)
theorem RX.nq{d:D}{cs:List Value}(h:RX w0 i w [d] cs)(hi:∀x∈ids sm,x∈i):Rep (Nq w0 sm w) w d cs:=h.rep.weaken λ_ hb _=>⟨⟨hb.1,hb.2.1,hb.2.2.2⟩,λhm=>hb.2.2.1 (hi _ hm)⟩
def Off(S:Nat->Prop)(w0:World)(sm:List (Nat × Obj)):Prop:=∀b,S b->b<w0.heap.size/\b∉ids sm
theorem Off.or{S':Nat->Prop}(h:Off S w sm)(h':Off S' w sm):Off (λb=>S b\/S' b) w sm:=λb hb=>hb.elim (h b) (h' b)
end
end
end Go.Scarf
namespace Go.Scarf
open Go.RowKit Go.Proofs Go.Proofs.Tryz
def XU(x:Tree)(ind d:Int):Prop:=Gf x=true/\(0<=ind/\ind<=8)/\(0<=d/\d<=32)
instance (x:Tree) (ind d:Int):Decidable (XU x ind d):=by unfold XU;infer_instance
theorem RM{x:Tree}(h:Gf x=true)(hm:Id x<=1073741824)(m:Bool)(ind d:Nat)(hi:ind<=8)(hd:d<=32):(Tg m ind x d).length<=140737488355328:=by
  have h1:=Ny h;have h2:=E7 m ind (Id x) 64 x d (gQ _) Ba;have h3:Mb x<=4096:=ZL (Vq h);have h4:ind*64<=8*64:=Nat.mul_le_mul_right _ hi;have h5:Mb x*(12*Id x+40+2*(ind*64))<=4096*(12*1073741824+40+2*512):=Nat.mul_le_mul h3 Ba;omega
theorem comp_c(x:Tree)(S:Nat->Prop)(w0:World)(cs:List Value)(rx:Rep S w0 (Hb x) cs)(hG:Gl w0)(hsz:Mb x<=1000000000)(hm:Id x<=1073741824):Calls prog 54 #[.agg cs.toArray] w0 (Pc λv w'=>v=.tuple #[I (Am x),J (Lw x)]/\Same [] w0 w'):=by
  refine Kj (CN x S w0 cs rx hG (Al x Ba) (CW x Ba) hsz (λh=>RM h hm _ _ _ Ba Ba)) λv w' ⟨h1,h2⟩=>⟨?_,h2⟩;rw[h1,Am,Lw];split <;> rfl
theorem NK(x:Tree)(S:Nat->Prop)(w0:World)(cs:List Value)(rx:Rep S w0 (Hb x) cs)(hG:Gl w0)(hsz:Mb x<=1000000000)(hm:Id x<=1073741824):Calls prog 30 #[.agg cs.toArray] w0 (Pc λv w'=>v=.tuple #[I (Am (Ae x)),J (Lw (Ae x))]/\Same [] w0 w'):=by
 have hl:cs.length=4:=rx.length.trans (Nc x);have ho:=rx.one_;refine Ea func30 O ntmps30 Db (Rb _) ?_;have hF:=FR.start w0 [];refine Da (Hm (v:=.agg (List.toArray cs)) (cs:=(List.toArray cs)) hF O O ?_);rintro b1 w hb1 hF -;refine Aa (Rf O) (Aa (Lb O) (Qb (Ja (v:=.agg (List.toArray cs)) (Xa (l:=cs) aZ mZ O hl (hF.cellsAll 0 O)) ?_)));refine Ya (HO x hsz _ _ cs (hF.rep rx) (Al x Ba) (hG.ext hF.same)) (Ma en_55 O O) ?_;rintro _ w ⟨c1,rfl,hRt,hE⟩;have hlc1:c1.length=4:=hRt.length.trans (Nc _);have hoc1:=hRt.one_;have hX1:=RX.made (ids:=[b1]) hF.same.size (λx hx=>hF.lt_ids (by grind)) hRt;have hF:=hF.ext hE;clear hE hRt;refine Oa hF (comp_c (Ae x) _ _ c1 hX1.rep (hG.ext hF.same) (PB x hsz) (fQ (UC x) hm)) (Ma en_54 O O) ?_;intro w hF;refine Aa (Kx O O) (Aa (Gj O O) (Aa (Rf O) (Aa (Lb O) (Ca ?_))));refine Ab (Za (Ka (Vc (v:=I (Am (Ae x))) (x:=J (Lw (Ae x))) O O O) ?_));exact⟨O,hF.same⟩
end Go.Scarf
