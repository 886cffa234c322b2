/- A part of the proof. -/
import Derived.Test.YtbhneplafiapdaaGreatDoorBd
import Derived.Lib.BufferRead
import Derived.Lib.ItoaMem
set_option linter.all false
set_option maxHeartbeats 8000000
set_option maxRecDepth 10000
namespace Go.Scarf
theorem Sy{ks:List Str}{xs:List Tree}(hn:ks.Nodup):∀{i:Nat}(h:i<ks.length)(h2:i<xs.length),Ic ks xs ks[i]=some xs[i]:=by
  induction ks generalizing xs with
  | nil=>intro i h;cases h
  | cons k ks ih =>
    intro i h h2;cases xs with
    | nil=>cases h2
    | cons x xs =>
      cases i with
      | zero=>simp[Ic]
      | succ i =>
        have hne:k≠ks[i]'(by simpa using h):=λe=>(List.nodup_cons.1 hn).1 (e▸eQ _);simp only[Ic,List.getElem_cons_succ];rw[if_neg hne];exact ih (List.nodup_cons.1 hn).2 (by simpa using h) (by simpa using h2)
theorem F1{ks:List Str}{xs:List Tree}(hl:ks.length=xs.length){key:Str}(h:key∈ks):∃y,Ic ks xs key=some y:=by
  induction ks generalizing xs with
  | nil=>cases h
  | cons k ks ih =>
    cases xs with
    | nil=>cases hl
    | cons x xs =>
      rw[Ic];by_cases e:k=key
      ·exact⟨x,if_pos e⟩
      rw[if_neg e];exact ih (by simpa using hl) (by rcases oQ.1 h with h|h;exact absurd h.symm e;exact h)
theorem Ey{ks:List Str}{xs:List Tree}{key:Str}{y:Tree}(h:Ic ks xs key=some y):key∈ks:=by
  induction ks generalizing xs with
  | nil=>cases xs <;> cases h
  | cons k ks ih =>
    cases xs with
    | nil=>cases h
    | cons x xs =>
      rw[Ic]at h;by_cases e:k=key
      ·simp[e]
      rw[if_neg e]at h;simp[ih h]
theorem Ni{ks:List Str}{xs:List Tree}(key:Str):Ic ks (Jh xs) key=(Ic ks xs key).map sortT:=by
  cases h:Ic ks xs key with
  | some y=>exact Kv h
  | none =>
    induction ks generalizing xs with
    | nil=>cases xs <;> rfl
    | cons k ks ih =>
      cases xs with
      | nil=>rfl
      | cons x xs =>
        rw[Ic]at h;rw[Jh,Ic];by_cases e:k=key
        ·rw[if_pos e]at h;cases h
        rw[if_neg e]at h ⊢;exact ih h
theorem T4{ks ks':List Str}(h1:ks.Nodup)(hl:ks.length=ks'.length)(hs:∀k∈ks,k∈ks'):ks.Perm ks':=by
  induction ks generalizing ks' with
  | nil =>
    have:ks'=[]:=List.eq_nil_of_length_eq_zero (by simpa using hl.symm);subst this;exact .refl _
  | cons k ks ih =>
    have hk:=hs k Pa;have hp:=List.perm_cons_erase hk;refine List.Perm.trans (List.Perm.cons k (ih (List.nodup_cons.1 h1).2 ?_ ?_)) hp.symm
    ·rw[List.length_erase_of_mem hk,<-hl];simp
    intro x hx;have hne:x≠k:=λe=>(List.nodup_cons.1 h1).1 (e▸hx);exact (List.mem_erase_of_ne hne).2 (hs x (by simp[hx]))
theorem Vy{xs ys:List Tree}(h:∀x∈xs,∀y,Pd nodeB y=true->(Yd x y=true↔sortT x=sortT y))(hl:xs.length=ys.length)(hy:∀y∈ys,Pd nodeB y=true):Cp xs ys=true↔Jh xs=Jh ys:=by
  induction xs generalizing ys with
  | nil => cases ys with
    | nil=>simp[Cp]
    | cons y ys=>cases hl
  | cons x xs ih => cases ys with
    | nil=>cases hl
    | cons y ys =>
      rw[Cp,Bool.and_eq_true,h x Pa y (hy y Pa),ih (λx hx=>h x (by simp[hx])) (by simpa using hl) (λy hy'=>hy y (by simp[hy'])),Jh,Jh,List.cons.injEq]
theorem B6(xs:List Tree)(ks ks':List Str)(ys:List Tree)(hl:ks.length=xs.length):Sp xs ks ks' ys=true↔∀i (h:i<ks.length),∃y,Ic ks' ys ks[i]=some y/\Yd (xs[i]' Ca) y=true:=by
  induction xs generalizing ks with
  | nil =>
    have:ks=[]:=List.eq_nil_of_length_eq_zero (by simpa using hl);subst this;simp[Sp]
  | cons x xs ih => cases ks with
    | nil=>cases hl
    | cons k ks =>
      rw[Sp,Bool.and_eq_true,ih ks (by simpa using hl)];constructor
      ·rintro⟨h1, h2⟩ i hi
       cases i with
       | zero =>
         cases hk:Ic ks' ys k with
         | none=>rw[hk]at h1;cases h1
         | some y=>rw[hk]at h1;exact⟨y,hk,h1⟩
       | succ i=>exact h2 i (by simpa using hi)
      intro h;refine⟨?_,λi hi=>h (i+1) (by simpa using hi)⟩;obtain⟨y,h1,h2⟩:=h 0 Pa;simp only[List.getElem_cons_zero]at h1 h2;rw[h1];exact h2
theorem FD(x:Tree):Pd nodeB x=true->∀y,Pd nodeB y=true->(Yd x y=true↔sortT x=sortT y):=Tree.ind (Q:=λx=>Pd nodeB x=true->∀y,Pd nodeB y=true->(Yd x y=true↔sortT x=sortT y)) (λk t ks xs ih hx y hy=>by
  obtain⟨k',t',ks',ys⟩:=y;obtain⟨hn,hxs⟩:=Lh hx;obtain⟨hn',hys⟩:=Lh hy;have ih':∀x∈xs,∀y,Pd nodeB y=true->(Yd x y=true↔sortT x=sortT y):=λx hx'=>ih x hx' (hxs x hx');rw[Yd,Bool.and_eq_true,Bool.and_eq_true,Bool.and_eq_true,decide_eq_true_eq,decide_eq_true_eq,decide_eq_true_eq,sortT,sortT];by_cases h:k=k'
  ·subst h
   by_cases h6:k=6
   ·subst h6
    obtain⟨nd,len⟩:=Lu hn;obtain⟨nd',len'⟩:=Lu hn';rw[if_neg Pa,if_pos rfl,if_pos rfl,Bool.and_eq_true,decide_eq_true_eq,B6 xs ks ks' ys len];constructor
    ·rintro⟨⟨⟨-, e1⟩, e2⟩, e3, hall⟩
     have hp:ks.Perm ks':=T4 nd e3 (λk hk=>by
       obtain⟨i,hi,rfl⟩:=List.getElem_of_mem hk;obtain⟨y,h1,-⟩:=hall i hi;exact Ey h1)
     have hs:Tm ks=Tm ks':=by unfold Tm;exact mergeSort_of_perm hp
     rw[e1,<-hs]
     congr 1
     refine List.map_congr_left λkey hkey=>?_;have hin:=Wq.1 hkey;obtain⟨i,hi,rfl⟩:=List.getElem_of_mem hin;obtain⟨y,h1,h2⟩:=hall i hi;rw[Ni,Ni,h1,Sy nd hi Ca];simp only[Option.map_some,Option.getD_some];exact (ih' _ (eQ _) y (hys y (Ik h1))).1 h2
    intro e;injection e with _ e1 e2 e3
    have hl:ks.length=ks'.length:=by have:=congrArg List.length e2;rwa [Gr,Gr]at this
    refine⟨⟨⟨O,e1⟩,by omega⟩,hl,λi hi=>?_⟩;have hin:ks[i]∈Tm ks:=Wq.2 (eQ _);have hin':ks[i]∈ks':=Wq.1 (e2▸hin);obtain⟨y,h1⟩:=F1 len' hin';refine⟨y,h1,(ih' _ (eQ _) y (hys y (Ik h1))).2 ?_⟩;rw[<-e2]at e3;have:=List.map_inj_left.1 e3 ks[i] hin;rw[Ni,Ni,h1,Sy nd hi Ca]at this;simpa using this
   rw[if_pos h6, if_neg h6, if_neg h6];constructor
   ·rintro⟨⟨⟨-, e1⟩, e2⟩, e3⟩
    rw[e1,(Vy ih' e2 hys).1 e3]
   intro e;injection e with _ e1 _ e3
   have hl:xs.length=ys.length:=by have:=congrArg List.length e3;rwa [Xq,Xq,rQ,rQ]at this
   exact⟨⟨⟨O,e1⟩,hl⟩,(Vy ih' hl hys).2 e3⟩
  constructor
  ·rintro⟨⟨⟨e,-⟩,-⟩,-⟩;exact absurd e h
  intro e;exfalso;split at e <;> split at e <;> injection e with e <;> exact h e) x
theorem V3{q:Tree->Bool}:∀{xs:List Tree},(∀x∈xs,Pd q x=true)->Zk q xs=true
  | [],_=>rfl
  | x::xs,h=>by rw[Zk,h x Pa,V3 (λy hy=>h y (by simp[hy]))];rfl
theorem Ho:∀xs:List Tree,Za xs=(xs.map Gb).sum
  | []=>rfl
  | x::xs=>by rw[Za,Ho xs];rfl
theorem Bs{xs ys:List Tree}(h:xs.Perm ys):Za xs=Za ys:=by
  rw[Ho,Ho];exact (h.map _).sum_nat
mutual
def Rd:Tree->Nat|.node _ t ks xs=>max t.length (max (Vk ks) (Ph xs))
def Ph:List Tree->Nat|[]=>0|x::xs=>max (Rd x) (Ph xs)
def Vk:List Str->Nat|[]=>0|k::ks=>max k.length (Vk ks)
end
theorem Dn:∀{ks:List Str}{k:Str},k∈ks->k.length<=Vk ks
  | y :: ys, k, h => by
    rw[Vk];rcases oQ.1 h with rfl|h
    ·omega
    have:=Dn h;omega
theorem Ak:∀{xs:List Tree}{x:Tree},x∈xs->Rd x<=Ph xs
  | y :: ys, k, h => by
    rw[Ph];rcases oQ.1 h with rfl|h
    ·omega
    have:=Ak h;omega
theorem Wu{n:Nat}:∀{ks:List Str},(∀k∈ks,k.length<=n)->Vk ks<=n
  | [],_=>by rw[Vk];omega
  | k :: ks, h => by
    rw[Vk];have h1:=h k Pa;have h2:=Wu (λy hy=>h y (by simp[hy]):∀k∈ks,k.length<=n);omega
theorem Qw{n:Nat}:∀{xs:List Tree},(∀x∈xs,Rd x<=n)->Ph xs<=n
  | [],_=>by rw[Ph];omega
  | k :: ks, h => by
    rw[Ph];have h1:=h k Pa;have h2:=Qw (λy hy=>h y (by simp[hy]):∀x∈ks,Rd x<=n);omega
theorem Ze(x:Tree):Rd x<=17592186044416->Tw x:=Tree.ind (Q:=λx=>Rd x<=17592186044416->Tw x) (λk t ks xs ih h=>by
  rw[Rd]at h;rw[Tw];exact⟨by omega,λk hk=>by have:=Dn hk;omega,S8 λy hy=>ih y hy (by have:=Ak hy;omega)⟩) x
theorem U_(x:Tree):Ig x=true->Rd x<=2048:=Tree.ind (Q:=λx=>Ig x=true->Rd x<=2048) (λk t ks xs ih h=>by
  rw[Ig,Bool.and_eq_true,Bool.and_eq_true,decide_eq_true_eq,List.all_eq_true]at h;rw[Rd];have h1:Vk ks<=2048:=Wu λk hk=>by have:=h.1.2 k hk;simp only[decide_eq_true_eq]at this;omega
  have key:∀ys:List Tree,(∀y∈ys,y∈xs)->Pj ys=true->Ph ys<=2048:=by
    intro ys
    induction ys with
    | nil=>intro _ _;rw[Ph];omega
    | cons y ys ihy =>
      intro hm hs;rw[Pj,Bool.and_eq_true]at hs;rw[Ph];have a:=ih y (hm y Pa) hs.1;have b:=ihy (λz hz=>hm z (by simp[hz])) hs.2;omega
  have h2:=key xs (λ_ h=>h) h.2;omega) x
def DG(x:Tree):Str:=if Zb x=true then FL false 0 x 0 else []
def BQ(x:Tree):Int:=if Zb x=true then 0 else 1
theorem Mn(q:Tree->Bool):∀xs:List Tree,Zk q xs=xs.all (Pd q)
  | []=>rfl
  | x::xs=>by rw[Zk,Mn q xs];rfl
def ZQ(x:Tree):Bool:=decide (x.kind≠7)
theorem BG(p q:Tree->Bool)(x:Tree):Pd (λx=>p x&&q x) x=(Pd p x&&Pd q x):=Tree.ind (Q:=λx=>Pd (λx=>p x&&q x) x=(Pd p x&&Pd q x)) (λk t ks xs ih=>by
  rw[Pd,Pd,Pd,Mn,Mn,Mn];have h:xs.all (Pd λx=>p x&&q x)=(xs.all (Pd p)&&xs.all (Pd q)):=by
    rw[Bool.eq_iff_iff,Bool.and_eq_true,List.all_eq_true,List.all_eq_true,List.all_eq_true];refine⟨λg=>⟨λy hy=>?_,λy hy=>?_⟩,λg y hy=>?_⟩
    ·have:=g y hy;rw[ih y hy,Bool.and_eq_true]at this;exact this.1
    ·have:=g y hy;rw[ih y hy,Bool.and_eq_true]at this;exact this.2
    rw[ih y hy,Bool.and_eq_true];exact⟨g.1 y hy,g.2 y hy⟩
  rw[h];cases p (.node k t ks xs) <;> cases q (.node k t ks xs) <;> simp) x
theorem DF(x:Tree):Zb x=(Wh x&&Pd ZQ x):=by
  have h:Pd rnodeB x=(Pd ZQ x&&Pd nodeB x):=BG ZQ nodeB x;rw[Zb,Wh,h];cases Il x <;> cases Pd ZQ x <;> simp
theorem We{x:Tree}(h:Zb x=true):Wh x=true:=by
  rw[DF,Bool.and_eq_true]at h;exact h.1
open Go.RowKit Go.Proofs
def TE(x:Tree)(ind d:Int):Prop:=Zb x=true/\(0<=ind/\ind<=8)/\(0<=d/\d<=32)
instance (x:Tree) (ind d:Int):Decidable (TE x ind d):=by unfold TE;infer_instance
def nq(q:Bool)(c:UInt8):Bool:=if c=34 then !q else q
def keepB(q:Bool)(c:UInt8)(l:Str):Str:=if nq q c=true\/(c≠32/\c≠10) then c::l else l
def Xi:Bool->Str->Str
  | _,[]=>[]
  | q,[c]=>keepB q c []
  | q,c::d::r=>if q=true/\c=92 then c::d::Xi q r else keepB q c (Xi (nq q c) (d::r))
def Bal(a b:Str):Prop:=∀r,Xi false (a++r)=b++Xi false r
def Inq(a:Str):Prop:=∀r,Xi true (a++r)=a++Xi true r
theorem Vx{q:Bool}{c:UInt8}{r:Str}(h:¬(q=true/\c=92)):Xi q (c::r)=keepB q c (Xi (nq q c) r):=by
  cases r with
  | nil=>rw[Xi,Xi]
  | cons d r=>rw[Xi,if_neg h]
theorem Bal.nil:Bal [] []:=λ_=>rfl
theorem Bal.app{a b a' b':Str}(h:Bal a a')(k:Bal b b'):Bal (a++b) (a'++b'):=λr=>by rw[sQ,h,k,sQ]
theorem Inq.nil:Inq []:=λ_=>rfl
theorem Inq.app{a b:Str}(h:Inq a)(k:Inq b):Inq (a++b):=λr=>by rw[sQ,h,k,sQ]
theorem Bal.byte{c:UInt8}(h1:c≠34)(h2:c≠32)(h3:c≠10):Bal [c] [c]:=λr=>by
  show Xi false (c::r)=c::Xi false r;rw[Vx Pa,keepB,nq,if_neg h1,if_pos (.inr ⟨h2,h3⟩)]
theorem Bal.bytes:∀{a:Str},(∀c∈a,c≠34/\c≠32/\c≠10)->Bal a a
  | [],_=>Bal.nil
  | c :: a, h => by
    have h1:=h c Pa;exact (Bal.byte h1.1 h1.2.1 h1.2.2).app (Bal.bytes λd hd=>h d (by simp[hd]))
theorem Inq.byte{c:UInt8}(h1:c≠34)(h2:c≠92):Inq [c]:=λr=>by
  show Xi true (c::r)=c::Xi true r;rw[Vx (λh=>h2 h.2),keepB,nq,if_neg h1,if_pos (.inl rfl)]
theorem Inq.bytes:∀{a:Str},(∀c∈a,c≠34/\c≠92)->Inq a
  | [],_=>Inq.nil
  | c :: a, h => by
    have h1:=h c Pa;exact (Inq.byte h1.1 h1.2).app (Inq.bytes λd hd=>h d (by simp[hd]))
def nl(s:Str):Nat:=s.count 10
theorem AB{k:Int}{t:Str}{ks:List Str}{xs:List Tree}(h:Zb (.node k t ks xs)=true){x:Tree}(hx:x∈xs):Zb x=true:=by
  unfold Zb Il at h ⊢;simp only[Bool.and_eq_true,decide_eq_true_eq]at h ⊢;have h1:=Ih hx;have h2:=Nr hx;rw[Gb,Be]at h;exact⟨⟨by omega,by omega⟩,(Lh h.2).2 x hx⟩
def O7(acc:List Str)(s:Str):List Str:=if s∈acc then acc else acc++[s]
def Bg(rows:List (List Str)):List Str:=rows.flatten.foldl O7 []
theorem ZE{acc:List Str}{s t:Str}:t∈O7 acc s↔t∈acc\/t=s:=by
  unfold O7;split
  ·rename_i h
   constructor
   ·exact .inl
   rintro (h1|rfl)
   ·exact h1
   exact h
  simp
theorem U7{acc:List Str}(h:acc.Nodup)(s:Str):(O7 acc s).Nodup:=by
  unfold O7;split
  ·exact h
  rename_i hn
  rw[List.nodup_append];refine⟨h,by simp,?_⟩;rintro a ha b hb rfl;simp only[pQ]at hb;subst hb;exact hn ha
theorem Ms:∀(l:List Str){acc:List Str},acc.Nodup->(l.foldl O7 acc).Nodup
  | [],_,h=>h
  | s::l,_,h=>Ms l (U7 h s)
theorem Wx:∀(l:List Str){acc:List Str}{t:Str},t∈l.foldl O7 acc↔t∈acc\/t∈l
  | [],_,_=>by simp
  | s::l,_,_=>by rw[List.foldl_cons,Wx l,ZE,oQ,or_assoc]
theorem He(rows:List (List Str)):(Bg rows).Nodup:=Ms _ List.nodup_nil
def XR(y:Tree):Bool:=decide (y.kind=4) || decide (y.kind=3)
def PS(x:Tree)(key:Str):Bool:=((DA x key).2&&XR (DA x key).1)&&decide (BQ (Dt (DA x key).1)=0)
def ZR(x:Tree)(key:Str):Str:=if ((DA x key).2&&XR (DA x key).1)=true then DG (Dt (DA x key).1) else []
def YB(key:Str):List Tree->List Str->Option (List Str)
  | [],acc=>some acc
  | x::xs,acc=>if PS x key=true/\ZR x key∉acc then YB key xs (acc++[ZR x key]) else none
def T5(v:Tree)(key:Str):Option (List Str):=if Zb v=true/\v.kind=5 then YB key v.items [] else none
theorem B4{key:Str}:∀(xs:List Tree)(acc l:List Str),YB key xs acc=some l->l.length=acc.length+xs.length
  | [],acc,l,h=>by rw[YB]at h;cases h;simp
  | x :: xs, acc, l, h => by
    rw[YB]at h;split at h
    ·have := B4 xs _ l h
     simp at this ⊢;omega
    cases h
theorem Dl{x:Tree}(h:Zb x=true):Vr x=x:=by rw[Vr,if_pos (We h)]
def Ends(r:Str):Prop:=∀c s,r=c::s->c=44\/c=93\/c=125
theorem Ends.nil:Ends []:=λc s h=>by cases h
open Go.RowKit
section
variable {P:Program}{w0 w:World}{Ds:List Nat}{pre post sb:List (Nat × Obj)}
end
section
variable {P:Program}{R:Exit->Act->World->Prop}{n:Nat}{kt:Kt}{s:Nat->Value}{w:World}{ops rest:List Oper}
variable {d:Nat}{ty:TypeId}{pos:String}{aft:Array Edge}{g:Option (Nat × Bool)}
variable {w0:World}{Ds:List Nat}{sb:List (Nat × Obj)}
end
end Go.Scarf
