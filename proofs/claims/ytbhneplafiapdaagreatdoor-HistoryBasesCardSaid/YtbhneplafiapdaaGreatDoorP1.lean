/- A part of the proof. -/
import Derived.Test.YtbhneplafiapdaaGreatDoorBd
import Derived.Lib.BufferRead
import Derived.Lib.ItoaMem
set_option linter.all false
set_option maxHeartbeats 8000000
set_option maxRecDepth 10000
namespace Go.Scarf
theorem My{ks:List Str}{xs:List Tree}(hn:ks.Nodup):∀{i:Nat}(h:i<ks.length)(h2:i<xs.length),Oc ks xs ks[i]=some xs[i]:=by
  induction ks generalizing xs with
  | nil=>intro i h;cases h
  | cons k ks ih =>
    intro i h h2;cases xs with
    | nil=>cases h2
    | cons x xs =>
      cases i with
      | zero=>simp[Oc]
      | succ i =>
        have hne:k≠ks[i]'(by simpa using h):=λe=>(List.nodup_cons.1 hn).1 (e▸eQ _);simp only[Oc,List.getElem_cons_succ];rw[if_neg hne];exact ih (List.nodup_cons.1 hn).2 (by simpa using h) (by simpa using h2)
theorem C3{ks:List Str}{xs:List Tree}(hl:ks.length=xs.length){key:Str}(h:key∈ks):∃y,Oc ks xs key=some y:=by
  induction ks generalizing xs with
  | nil=>cases h
  | cons k ks ih =>
    cases xs with
    | nil=>cases hl
    | cons x xs =>
      rw[Oc];by_cases e:k=key
      ·exact⟨x,if_pos e⟩
      rw[if_neg e];exact ih (by simpa using hl) (by rcases oQ.1 h with h|h;exact absurd h.symm e;exact h)
theorem Zy{ks:List Str}{xs:List Tree}{key:Str}{y:Tree}(h:Oc ks xs key=some y):key∈ks:=by
  induction ks generalizing xs with
  | nil=>cases xs <;> cases h
  | cons k ks ih =>
    cases xs with
    | nil=>cases h
    | cons x xs =>
      rw[Oc]at h;by_cases e:k=key
      ·simp[e]
      rw[if_neg e]at h;simp[ih h]
theorem Qi{ks:List Str}{xs:List Tree}(key:Str):Oc ks (Fh xs) key=(Oc ks xs key).map sortT:=by
  cases h:Oc ks xs key with
  | some y=>exact Qt h
  | none =>
    induction ks generalizing xs with
    | nil=>cases xs <;> rfl
    | cons k ks ih =>
      cases xs with
      | nil=>rfl
      | cons x xs =>
        rw[Oc]at h;rw[Fh,Oc];by_cases e:k=key
        ·rw[if_pos e]at h;cases h
        rw[if_neg e]at h ⊢;exact ih h
theorem R4{ks ks':List Str}(h1:ks.Nodup)(hl:ks.length=ks'.length)(hs:∀k∈ks,k∈ks'):ks.Perm ks':=by
  induction ks generalizing ks' with
  | nil =>
    have:ks'=[]:=List.eq_nil_of_length_eq_zero (by simpa using hl.symm);subst this;exact .refl _
  | cons k ks ih =>
    have hk:=hs k Pa;have hp:=List.perm_cons_erase hk;refine List.Perm.trans (List.Perm.cons k (ih (List.nodup_cons.1 h1).2 ?_ ?_)) hp.symm
    ·rw[List.length_erase_of_mem hk,<-hl];simp
    intro x hx;have hne:x≠k:=λe=>(List.nodup_cons.1 h1).1 (e▸hx);exact (List.mem_erase_of_ne hne).2 (hs x (by simp[hx]))
theorem Yy{xs ys:List Tree}(h:∀x∈xs,∀y,Wd nodeB y=true->(Je x y=true↔sortT x=sortT y))(hl:xs.length=ys.length)(hy:∀y∈ys,Wd nodeB y=true):Np xs ys=true↔Fh xs=Fh ys:=by
  induction xs generalizing ys with
  | nil => cases ys with
    | nil=>simp[Np]
    | cons y ys=>cases hl
  | cons x xs ih => cases ys with
    | nil=>cases hl
    | cons y ys =>
      rw[Np,Bool.and_eq_true,h x Pa y (hy y Pa),ih (λx hx=>h x (by simp[hx])) (by simpa using hl) (λy hy'=>hy y (by simp[hy'])),Fh,Fh,List.cons.injEq]
theorem D6(xs:List Tree)(ks ks':List Str)(ys:List Tree)(hl:ks.length=xs.length):Cp xs ks ks' ys=true↔∀i (h:i<ks.length),∃y,Oc ks' ys ks[i]=some y/\Je (xs[i]' Ca) y=true:=by
  induction xs generalizing ks with
  | nil =>
    have:ks=[]:=List.eq_nil_of_length_eq_zero (by simpa using hl);subst this;simp[Cp]
  | cons x xs ih => cases ks with
    | nil=>cases hl
    | cons k ks =>
      rw[Cp,Bool.and_eq_true,ih ks (by simpa using hl)];constructor
      ·rintro⟨h1, h2⟩ i hi
       cases i with
       | zero =>
         cases hk:Oc ks' ys k with
         | none=>rw[hk]at h1;cases h1
         | some y=>rw[hk]at h1;exact⟨y,hk,h1⟩
       | succ i=>exact h2 i (by simpa using hi)
      intro h;refine⟨?_,λi hi=>h (i+1) (by simpa using hi)⟩;obtain⟨y,h1,h2⟩:=h 0 Pa;simp only[List.getElem_cons_zero]at h1 h2;rw[h1];exact h2
theorem JD(x:Tree):Wd nodeB x=true->∀y,Wd nodeB y=true->(Je x y=true↔sortT x=sortT y):=Tree.ind (Q:=λx=>Wd nodeB x=true->∀y,Wd nodeB y=true->(Je x y=true↔sortT x=sortT y)) (λk t ks xs ih hx y hy=>by
  obtain⟨k',t',ks',ys⟩:=y;obtain⟨hn,hxs⟩:=Lh hx;obtain⟨hn',hys⟩:=Lh hy;have ih':∀x∈xs,∀y,Wd nodeB y=true->(Je x y=true↔sortT x=sortT y):=λx hx'=>ih x hx' (hxs x hx');rw[Je,Bool.and_eq_true,Bool.and_eq_true,Bool.and_eq_true,decide_eq_true_eq,decide_eq_true_eq,decide_eq_true_eq,sortT,sortT];by_cases h:k=k'
  ·subst h
   by_cases h6:k=6
   ·subst h6
    obtain⟨nd,len⟩:=Su hn;obtain⟨nd',len'⟩:=Su hn';rw[if_neg Pa,if_pos rfl,if_pos rfl,Bool.and_eq_true,decide_eq_true_eq,D6 xs ks ks' ys len];constructor
    ·rintro⟨⟨⟨-, e1⟩, e2⟩, e3, hall⟩
     have hp:ks.Perm ks':=R4 nd e3 (λk hk=>by
       obtain⟨i,hi,rfl⟩:=List.getElem_of_mem hk;obtain⟨y,h1,-⟩:=hall i hi;exact Zy h1)
     have hs:Rm ks=Rm ks':=by unfold Rm;exact mergeSort_of_perm hp
     rw[e1,<-hs]
     congr 1
     refine List.map_congr_left λkey hkey=>?_;have hin:=Dr.1 hkey;obtain⟨i,hi,rfl⟩:=List.getElem_of_mem hin;obtain⟨y,h1,h2⟩:=hall i hi;rw[Qi,Qi,h1,My nd hi Ca];simp only[Option.map_some,Option.getD_some];exact (ih' _ (eQ _) y (hys y (Mk h1))).1 h2
    intro e;injection e with _ e1 e2 e3
    have hl:ks.length=ks'.length:=by have:=congrArg List.length e2;rwa [Vq,Vq]at this
    refine⟨⟨⟨O,e1⟩,by omega⟩,hl,λi hi=>?_⟩;have hin:ks[i]∈Rm ks:=Dr.2 (eQ _);have hin':ks[i]∈ks':=Dr.1 (e2▸hin);obtain⟨y,h1⟩:=C3 len' hin';refine⟨y,h1,(ih' _ (eQ _) y (hys y (Mk h1))).2 ?_⟩;rw[<-e2]at e3;have:=List.map_inj_left.1 e3 ks[i] hin;rw[Qi,Qi,h1,My nd hi Ca]at this;simpa using this
   rw[if_pos h6, if_neg h6, if_neg h6];constructor
   ·rintro⟨⟨⟨-, e1⟩, e2⟩, e3⟩
    rw[e1,(Yy ih' e2 hys).1 e3]
   intro e;injection e with _ e1 _ e3
   have hl:xs.length=ys.length:=by have:=congrArg List.length e3;rwa [Ar,Ar,rQ,rQ]at this
   exact⟨⟨⟨O,e1⟩,hl⟩,(Yy ih' hl hys).2 e3⟩
  constructor
  ·rintro⟨⟨⟨e,-⟩,-⟩,-⟩;exact absurd e h
  intro e;exfalso;split at e <;> split at e <;> injection e with e <;> exact h e) x
theorem X0{q:Tree->Bool}:∀{xs:List Tree},(∀x∈xs,Wd q x=true)->Ik q xs=true
  | [],_=>rfl
  | x::xs,h=>by rw[Ik,h x Pa,X0 (λy hy=>h y (by simp[hy]))];rfl
theorem Ro:∀xs:List Tree,Cb xs=(xs.map Jb).sum
  | []=>rfl
  | x::xs=>by rw[Cb,Ro xs];rfl
theorem Es{xs ys:List Tree}(h:xs.Perm ys):Cb xs=Cb ys:=by
  rw[Ro,Ro];exact (h.map _).sum_nat
mutual
def Zd:Tree->Nat|.node _ t ks xs=>max t.length (max (Nk ks) (Vh xs))
def Vh:List Tree->Nat|[]=>0|x::xs=>max (Zd x) (Vh xs)
def Nk:List Str->Nat|[]=>0|k::ks=>max k.length (Nk ks)
end
theorem Mn:∀{ks:List Str}{k:Str},k∈ks->k.length<=Nk ks
  | y :: ys, k, h => by
    rw[Nk];rcases oQ.1 h with rfl|h
    ·omega
    have:=Mn h;omega
theorem Gk:∀{xs:List Tree}{x:Tree},x∈xs->Zd x<=Vh xs
  | y :: ys, k, h => by
    rw[Vh];rcases oQ.1 h with rfl|h
    ·omega
    have:=Gk h;omega
theorem Dv{n:Nat}:∀{ks:List Str},(∀k∈ks,k.length<=n)->Nk ks<=n
  | [],_=>by rw[Nk];omega
  | k :: ks, h => by
    rw[Nk];have h1:=h k Pa;have h2:=Dv (λy hy=>h y (by simp[hy]):∀k∈ks,k.length<=n);omega
theorem Bv{n:Nat}:∀{xs:List Tree},(∀x∈xs,Zd x<=n)->Vh xs<=n
  | [],_=>by rw[Vh];omega
  | k :: ks, h => by
    rw[Vh];have h1:=h k Pa;have h2:=Bv (λy hy=>h y (by simp[hy]):∀x∈ks,Zd x<=n);omega
theorem Ii(x:Tree):Zd x<=17592186044416->Nw x:=Tree.ind (Q:=λx=>Zd x<=17592186044416->Nw x) (λk t ks xs ih h=>by
  rw[Zd]at h;rw[Nw];exact⟨by omega,λk hk=>by have:=Mn hk;omega,H_ λy hy=>ih y hy (by have:=Gk hy;omega)⟩) x
theorem UB(x:Tree):Vf x=true->Zd x<=2048:=Tree.ind (Q:=λx=>Vf x=true->Zd x<=2048) (λk t ks xs ih h=>by
  rw[Vf,Bool.and_eq_true,Bool.and_eq_true,decide_eq_true_eq,List.all_eq_true]at h;rw[Zd];have h1:Nk ks<=2048:=Dv λk hk=>by have:=h.1.2 k hk;simp only[decide_eq_true_eq]at this;omega
  have key:∀ys:List Tree,(∀y∈ys,y∈xs)->Jj ys=true->Vh ys<=2048:=by
    intro ys
    induction ys with
    | nil=>intro _ _;rw[Vh];omega
    | cons y ys ihy =>
      intro hm hs;rw[Jj,Bool.and_eq_true]at hs;rw[Vh];have a:=ih y (hm y Pa) hs.1;have b:=ihy (λz hz=>hm z (by simp[hz])) hs.2;omega
  have h2:=key xs (λ_ h=>h) h.2;omega) x
def WC(x:Tree):Str:=if Kc x=true then VL false 0 x 0 else []
def QQ(x:Tree):Int:=if Kc x=true then 0 else 1
theorem Hn(q:Tree->Bool):∀xs:List Tree,Ik q xs=xs.all (Wd q)
  | []=>rfl
  | x::xs=>by rw[Ik,Hn q xs];rfl
def YQ(x:Tree):Bool:=decide (x.kind≠7)
theorem UF(p q:Tree->Bool)(x:Tree):Wd (λx=>p x&&q x) x=(Wd p x&&Wd q x):=Tree.ind (Q:=λx=>Wd (λx=>p x&&q x) x=(Wd p x&&Wd q x)) (λk t ks xs ih=>by
  rw[Wd,Wd,Wd,Hn,Hn,Hn];have h:xs.all (Wd λx=>p x&&q x)=(xs.all (Wd p)&&xs.all (Wd q)):=by
    rw[Bool.eq_iff_iff,Bool.and_eq_true,List.all_eq_true,List.all_eq_true,List.all_eq_true];refine⟨λg=>⟨λy hy=>?_,λy hy=>?_⟩,λg y hy=>?_⟩
    ·have:=g y hy;rw[ih y hy,Bool.and_eq_true]at this;exact this.1
    ·have:=g y hy;rw[ih y hy,Bool.and_eq_true]at this;exact this.2
    rw[ih y hy,Bool.and_eq_true];exact⟨g.1 y hy,g.2 y hy⟩
  rw[h];cases p (.node k t ks xs) <;> cases q (.node k t ks xs) <;> simp) x
theorem TF(x:Tree):Kc x=(Qh x&&Wd YQ x):=by
  have h:Wd rnodeB x=(Wd YQ x&&Wd nodeB x):=UF YQ nodeB x;rw[Kc,Qh,h];cases Hl x <;> cases Wd YQ x <;> simp
theorem Ih{x:Tree}(h:Kc x=true):Qh x=true:=by
  rw[TF,Bool.and_eq_true]at h;exact h.1
open Go.RowKit Go.Proofs
def GC(x:Tree)(ind d:Int):Prop:=Kc x=true/\(0<=ind/\ind<=8)/\(0<=d/\d<=32)
instance (x:Tree) (ind d:Int):Decidable (GC x ind d):=by unfold GC;infer_instance
def nq(q:Bool)(c:UInt8):Bool:=if c=34 then !q else q
def keepB(q:Bool)(c:UInt8)(l:Str):Str:=if nq q c=true\/(c≠32/\c≠10) then c::l else l
def Yi:Bool->Str->Str
  | _,[]=>[]
  | q,[c]=>keepB q c []
  | q,c::d::r=>if q=true/\c=92 then c::d::Yi q r else keepB q c (Yi (nq q c) (d::r))
def Bal(a b:Str):Prop:=∀r,Yi false (a++r)=b++Yi false r
def Inq(a:Str):Prop:=∀r,Yi true (a++r)=a++Yi true r
theorem Ux{q:Bool}{c:UInt8}{r:Str}(h:¬(q=true/\c=92)):Yi q (c::r)=keepB q c (Yi (nq q c) r):=by
  cases r with
  | nil=>rw[Yi,Yi]
  | cons d r=>rw[Yi,if_neg h]
theorem Bal.nil:Bal [] []:=λ_=>rfl
theorem Bal.app{a b a' b':Str}(h:Bal a a')(k:Bal b b'):Bal (a++b) (a'++b'):=λr=>by rw[sQ,h,k,sQ]
theorem Inq.nil:Inq []:=λ_=>rfl
theorem Inq.app{a b:Str}(h:Inq a)(k:Inq b):Inq (a++b):=λr=>by rw[sQ,h,k,sQ]
theorem Bal.byte{c:UInt8}(h1:c≠34)(h2:c≠32)(h3:c≠10):Bal [c] [c]:=λr=>by
  show Yi false (c::r)=c::Yi false r;rw[Ux Pa,keepB,nq,if_neg h1,if_pos (.inr ⟨h2,h3⟩)]
theorem Bal.bytes:∀{a:Str},(∀c∈a,c≠34/\c≠32/\c≠10)->Bal a a
  | [],_=>Bal.nil
  | c :: a, h => by
    have h1:=h c Pa;exact (Bal.byte h1.1 h1.2.1 h1.2.2).app (Bal.bytes λd hd=>h d (by simp[hd]))
theorem Inq.byte{c:UInt8}(h1:c≠34)(h2:c≠92):Inq [c]:=λr=>by
  show Yi true (c::r)=c::Yi true r;rw[Ux (λh=>h2 h.2),keepB,nq,if_neg h1,if_pos (.inl rfl)]
theorem Inq.bytes:∀{a:Str},(∀c∈a,c≠34/\c≠92)->Inq a
  | [],_=>Inq.nil
  | c :: a, h => by
    have h1:=h c Pa;exact (Inq.byte h1.1 h1.2).app (Inq.bytes λd hd=>h d (by simp[hd]))
def nl(s:Str):Nat:=s.count 10
theorem RB{k:Int}{t:Str}{ks:List Str}{xs:List Tree}(h:Kc (.node k t ks xs)=true){x:Tree}(hx:x∈xs):Kc x=true:=by
  unfold Kc Hl at h ⊢;simp only[Bool.and_eq_true,decide_eq_true_eq]at h ⊢;have h1:=Gh hx;have h2:=Tr hx;rw[Jb,Ce]at h;exact⟨⟨by omega,by omega⟩,(Lh h.2).2 x hx⟩
def R5(acc:List Str)(s:Str):List Str:=if s∈acc then acc else acc++[s]
def Xf(rows:List (List Str)):List Str:=rows.flatten.foldl R5 []
theorem JF{acc:List Str}{s t:Str}:t∈R5 acc s↔t∈acc\/t=s:=by
  unfold R5;split
  ·rename_i h
   constructor
   ·exact .inl
   rintro (h1|rfl)
   ·exact h1
   exact h
  simp
theorem T7{acc:List Str}(h:acc.Nodup)(s:Str):(R5 acc s).Nodup:=by
  unfold R5;split
  ·exact h
  rename_i hn
  rw[List.nodup_append];refine⟨h,by simp,?_⟩;rintro a ha b hb rfl;simp only[pQ]at hb;subst hb;exact hn ha
theorem Fs:∀(l:List Str){acc:List Str},acc.Nodup->(l.foldl R5 acc).Nodup
  | [],_,h=>h
  | s::l,_,h=>Fs l (T7 h s)
theorem Ty:∀(l:List Str){acc:List Str}{t:Str},t∈l.foldl R5 acc↔t∈acc\/t∈l
  | [],_,_=>by simp
  | s::l,_,_=>by rw[List.foldl_cons,Ty l,JF,oQ,or_assoc]
theorem Ie(rows:List (List Str)):(Xf rows).Nodup:=Fs _ List.nodup_nil
def DS(y:Tree):Bool:=decide (y.kind=4) || decide (y.kind=3)
def IS(x:Tree)(key:Str):Bool:=((EA x key).2&&DS (EA x key).1)&&decide (QQ (Gt (EA x key).1)=0)
def AS(x:Tree)(key:Str):Str:=if ((EA x key).2&&DS (EA x key).1)=true then WC (Gt (EA x key).1) else []
def L_(key:Str):List Tree->List Str->Option (List Str)
  | [],acc=>some acc
  | x::xs,acc=>if IS x key=true/\AS x key∉acc then L_ key xs (acc++[AS x key]) else none
def G6(v:Tree)(key:Str):Option (List Str):=if Kc v=true/\v.kind=5 then L_ key v.items [] else none
theorem M3{key:Str}:∀(xs:List Tree)(acc l:List Str),L_ key xs acc=some l->l.length=acc.length+xs.length
  | [],acc,l,h=>by rw[L_]at h;cases h;simp
  | x :: xs, acc, l, h => by
    rw[L_]at h;split at h
    ·have := M3 xs _ l h
     simp at this ⊢;omega
    cases h
theorem Ql{x:Tree}(h:Kc x=true):Gs x=x:=by rw[Gs,if_pos (Ih h)]
def Ends(r:Str):Prop:=∀c s,r=c::s->c=44\/c=93\/c=125
theorem Ends.nil:Ends []:=λc s h=>by cases h
open Go.RowKit
section
variable {P:Program}{w0 w:World}{Ds:List Nat}{pre post sb:List (Nat × Obj)}
end
section
variable {P:Program}{R:Exit->Act->World->Prop}{n:Nat}{kt:Kt}{s:Nat->Value}{w:World}{ops rest:List Oper}
variable {d:Nat}{ty:TypeId}{pos:String}{aft:Array Edge}{g:Option (Nat × Bool)}
variable {w0:World}{Ds:List Nat}{sb:List (Nat × Obj)}
end
end Go.Scarf
