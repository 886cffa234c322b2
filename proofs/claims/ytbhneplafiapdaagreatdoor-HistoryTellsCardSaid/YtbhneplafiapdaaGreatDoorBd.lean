/- A part of the proof. -/
import Derived.Lib.AppendStr
import Derived.Lib.Builder
import Derived.Lib.UnsafeStr
import Derived.Lib.RuneBytes
import Derived.Test.YtbhneplafiapdaaGreatDoorW19
import Derived.Laws.BytesString
import Derived.Lib.TrimU
import Derived.Lib.BufferRead
import Derived.Lib.ItoaMem
set_option linter.all false
set_option maxHeartbeats 8000000
set_option maxRecDepth 10000
namespace Go.Scarf
open Go.RowKit Go.Proofs
section
variable {P:Program}{w w' w0:World}{Ds E:List Nat}{bs_:List (Nat × Obj)}
def TY:Obj->Bool
  | .cells _ e _=>e==5
  | _=>false
def Xr(w:World)(b:Nat):Bool:=match w.heap[b]? with|some o=>TY o|none=>false
def Wk(w:World)(B pb:Nat):List Nat:=pb::(List.range w.heap.size).filter λb=>decide (B<=b)&&Xr w b
theorem Xv{B pb x:Nat}:x∈Wk w B pb↔x=pb\/(x<w.heap.size/\B<=x/\Xr w x=true):=by simp[Wk]
theorem CL{b:Nat}{o:Obj}(h:w.heap[b]? = some o):Xr w b=TY o:=by simp[Xr,h]
def Shp(T:Nat)(rest:List Value):Prop:=(T=264/\rest=[])\/(T=316/\∃m i,rest=[.bool m,J i])
theorem Shp.ne{T:Nat}{rest:List Value}(h:Shp T rest):(T==5)=false:=by rcases h with ⟨rfl,-⟩|⟨rfl,-⟩ <;> rfl
structure Bd (w:World) (B pb T:Nat) (rest:List Value) (s:Str):Prop where
  shp:Shp T rest
  le:B<=pb
  ex:∃ap v,w.heap[pb]? = some (.cells (ap::v::rest).toArray T)/\w.ownsRow B 5 1 v s.length (Lib.byteCells s)/\(ap=.pointer none\/ap=V pb)
theorem Bd.lt{B pb T:Nat}{rest:List Value}{s:Str}(h:Bd w B pb T rest s):pb<w.heap.size:=by
  obtain⟨ap,v,hh,-⟩:=h.ex;exact Wa hh
theorem Bd.base{B pb T:Nat}{rest:List Value}{s:Str}(h:Bd w B pb T rest s):B<=w.heap.size:=fQ h.le (Nat.le_of_lt h.lt)
theorem DQ{B n g:Nat}{v:Value}{xs:List Value}(h:w.ownsRow B 5 1 v n xs)(hg:v.ownBlock=some g):g<w.heap.size/\B<=g/\Xr w g=true:=by
  rcases h.2 with ⟨rfl,-⟩|⟨g',cap,cur,rfl,h1,h2,-⟩
  ·cases hg
  cases hg;exact⟨Wa h2,h1,by rw[CL h2];rfl⟩
theorem QL{B n:Nat}{v:Value}{xs:List Value}(h:w.ownsRow B 5 1 v n xs)(hs:Same E w w')(he:∀g,v.ownBlock=some g->g∉E):w'.ownsRow B 5 1 v n xs:=by
  refine⟨h.1,?_⟩;rcases h.2 with h2|⟨g,cap,cur,rfl,h1,h2,h3⟩
  ·exact .inl h2
  exact .inr ⟨g,cap,cur,O,h1,(hs.block g (Wa h2) (he g O)).trans h2,h3⟩
theorem Wk.step{B pb x:Nat}(hs:Same (Wk w B pb) w w')(hx:x∈Wk w' B pb):x∈Wk w B pb\/w.heap.size<=x:=by
  by_cases h:x<w.heap.size
  ·by_cases hm : x ∈ Wk w B pb
   ·exact .inl hm
   rcases Xv.1 hx with rfl|⟨h1, h2, h3⟩
   ·exact .inl (Xv.2 (.inl O))
   refine absurd (Xv.2 (.inr ⟨h, h2, ?_⟩)) hm;rw[Xr,<-hs.block x h hm];exact h3
  exact .inr U
theorem FR.grown{g:Option Nat}(h:FR w0 Ds bs_ w)(hg:w.grownBy w' g)(hr:∀b,g=some b->(b<w0.heap.size->b∈Ds)/\∀p∈bs_,p.1≠b):FR w0 Ds bs_ w':=by
  have hs:Same g.toList w w':=⟨hg.os,hg.tape,hg.output,hg.size,λb hb hn=>hg.block b hb (λe=>hn (by simp[<-e]))⟩;exact h.touch hs (λb hb=>hr b (by simpa using hb))
end
section
variable {P:Program}{w:World}{ρ:Operand->Value}{dst:Option Nat}{ty:TypeId}{pos:String}{aft:Array Edge}{g:Option (Nat × Bool)}
end
section
variable {P:Program}{R:Exit->Act->World->Prop}{n:Nat}{kt:Kt}{s:Nat->Value}{w:World}{ops rest:List Oper}
variable {d:Nat}{ty:TypeId}{pos:String}{aft:Array Edge}{g:Option (Nat × Bool)}
variable {w0:World}{Ds:List Nat}{bs_:List (Nat × Obj)}
end
theorem FR.addD{w0 w:World}{Ds:List Nat}{bs_:List (Nat × Obj)}{b:Nat}{o:Obj}(h:FR w0 Ds bs_ w)(hh:w.heap[b]? = some o)(hd:w0.heap.size<=b\/b∈Ds)(hn:∀p∈bs_,p.1≠b):FR w0 Ds ((b,o)::bs_) w :=
  ⟨h.same,λp hp=>by
    rcases oQ.1 hp with rfl|hp
    ·exact⟨hh,hd⟩
    exact h.own p hp,List.pairwise_cons.2 ⟨λq hq=>hn q hq,h.desc⟩⟩
def NY(r:Int):Str:=(Lib.encodeRuneZ r).map λx=>UInt8.ofNat x.toNat
structure BW (w0:World) (Ds:List Nat) (w:World) (B pb T:Nat) (rest:List Value) (s:Str):Prop where
  bd:Bd w B pb T rest s
  sub:∀x∈Wk w B pb,x<w0.heap.size->x∈Ds
  ge:w0.heap.size<=w.heap.size
section
variable {w0 w w':World}{Ds E:List Nat}{bs_:List (Nat × Obj)}{B pb T:Nat}{rest:List Value}{s t:Str}
theorem BW.start(h:Bd w0 B pb T rest s):BW w0 (Wk w0 B pb) w0 B pb T rest s:=⟨h,λx hx _=>hx,gQ _⟩
theorem BW.own(h:Bd w B pb T rest s)(hb:w0.heap.size<=B)(hg:w0.heap.size<=w.heap.size):BW w0 Ds w B pb T rest s :=
  ⟨h,λx hx hl=>by
    have:=h.le;rcases Xv.1 hx with rfl|⟨-,h2,-⟩ <;> omega,hg⟩
theorem BW.lt(h:BW w0 Ds w B pb T rest s):pb<w.heap.size:=h.bd.lt
theorem Bd.same(h:Bd w B pb T rest s)(hs:Same E w w')(hp:pb∉E)(he:∀x∈E,Xr w x=false):Bd w' B pb T rest s:=by
  obtain⟨h1,h2,ap,v,h3,h4,h5⟩:=h;refine⟨h1,h2,ap,v,(hs.block pb (Wa h3) hp).trans h3,QL h4 hs (λg hg hm=>?_),h5⟩;have:=(DQ h4 hg).2.2;rw[he g hm]at this;cases this
theorem Bd.ext(h:Bd w B pb T rest s)(hs:Same [] w w'):Bd w' B pb T rest s:=h.same hs Ua Ua
theorem BW.step(h:BW w0 Ds w B pb T rest s)(hs:Same E w w')(hp:pb∉E)(he:∀x∈E,Xr w x=false)(he':∀x∈E,Xr w' x=false):BW w0 Ds w' B pb T rest s :=
  ⟨h.bd.same hs hp he,λx hx hl=>by
    refine h.sub x (Xv.2 ?_) hl;have hl2:=Nat.lt_of_lt_of_le hl h.ge;rcases Xv.1 hx with rfl|⟨-,h2,h3⟩
    ·exact .inl O
    refine .inr ⟨hl2, h2, ?_⟩;have hn:x∉E:=λhm=>by rw[he' x hm]at h3;cases h3
    rw[Xr,<-hs.block x hl2 hn];exact h3,fQ h.ge hs.size⟩
theorem BW.ext(h:BW w0 Ds w B pb T rest s)(hs:Same [] w w'):BW w0 Ds w' B pb T rest s:=h.step hs Ua Ua Ua
theorem Rep.off{d:D}{cs:List Value}(h:Rep (λx=>x∉Wk w B pb) w d cs)(hs:Same (Wk w B pb) w w'):Rep (λx=>x∉Wk w' B pb) w' d cs :=
  ((h.old).same hs (λb hb hn=>hn.1 hb)).weaken λx hx _ hm=>by
    rcases Wk.step hs hm with h1|h1
    ·exact hx.1 h1
    have:=hx.2;omega
end
section
variable {P:Program}{w:World}{ρ:Operand->Value}{dst:Option Nat}{ty:TypeId}{pos:String}{aft:Array Edge}{g:Option (Nat × Bool)}
end
def HP:Str:=[48,49,50,51,52,53,54,55,56,57,97,98,99,100,101,102,103,104,105,106,107,108,109,110,111,112,113,114,115,116,117,118,119,120,121,122]
def dg(k:Nat):UInt8:=HP.getD k 0
def KZ(r:Nat):Str:=if r<16 then [dg r] else [dg (r/16),dg (r%16)]
def LC(r:Int):Int:=if r=34 then 34 else if r=92 then 92 else if r=8 then 98 else if r=12 then 102 else if r=10 then 110 else if r=13 then 114 else if r=9 then 116 else 0
def escS(r:Nat):Str:=if LC r≠0 then [92,UInt8.ofNat (LC r).toNat] else if 32<=r then NY r else [92,117]++Lib.repeatL [48] (4-(KZ r).length)++KZ r
def MZ:Nat->Str->Nat->Str
  | 0,_,_=>[]
  | f+1,s,p=>if p<s.length then escS (Utf8.decode (bs s) p).1++MZ f s (p+(Utf8.decode (bs s) p).2) else []
def WX(s:Str)(p:Nat):Str:=MZ (s.length-p) s p
def XU(s:Str):Str:=[34]++WX s 0++[34]
def GS(m:Bool)(ind d:Nat):Str:=if m then [10]++Lib.repeatL [32] (ind*d) else []
def qS(t:Str):Str:=if Lib.validD t=true then XU t else []
theorem Bd.mul{w:World}{B pb T:Nat}{m:Bool}{ind:Int}{s:Str}(h:Bd w B pb T [.bool m,J ind] s):w.cell? ⟨pb,2,none⟩=some (.bool m):=by
  obtain⟨ap,v,hh,-⟩:=h.ex;rw[Vc hh];rfl
theorem Bd.ind{w:World}{B pb T:Nat}{m:Bool}{ind:Int}{s:Str}(h:Bd w B pb T [.bool m,J ind] s):w.cell? ⟨pb,3,none⟩=some (J ind):=by
  obtain⟨ap,v,hh,-⟩:=h.ex;rw[Vc hh];rfl
def LS(m:Bool)(ind d:Nat):Bool->List Str->Str
  | _,[]=>[]
  | first,p::ps=>(if first then [] else [44])++(GS m ind (d+1)++(p++LS m ind d false ps))
def WJ(m:Bool)(ind d:Nat)(o c:UInt8)(ps:List Str):Str:=[o]++(LS m ind d true ps++((if ps=[] then [] else GS m ind d)++[c]))
mutual
def CV(m:Bool)(ind:Nat):Tree->Nat->Str
  | .node k t ks xs,d=>if k=1 then [110,117,108,108] else if k=4 then qS t else if k=5 then WJ m ind d 91 93 (HR m ind xs (d+1)) else if k=6 then WJ m ind d 123 125 (LR m ind xs ks (d+1)) else t
def HR(m:Bool)(ind:Nat):List Tree->Nat->List Str
  | [],_=>[]
  | x::xs,d=>CV m ind x d::HR m ind xs d
def LR(m:Bool)(ind:Nat):List Tree->List Str->Nat->List Str
  | [],_,_=>[]
  | x::xs,ks,d=>(qS (ks.headD [])++([58]++((if m then [32] else [])++CV m ind x d)))::LR m ind xs ks.tail d
end
theorem Hx:∀{xs:List Tree}{x:Tree},x∈xs->Be x<=Fd xs
  | y :: ys, x, h => by
    rw[Fd];rcases oQ.1 h with rfl|h
    ·omega
    have:=Hx h;omega
theorem Jk{x:Tree}(h:Jd x=true):Be x<=32:=by
  unfold Jd Ok at h;simp only[Bool.and_eq_true,decide_eq_true_eq]at h;exact h.1.2
theorem C6{x:Num}(h:Ad x=true)(hd:x.digits=[]):x=Num.zero:=by
  unfold Ad at h;simp only[Bool.or_eq_true,Bool.and_eq_true,decide_eq_true_eq]at h;rcases h with h|h
  ·exact h
  exact absurd hd (Bf h.1.1.1.1.1)
theorem IL{ks:List Str}{xs:List Tree}(hl:ks.length=xs.length){key:Str}(h:key∈ks):∃y,Se ks xs key=some y:=by
  induction ks generalizing xs with
  | nil=>cases h
  | cons k ks ih =>
    cases xs with
    | nil=>cases hl
    | cons x xs =>
      rw[Se];by_cases e:k=key
      ·exact⟨x,if_pos e⟩
      rw[if_neg e];exact ih (by simpa using hl) (by rcases oQ.1 h with h|h;exact absurd h.symm e;exact h)
theorem AI{ks:List Str}{xs:List Tree}{key:Str}{y:Tree}(h:Se ks xs key=some y):key∈ks:=by
  induction ks generalizing xs with
  | nil=>cases xs <;> cases h
  | cons k ks ih =>
    cases xs with
    | nil=>cases h
    | cons x xs =>
      rw[Se]at h;by_cases e:k=key
      ·simp[e]
      rw[if_neg e]at h;simp[ih h]
theorem I9{q:Tree->Bool}:∀{xs:List Tree},(∀x∈xs,Me q x=true)->Pr q xs=true
  | [],_=>rfl
  | x::xs,h=>by rw[Pr,h x Ua,I9 (λy hy=>h y (by simp[hy]))];rfl
theorem Us:∀xs:List Tree,Ob xs=(xs.map Ub).sum
  | []=>rfl
  | x::xs=>by rw[Ob,Us xs];rfl
theorem Ox{xs ys:List Tree}(h:xs.Perm ys):Ob xs=Ob ys:=by
  rw[Us,Us];exact (h.map _).sum_nat
mutual
def He:Tree->Nat|.node _ t ks xs=>max t.length (max (Rn ks) (Gk xs))
def Gk:List Tree->Nat|[]=>0|x::xs=>max (He x) (Gk xs)
def Rn:List Str->Nat|[]=>0|k::ks=>max k.length (Rn ks)
end
theorem Yn:∀{ks:List Str}{k:Str},k∈ks->k.length<=Rn ks
  | y :: ys, k, h => by
    rw[Rn];rcases oQ.1 h with rfl|h
    ·omega
    have:=Yn h;omega
theorem Oj:∀{xs:List Tree}{x:Tree},x∈xs->He x<=Gk xs
  | y :: ys, k, h => by
    rw[Gk];rcases oQ.1 h with rfl|h
    ·omega
    have:=Oj h;omega
theorem K0{n:Nat}:∀{ks:List Str},(∀k∈ks,k.length<=n)->Rn ks<=n
  | [],_=>by rw[Rn];omega
  | k :: ks, h => by
    rw[Rn];have h1:=h k Ua;have h2:=K0 (λy hy=>h y (by simp[hy]):∀k∈ks,k.length<=n);omega
theorem Vy{n:Nat}:∀{xs:List Tree},(∀x∈xs,He x<=n)->Gk xs<=n
  | [],_=>by rw[Gk];omega
  | k :: ks, h => by
    rw[Gk];have h1:=h k Ua;have h2:=Vy (λy hy=>h y (by simp[hy]):∀x∈ks,He x<=n);omega
theorem Uj(x:Tree):He x<=17592186044416->H2 x:=Tree.ind (Q:=λx=>He x<=17592186044416->H2 x) (λk t ks xs ih h=>by
  rw[He]at h;rw[H2];exact⟨by omega,λk hk=>by have:=Yn hk;omega,ZC λy hy=>ih y hy (by have:=Oj hy;omega)⟩) x
theorem Lv(x:Tree):Ki x=true->He x<=2048:=Tree.ind (Q:=λx=>Ki x=true->He x<=2048) (λk t ks xs ih h=>by
  rw[Ki,Bool.and_eq_true,Bool.and_eq_true,decide_eq_true_eq,List.all_eq_true]at h;rw[He];have h1:Rn ks<=2048:=K0 λk hk=>by have:=h.1.2 k hk;simp only[decide_eq_true_eq]at this;omega
  have key:∀ys:List Tree,(∀y∈ys,y∈xs)->Pm ys=true->Gk ys<=2048:=by
    intro ys
    induction ys with
    | nil=>intro _ _;rw[Gk];omega
    | cons y ys ihy =>
      intro hm hs;rw[Pm,Bool.and_eq_true]at hs;rw[Gk];have a:=ih y (hm y Ua) hs.1;have b:=ihy (λz hz=>hm z (by simp[hz])) hs.2;omega
  have h2:=key xs (λ_ h=>h) h.2;omega) x
def KN(x:Tree):Str:=if Jd x=true then CV false 0 x 0 else []
def EX(x:Tree):Int:=if Jd x=true then 0 else 1
theorem Cn(q:Tree->Bool):∀xs:List Tree,Pr q xs=xs.all (Me q)
  | []=>rfl
  | x::xs=>by rw[Pr,Cn q xs];rfl
def RZ(x:Tree):Bool:=decide (x.kind≠7)
theorem NM(p q:Tree->Bool)(x:Tree):Me (λx=>p x&&q x) x=(Me p x&&Me q x):=Tree.ind (Q:=λx=>Me (λx=>p x&&q x) x=(Me p x&&Me q x)) (λk t ks xs ih=>by
  rw[Me,Me,Me,Cn,Cn,Cn];have h:xs.all (Me λx=>p x&&q x)=(xs.all (Me p)&&xs.all (Me q)):=by
    rw[Bool.eq_iff_iff,Bool.and_eq_true,List.all_eq_true,List.all_eq_true,List.all_eq_true];refine⟨λg=>⟨λy hy=>?_,λy hy=>?_⟩,λg y hy=>?_⟩
    ·have:=g y hy;rw[ih y hy,Bool.and_eq_true]at this;exact this.1
    ·have:=g y hy;rw[ih y hy,Bool.and_eq_true]at this;exact this.2
    rw[ih y hy,Bool.and_eq_true];exact⟨g.1 y hy,g.2 y hy⟩
  rw[h];cases p (.node k t ks xs) <;> cases q (.node k t ks xs) <;> simp) x
theorem PI(x:Tree):Jd x=(Zk x&&Me RZ x):=by
  have h:Me rnodeB x=(Me RZ x&&Me nodeB x):=NM RZ nodeB x;rw[Jd,Zk,h];cases Ok x <;> cases Me RZ x <;> simp
theorem Ys{x:Tree}(h:Jd x=true):Zk x=true:=by
  rw[PI,Bool.and_eq_true]at h;exact h.1
def KK(x:Tree)(ind d:Int):Prop:=Jd x=true/\(0<=ind/\ind<=8)/\(0<=d/\d<=32)
instance (x:Tree) (ind d:Int):Decidable (KK x ind d):=by unfold KK;infer_instance
def nq(q:Bool)(c:UInt8):Bool:=if c=34 then !q else q
def keepB(q:Bool)(c:UInt8)(l:Str):Str:=if nq q c=true\/(c≠32/\c≠10) then c::l else l
def Bm:Bool->Str->Str
  | _,[]=>[]
  | q,[c]=>keepB q c []
  | q,c::d::r=>if q=true/\c=92 then c::d::Bm q r else keepB q c (Bm (nq q c) (d::r))
def Bal(a b:Str):Prop:=∀r,Bm false (a++r)=b++Bm false r
def Inq(a:Str):Prop:=∀r,Bm true (a++r)=a++Bm true r
theorem D3{q:Bool}{c:UInt8}{r:Str}(h:¬(q=true/\c=92)):Bm q (c::r)=keepB q c (Bm (nq q c) r):=by
  cases r with
  | nil=>rw[Bm,Bm]
  | cons d r=>rw[Bm,if_neg h]
theorem Bal.nil:Bal [] []:=λ_=>rfl
theorem Bal.app{a b a' b':Str}(h:Bal a a')(k:Bal b b'):Bal (a++b) (a'++b'):=λr=>by rw[sQ,h,k,sQ]
theorem Inq.nil:Inq []:=λ_=>rfl
theorem Inq.app{a b:Str}(h:Inq a)(k:Inq b):Inq (a++b):=λr=>by rw[sQ,h,k,sQ]
theorem Bal.byte{c:UInt8}(h1:c≠34)(h2:c≠32)(h3:c≠10):Bal [c] [c]:=λr=>by
  show Bm false (c::r)=c::Bm false r;rw[D3 Ua,keepB,nq,if_neg h1,if_pos (.inr ⟨h2,h3⟩)]
theorem Bal.bytes:∀{a:Str},(∀c∈a,c≠34/\c≠32/\c≠10)->Bal a a
  | [],_=>Bal.nil
  | c :: a, h => by
    have h1:=h c Ua;exact (Bal.byte h1.1 h1.2.1 h1.2.2).app (Bal.bytes λd hd=>h d (by simp[hd]))
theorem Inq.byte{c:UInt8}(h1:c≠34)(h2:c≠92):Inq [c]:=λr=>by
  show Bm true (c::r)=c::Bm true r;rw[D3 (λh=>h2 h.2),keepB,nq,if_neg h1,if_pos (.inl rfl)]
theorem Inq.bytes:∀{a:Str},(∀c∈a,c≠34/\c≠92)->Inq a
  | [],_=>Inq.nil
  | c :: a, h => by
    have h1:=h c Ua;exact (Inq.byte h1.1 h1.2).app (Inq.bytes λd hd=>h d (by simp[hd]))
def nl(s:Str):Nat:=s.count 10
theorem FI{k:Int}{t:Str}{ks:List Str}{xs:List Tree}(h:Jd (.node k t ks xs)=true){x:Tree}(hx:x∈xs):Jd x=true:=by
  unfold Jd Ok at h ⊢;simp only[Bool.and_eq_true,decide_eq_true_eq]at h ⊢;have h1:=Ef hx;have h2:=Hx hx;rw[Ub,Be]at h;exact⟨⟨by omega,by omega⟩,(Wn h.2).2 x hx⟩
def W_(acc:List Str)(s:Str):List Str:=if s∈acc then acc else acc++[s]
def Li(rows:List (List Str)):List Str:=rows.flatten.foldl W_ []
theorem DM{acc:List Str}{s t:Str}:t∈W_ acc s↔t∈acc\/t=s:=by
  unfold W_;split
  ·rename_i h
   constructor
   ·exact .inl
   rintro (h1|rfl)
   ·exact h1
   exact h
  simp
theorem IC{acc:List Str}(h:acc.Nodup)(s:Str):(W_ acc s).Nodup:=by
  unfold W_;split
  ·exact h
  rename_i hn
  rw[List.nodup_append];refine⟨h,by simp,?_⟩;rintro a ha b hb rfl;simp only[pQ]at hb;subst hb;exact hn ha
theorem Lx:∀(l:List Str){acc:List Str},acc.Nodup->(l.foldl W_ acc).Nodup
  | [],_,h=>h
  | s::l,_,h=>Lx l (IC h s)
theorem M4:∀(l:List Str){acc:List Str}{t:Str},t∈l.foldl W_ acc↔t∈acc\/t∈l
  | [],_,_=>by simp
  | s::l,_,_=>by rw[List.foldl_cons,M4 l,DM,oQ,or_assoc]
theorem Vf(rows:List (List Str)):(Li rows).Nodup:=Lx _ List.nodup_nil
def idK(y:Tree):Bool:=decide (y.kind=4) || decide (y.kind=3)
def idB(x:Tree)(key:Str):Bool:=((JG x key).2&&idK (JG x key).1)&&decide (EX (Ny (JG x key).1)=0)
def idS(x:Tree)(key:Str):Str:=if ((JG x key).2&&idK (JG x key).1)=true then KN (Ny (JG x key).1) else []
def NG(key:Str):List Tree->List Str->Option (List Str)
  | [],acc=>some acc
  | x::xs,acc=>if idB x key=true/\idS x key∉acc then NG key xs (acc++[idS x key]) else none
def TA(v:Tree)(key:Str):Option (List Str):=if Jd v=true/\v.kind=5 then NG key v.items [] else none
theorem X6{key:Str}:∀(xs:List Tree)(acc l:List Str),NG key xs acc=some l->l.length=acc.length+xs.length
  | [],acc,l,h=>by rw[NG]at h;cases h;simp
  | x :: xs, acc, l, h => by
    rw[NG]at h;split at h
    ·have := X6 xs _ l h
     simp at this ⊢;omega
    cases h
theorem Uo{x:Tree}(h:Jd x=true):Fx x=x:=by rw[Fx,if_pos (Ys h)]
def Ends(r:Str):Prop:=∀c s,r=c::s->c=44\/c=93\/c=125
theorem Ends.nil:Ends []:=λc s h=>by cases h
open Go.RowKit
section
variable {P:Program}{w0 w:World}{Ds:List Nat}{pre post sb:List (Nat × Obj)}
end
section
variable {P:Program}{R:Exit->Act->World->Prop}{n:Nat}{kt:Kt}{s:Nat->Value}{w:World}{ops rest:List Oper}
variable {d:Nat}{ty:TypeId}{pos:String}{aft:Array Edge}{g:Option (Nat × Bool)}
variable {w0:World}{Ds:List Nat}{sb:List (Nat × Obj)}
end
end Go.Scarf
