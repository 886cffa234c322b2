/- A part of the proof. -/
import Derived.Lib.DecodeN
import Derived.Test.YtbhneplafiapdaaGreatDoorP1
import Derived.Lib.ParseIntBCases
import Derived.Test.YtbhneplafiapdaaGreatDoorSp
import Derived.Sort.Walk0
import Derived.Laws.Slices
import Derived.Test.YtbhneplafiapdaaGreatDoorTr
set_option linter.all false
set_option maxHeartbeats 8000000
set_option maxRecDepth 10000
namespace Go.Scarf
open Go.RowKit Go.Proofs
theorem all_cons{c:UInt8}{s:Str}(h:(c::s).all Lg=true):Lg c=true/\s.all Lg=true:=by simpa using h
open Go.RowKit Go.Proofs Go.Maps
section
variable {P:Program}{w0 w:World}{Ds ids:List Nat}
theorem FR.noseg{bs sb:List (Nat × Obj)}(h:FR w0 Ds (bs++(sb++[])) w):FR w0 Ds bs w:=h.sub (List.sublist_append_left _ _)
theorem Z7{t e:TypeId}(h:P.underlying t=some (.slice e)):P.elem t=e:=by unfold Program.elem;rw[h]
theorem HA{ρ:Operand->Value}{dst:Option Nat}{ty:TypeId}{pos:String}{aft:Array Edge}{g:Option (Nat × Bool)}{t e sz:Nat}{x y z:Operand}{A:Option Addr}{n c:Nat}{k k2:IntKind}(m:Nat)(ht:Ji P t e sz)(hx:ρ x=.slice A n c)(hy:ρ y=.int k (m:Int))(hz:ρ z=.int k2 (m:Int))(hm:m<=c) :
    (execOp ρ ⟨dst,.slice t x none (some y) (some z),ty,pos,aft,g⟩).run P w=.ok (.value (.slice A m m)) w:=by
  have he:=Z7 ht.1;have ht':P.underlying t=some (.slice (P.elem t)):=by rw[he];exact ht.1
  have h:=run_slice_hm (P:=P) w t A n c ht' k k2 m m Ca Ca Ca;have hs:(sizeOf (P.elem t)).run P w=.ok sz w:=by rw[he];exact ht.2 w
  rw[hs]at h;have e1:sliced A 0 (m:Int).toNat (m:Int).toNat sz=.slice A m m:=by
    unfold sliced;simp only[Int.toNat_natCast,Nat.zero_mul,Nat.sub_zero];split
    ·rfl
    cases A <;> simp[Yq]
  simp only[execOp,Option.map_none,Option.map_some,hx,hy,hz,run_sliceAt_slice w t _ _ _ _ ht',Sem.run_bind,h,Result.andThen,e1];rfl
theorem FA{ρ:Operand->Value}{dst:Option Nat}{ty:TypeId}{pos:String}{aft:Array Edge}{g:Option (Nat × Bool)}{t e sz:Nat}{x y:Operand}{A:Option Addr}{n c:Nat}{k:IntKind}(m:Nat)(ht:Ji P t e sz)(hx:ρ x=.slice A n c)(hy:ρ y=.int k (m:Int))(hm:m<=n) :
    (execOp ρ ⟨dst,.slice t x (some y) none none,ty,pos,aft,g⟩).run P w=.ok (.value (.slice (if c=m then A else A.map (·.add (m*sz))) (n-m) (c-m))) w:=by
  have he:=Z7 ht.1;have ht':P.underlying t=some (.slice (P.elem t)):=by rw[he];exact ht.1
  have h:=run_slice_l (P:=P) w t A n c ht' k m Ca Ca;have hs:(sizeOf (P.elem t)).run P w=.ok sz w:=by rw[he];exact ht.2 w
  rw[hs]at h;simp only[execOp,Option.map_none,Option.map_some,hx,hy,run_sliceAt_slice w t _ _ _ _ ht',Sem.run_bind,h,Result.andThen,sliced,Int.toNat_natCast];rfl
end
section
variable {α:Type}{f:α->α->Int}{xs ys:List α}{j:Nat}{Q q r:Int}
end
def Bf(x:Tree)(key:Str):List Str:=(G6 x key).getD []
def D1(x:Tree)(key id:Str):Tree × Bool:=if id∈Bf x key then (x.items.getD ((Bf x key).idxOf id) Ge,true) else (Ge,false)
theorem VB{x:Tree}{key:Str}{l:List Str}(h:G6 x key=some l):Kc x=true/\x.kind=5/\L_ key x.items []=some l:=by
  unfold G6 at h;split at h
  ·rename_i hh;exact⟨hh.1,hh.2,h⟩
  cases h
theorem U4{x:Tree}{key:Str}(h:Bf x key≠[]):(Bf x key).length=x.items.length/\Kc x=true:=by
  unfold Bf at h ⊢;cases hv:G6 x key with
  | none=>rw[hv]at h;exact absurd rfl h
  | some l =>
    obtain⟨h1,h2,h3⟩:=VB hv;have:=M3 _ _ _ h3;exact⟨by simpa using this,h1⟩
structure Nodes where
  lab:Nat->Str
  lf:Nat->Nat
  le:∀x,lf x<=x
def turn(a b:Nodes)(x y:Nat):Nat:=if a.lab x=b.lab y then 0 else 1
def TH(a b:Nodes):Nat->Nat->Nat->Nat->Nat->Nat
  | 0,i,k,j,l=>(k-i)+(l-j)
  | f + 1, i, k, j, l =>
    if k<=i then l-j else if l<=j then k-i else
      let m:=min (TH a b f i (k-1) j l) (TH a b f i k j (l-1))+1
      if i<=a.lf (k-1)/\j<=b.lf (l-1) then min m (TH a b f i (a.lf (k-1)) j (b.lf (l-1))+TH a b f (a.lf (k-1)) (k-1) (b.lf (l-1)) (l-1)+turn a b (k-1) (l-1)) else m
def fd(a b:Nodes)(i k j l:Nat):Nat:=TH a b ((k-i)+(l-j)) i k j l
section
variable {a b:Nodes}{i k j l:Nat}
theorem KG(h:k<=i):fd a b i k j l=l-j:=by
  rw[fd];cases hf:(k-i)+(l-j)with
  | zero=>rw[TH];omega
  | succ f=>rw[TH,if_pos h]
theorem JC(h:l<=j):fd a b i k j l=k-i:=by
  rw[fd];cases hf:(k-i)+(l-j)with
  | zero=>rw[TH];omega
  | succ f =>
    rw[TH,if_pos h];split <;> omega
end
def td(a b:Nodes)(x y:Nat):Nat:=fd a b (a.lf x) (x+1) (b.lf y) (y+1)
def lfOk(fs:List Int)(n:Nat):Prop:=∀j (h:j<fs.length),j<n->0<=fs[j]/\fs[j]<=(j:Int)/\∀i (hi:i<j),fs[j]<=(i:Int)->fs[j]<=fs[i]' Ca
def IG(fs:List Int)(x:Nat):Nat:=min (fs.getD x 0).toNat x
def TC(ls:List Str)(fs:List Int):Nodes:=⟨λx=>ls.getD x [],IG fs,λ_=>Nat.min_le_right _ _⟩
theorem lfOk.at{fs:List Int}{n j:Nat}(h:lfOk fs n)(hj:j<fs.length)(hn:j<n):((IG fs j:Nat):Int)=fs[j]:=by
  obtain⟨h1,h2,-⟩:=h j hj hn;have e:fs.getD j 0=fs[j]:=by simp[List.getD,hj]
  rw[IG,e];omega
inductive Rts (fs:List Int):Nat->List Nat->Prop
  | nil:Rts fs 0 []
  | snoc {r:Nat} {l:List Nat}:Rts fs (IG fs r) l->Rts fs (r+1) (l++[r])
theorem Rts.last{fs:List Int}{p r:Nat}{l:List Nat}(h:Rts fs p (l++[r])):p=r+1/\Rts fs (IG fs r) l:=by
  generalize e:l++[r]=m at h;cases h with
  | nil=>simp at e
  | snoc h1 =>
    obtain⟨rfl,e2⟩:=List.append_inj' e rfl;simp only[List.cons.injEq,and_true]at e2;subst e2;exact⟨O,h1⟩
theorem Rts.none{fs:List Int}{p:Nat}(h:Rts fs p []):p=0:=by
  generalize e:([]:List Nat)=m at h;cases h with
  | nil=>rfl
  | snoc h1=>simp at e
theorem Rts.len{fs:List Int}{p:Nat}{l:List Nat}(h:Rts fs p l):l.length<=p:=by
  induction h with
  | nil=>simp
  | snoc h1 ih =>
    rename_i r l
    have:IG fs r<=r:=Nat.min_le_right _ _;simp only[dQ,kQ,List.length_nil];omega
theorem lfOk.snoc{fs:List Int}{j:Nat}(h:lfOk fs j)(hj:j<fs.length)(h0:0<=fs[j])(h1:fs[j]<=(j:Int))(hc:∀z (hz:z<j),fs[j]<=(z:Int)->fs[j]<=fs[z]' Ca):lfOk fs (j+1):=by
  intro i hi hn;by_cases e:i=j
  ·subst e
   exact⟨h0,h1,λz hz hle=>hc z hz hle⟩
  exact h i hi Ca
def KJ(fs:List Int)(i:Nat):Bool:=decide (∀j,j<fs.length->i<j->fs.getD j 0≠fs.getD i 0)
def Sz(fs:List Int):List Nat:=(List.range fs.length).filter λi=>KJ fs i
theorem D5{fs:List Int}{i:Nat}:i∈Sz fs↔i<fs.length/\∀j,j<fs.length->i<j->fs.getD j 0≠fs.getD i 0:=by
  unfold Sz KJ;rw[List.mem_filter,List.mem_range,decide_eq_true_eq]
theorem DB(fs:List Int):(Sz fs).Pairwise (· < ·):=List.Pairwise.filter _ List.pairwise_lt_range
def AO(ls:List Str)(fs:List Int)(gs:List Str)(hs:List Int):Nat:=fd (TC ls fs) (TC gs hs) 0 ls.length 0 gs.length
section
variable {ls gs ks:List Str}{fs hs is:List Int}
end
section
variable {ls gs:List Str}{fs hs:List Int}{r:Str}
end
end Go.Scarf
