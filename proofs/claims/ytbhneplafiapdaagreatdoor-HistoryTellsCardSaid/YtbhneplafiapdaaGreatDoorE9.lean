/- A part of the proof. -/
import Derived.Test.YtbhneplafiapdaaGreatDoorE7
import Derived.Test.YtbhneplafiapdaaGreatDoorSp
import Derived.Sort.Walk0
import Derived.Laws.Slices
import Derived.Test.YtbhneplafiapdaaGreatDoorRow
set_option linter.all false
set_option maxHeartbeats 8000000
set_option maxRecDepth 10000
namespace Go.Scarf
open Go.RowKit Go.Proofs Go.Proofs.Tryz
open Go.RowKit Go.Proofs Go.Maps
section
variable {P:Program}{w0 w:World}{Ds ids:List Nat}
theorem FR.noseg{bs sb:List (Nat × Obj)}(h:FR w0 Ds (bs++(sb++[])) w):FR w0 Ds bs w:=h.sub (List.sublist_append_left _ _)
theorem VD{t e:TypeId}(h:P.underlying t=some (.slice e)):P.elem t=e:=by unfold Program.elem;rw[h]
theorem CG{ρ:Operand->Value}{dst:Option Nat}{ty:TypeId}{pos:String}{aft:Array Edge}{g:Option (Nat × Bool)}{t e sz:Nat}{x y z:Operand}{A:Option Addr}{n c:Nat}{k k2:IntKind}(m:Nat)(ht:Wi P t e sz)(hx:ρ x=.slice A n c)(hy:ρ y=.int k (m:Int))(hz:ρ z=.int k2 (m:Int))(hm:m<=c) :
    (execOp ρ ⟨dst,.slice t x none (some y) (some z),ty,pos,aft,g⟩).run P w=.ok (.value (.slice A m m)) w:=by
  have he:=VD ht.1;have ht':P.underlying t=some (.slice (P.elem t)):=by rw[he];exact ht.1
  have h:=run_slice_hm (P:=P) w t A n c ht' k k2 m m U U U;have hs:(sizeOf (P.elem t)).run P w=.ok sz w:=by rw[he];exact ht.2 w
  rw[hs]at h;have e1:sliced A 0 (m:Int).toNat (m:Int).toNat sz=.slice A m m:=by
    unfold sliced;simp only[Int.toNat_natCast,Nat.zero_mul,Nat.sub_zero];split
    ·rfl
    cases A <;> simp[Hj]
  simp only[execOp,Option.map_none,Option.map_some,hx,hy,hz,run_sliceAt_slice w t _ _ _ _ ht',Sem.run_bind,h,Result.andThen,e1];rfl
theorem EG{ρ:Operand->Value}{dst:Option Nat}{ty:TypeId}{pos:String}{aft:Array Edge}{g:Option (Nat × Bool)}{t e sz:Nat}{x y:Operand}{A:Option Addr}{n c:Nat}{k:IntKind}(m:Nat)(ht:Wi P t e sz)(hx:ρ x=.slice A n c)(hy:ρ y=.int k (m:Int))(hm:m<=n) :
    (execOp ρ ⟨dst,.slice t x (some y) none none,ty,pos,aft,g⟩).run P w=.ok (.value (.slice (if c=m then A else A.map (·.add (m*sz))) (n-m) (c-m))) w:=by
  have he:=VD ht.1;have ht':P.underlying t=some (.slice (P.elem t)):=by rw[he];exact ht.1
  have h:=run_slice_l (P:=P) w t A n c ht' k m U U;have hs:(sizeOf (P.elem t)).run P w=.ok sz w:=by rw[he];exact ht.2 w
  rw[hs]at h;simp only[execOp,Option.map_none,Option.map_some,hx,hy,run_sliceAt_slice w t _ _ _ _ ht',Sem.run_bind,h,Result.andThen,sliced,Int.toNat_natCast];rfl
end
section
variable {α:Type}{f:α->α->Int}{xs ys:List α}{j:Nat}{Q q r:Int}
end
def Ch(x:Tree)(key:Str):List Str:=(TA x key).getD []
def X9(x:Tree)(key id:Str):Tree × Bool:=if id∈Ch x key then (x.items.getD ((Ch x key).idxOf id) Sf,true) else (Sf,false)
theorem BH{x:Tree}{key:Str}{l:List Str}(h:TA x key=some l):Jd x=true/\x.kind=5/\NG key x.items []=some l:=by
  unfold TA at h;split at h
  ·rename_i hh;exact⟨hh.1,hh.2,h⟩
  cases h
theorem C8{x:Tree}{key:Str}(h:Ch x key≠[]):(Ch x key).length=x.items.length/\Jd x=true:=by
  unfold Ch at h ⊢;cases hv:TA x key with
  | none=>rw[hv]at h;exact absurd rfl h
  | some l =>
    obtain⟨h1,h2,h3⟩:=BH hv;have:=X6 _ _ _ h3;exact⟨by simpa using this,h1⟩
structure Nodes where
  lab:Nat->Str
  lf:Nat->Nat
  le:∀x,lf x<=x
def turn(a b:Nodes)(x y:Nat):Nat:=if a.lab x=b.lab y then 0 else 1
def MP(a b:Nodes):Nat->Nat->Nat->Nat->Nat->Nat
  | 0,i,k,j,l=>(k-i)+(l-j)
  | f + 1, i, k, j, l =>
    if k<=i then l-j else if l<=j then k-i else
      let m:=min (MP a b f i (k-1) j l) (MP a b f i k j (l-1))+1
      if i<=a.lf (k-1)/\j<=b.lf (l-1) then min m (MP a b f i (a.lf (k-1)) j (b.lf (l-1))+MP a b f (a.lf (k-1)) (k-1) (b.lf (l-1)) (l-1)+turn a b (k-1) (l-1)) else m
def fd(a b:Nodes)(i k j l:Nat):Nat:=MP a b ((k-i)+(l-j)) i k j l
section
variable {a b:Nodes}{i k j l:Nat}
theorem IP(h:k<=i):fd a b i k j l=l-j:=by
  rw[fd];cases hf:(k-i)+(l-j)with
  | zero=>rw[MP];omega
  | succ f=>rw[MP,if_pos h]
theorem VK(h:l<=j):fd a b i k j l=k-i:=by
  rw[fd];cases hf:(k-i)+(l-j)with
  | zero=>rw[MP];omega
  | succ f =>
    rw[MP,if_pos h];split <;> omega
end
def td(a b:Nodes)(x y:Nat):Nat:=fd a b (a.lf x) (x+1) (b.lf y) (y+1)
def lfOk(fs:List Int)(n:Nat):Prop:=∀j (h:j<fs.length),j<n->0<=fs[j]/\fs[j]<=(j:Int)/\∀i (hi:i<j),fs[j]<=(i:Int)->fs[j]<=fs[i]' U
def XN(fs:List Int)(x:Nat):Nat:=min (fs.getD x 0).toNat x
def WL(ls:List Str)(fs:List Int):Nodes:=⟨λx=>ls.getD x [],XN fs,λ_=>Nat.min_le_right _ _⟩
theorem lfOk.at{fs:List Int}{n j:Nat}(h:lfOk fs n)(hj:j<fs.length)(hn:j<n):((XN fs j:Nat):Int)=fs[j]:=by
  obtain⟨h1,h2,-⟩:=h j hj hn;have e:fs.getD j 0=fs[j]:=by simp[List.getD,hj]
  rw[XN,e];omega
inductive Rts (fs:List Int):Nat->List Nat->Prop
  | nil:Rts fs 0 []
  | snoc {r:Nat} {l:List Nat}:Rts fs (XN fs r) l->Rts fs (r+1) (l++[r])
theorem Rts.last{fs:List Int}{p r:Nat}{l:List Nat}(h:Rts fs p (l++[r])):p=r+1/\Rts fs (XN fs r) l:=by
  generalize e:l++[r]=m at h;cases h with
  | nil=>simp at e
  | snoc h1 =>
    obtain⟨rfl,e2⟩:=List.append_inj' e rfl;simp only[List.cons.injEq,and_true]at e2;subst e2;exact⟨O,h1⟩
theorem Rts.none{fs:List Int}{p:Nat}(h:Rts fs p []):p=0:=by
  generalize e:([]:List Nat)=m at h;cases h with
  | nil=>rfl
  | snoc h1=>simp at e
theorem Rts.len{fs:List Int}{p:Nat}{l:List Nat}(h:Rts fs p l):l.length<=p:=by
  induction h with
  | nil=>simp
  | snoc h1 ih =>
    rename_i r l
    have:XN fs r<=r:=Nat.min_le_right _ _;simp only[dQ,kQ,List.length_nil];omega
theorem lfOk.snoc{fs:List Int}{j:Nat}(h:lfOk fs j)(hj:j<fs.length)(h0:0<=fs[j])(h1:fs[j]<=(j:Int))(hc:∀z (hz:z<j),fs[j]<=(z:Int)->fs[j]<=fs[z]' U):lfOk fs (j+1):=by
  intro i hi hn;by_cases e:i=j
  ·subst e
   exact⟨h0,h1,λz hz hle=>hc z hz hle⟩
  exact h i hi U
def FT(fs:List Int)(i:Nat):Bool:=decide (∀j,j<fs.length->i<j->fs.getD j 0≠fs.getD i 0)
def Q5(fs:List Int):List Nat:=(List.range fs.length).filter λi=>FT fs i
theorem CA{fs:List Int}{i:Nat}:i∈Q5 fs↔i<fs.length/\∀j,j<fs.length->i<j->fs.getD j 0≠fs.getD i 0:=by
  unfold Q5 FT;rw[List.mem_filter,List.mem_range,decide_eq_true_eq]
theorem MG(fs:List Int):(Q5 fs).Pairwise (· < ·):=List.Pairwise.filter _ List.pairwise_lt_range
def HY(ls:List Str)(fs:List Int)(gs:List Str)(hs:List Int):Nat:=fd (WL ls fs) (WL gs hs) 0 ls.length 0 gs.length
section
variable {ls gs ks:List Str}{fs hs is:List Int}
end
section
variable {ls gs:List Str}{fs hs:List Int}{r:Str}
end
theorem EP{α:Type}{a b:List α}{j:Nat}(h:∀i (h:i<a.length) (h2:i<b.length),i<j->a[i]=b[i])(hl:a.length=b.length)(hj:a.length<=j):a=b:=List.ext_getElem hl λi h1 h2=>h i h1 h2 U
theorem AH{α:Type}{a b:List α}{j:Nat}{h1:j<a.length}{h2:j<b.length}(hq:∀i (h:i<a.length) (h2:i<b.length),i<j->a[i]=b[i])(h:a[j]=b[j]):∀i (h:i<a.length) (h2:i<b.length),i<j+1->a[i]=b[i]:=λi h3 h4 h5=>by
  by_cases e:i=j
  ·subst e;exact h
  exact hq i h3 h4 U
theorem E6(S S':Nat->Prop)(w0:World)(a b:List Int)(A B:Option Addr)(c e:Nat)(hX:Rep S w0 (.slice (a.map We)) [.slice A a.length c])(hY:Rep S' w0 (.slice (b.map We)) [.slice B b.length e]):Calls prog 16 #[.slice A a.length c,.slice B b.length e] w0 (Vd λv w'=>v=.bool (decide (a=b))/\Same [] w0 w'):=by
 have hXl:=hX.slice_len;have hYl:=hY.slice_len;rw[rQ]at hXl hYl;refine Ka func16 O ntmps16 Mb (Ae _ _) ?_;have hF:=FR.start w0 [];refine Ia (Ca (Eb O) (Fa (Ha (Ia (Ca (Kd O) (Ca (Rf oZ O) (Ca (Kd O) (Ca (Rf oZ O) (Ca (Ep O O) (Ra ?_))))))))));refine Ga (Wb O O (λhc0=>?_) (λhc0=>?_));refine Ia (Ca (Eb O) (Fa ?_));refine Tc (v:=.bool false) O O ?_;exact⟨congrArg Value.bool (decide_eq_false λq=>by subst q;omega).symm,hF.same⟩;refine Ma (Ga (Ha (Ia (Ca (Bc O) (Fa (Sa ?_))))));have hll:a.length=b.length:=by omega
 refine Gc (λμ σ w=>∃(j:Nat),μ=a.length-j/\(j<=a.length)/\(∀i (h:i<a.length) (h2:i<b.length),i<j->a[i]=b[i])/\AllEq σ [(0,.slice A a.length c),(1,.slice B b.length e),(5,J ((j:Int)))]/\FR w0 [] [] w) _ ⟨0,O,U,(λi _ _ h=>by omega),Mk,hF⟩ ?_;rintro μ σ w ⟨j,rfl,hj,hq,hs,hF⟩;refine Cg.slots hs ?_;clear hs;intro σ;refine Ha (Ia (Ca (Db O) (Ca (Kd O) (Ca (Rf oZ O) (Ca (Tg O O) (Fa ?_))))));refine Wb O O (λhc1=>?_) (λhc1=>?_);refine Ma (Ga (Ha (Sa (Ha ?_))));refine Te (zs:=.of []) (bQ [0,1,2,3,4,5,6,7,8] .nil) hF ?_;intro w hF;refine Zc O (Kd O) (Zc O (Db O) ?_);obtain⟨ad0,hA0,hk0,hx0⟩:=hX.int_elem (i:=j) U;refine Pb O (v:=.pointer (some (ad0.add (j*1)))) (λw hC=>Qa (i:=(j:Int)) Xk O hA0 O U U) (Pb O (v:=J (a[j])) (λw hC=>Oc yQ O (hC.cell0 hk0)) (Zc O (Kd O) (Zc O (Db O) ?_)));obtain⟨ad1,hA1,hk1,hx1⟩:=hY.int_elem (i:=j) U;refine Pb O (v:=.pointer (some (ad1.add (j*1)))) (λw hC=>Qa (i:=(j:Int)) Xk O hA1 O U U) (Pb O (v:=J (b[j])) (λw hC=>Oc yQ O (hC.cell0 hk1)) (Zc O (Ep O O) (Xd (Ga ?_))));refine Wb O O (λhc2=>?_) (λhc2=>?_);refine Ia (Ca (Eb O) (Fa ?_));refine Tc (v:=.bool false) O O ?_;exact⟨congrArg Value.bool (decide_eq_false λq=>by subst q;exact absurd rfl (by assumption)).symm,hF.same⟩;refine Ma (Ib (Ga (Ea (Ca (Db O) (Ca (Uk (((j+1:Nat):Int)) O O) (Ca (Bc O) (Ra ?_)))))));refine Za ⟨_,?_,j+1,O,U,(AH hq (Classical.not_not.1 (by assumption))),Mk,hF⟩;omega;refine Zb (Vb O ?_);refine Ga (Ia (Ca (Eb O) (Fa ?_)));refine Tc (v:=.bool true) O O ?_;exact⟨congrArg Value.bool (decide_eq_true (EP hq hll U)).symm,hF.same⟩
def XZ(k:Str):Str:=107::KN (.node 4 k [] [])
mutual
def NN:Tree->List Str
  | .node k t ks xs=>if k=5 then HT xs++[[91]] else if k=6 then VR xs ks++[[123]] else [KN (.node k t ks xs)]
def HT:List Tree->List Str
  | []=>[]
  | x::xs=>NN x++HT xs
def VR:List Tree->List Str->List Str
  | [],_=>[]
  | x::xs,ks=>NN x++(XZ (ks.headD [])::VR xs ks.tail)
end
mutual
def VU:Tree->Nat->List Int
  | .node k _ ks xs,b=>if k=5 then YS xs b++[(b:Int)] else if k=6 then SS xs ks b++[(b:Int)] else [(b:Int)]
def YS:List Tree->Nat->List Int
  | [],_=>[]
  | x::xs,b=>VU x b++YS xs (b+(NN x).length)
def SS:List Tree->List Str->Nat->List Int
  | [],_,_=>[]
  | x::xs,ks,b=>VU x b++((b:Int)::SS xs ks.tail (b+(NN x).length+1))
end
def Beh(fs:List Int)(b:Nat):Prop:=∀j (h:j<fs.length),b<=j->(b:Int)<=fs[j]
theorem Beh.all(fs:List Int):Beh fs fs.length:=λj hj h=>by omega
section
variable {w w' w0:World}{Ds E:List Nat}{bs_:List (Nat × Obj)}{B pb:Nat}{ls ls':List Str}{fs fs':List Int}
def DR:Obj->Bool
  | .cells _ e _=>e==9 || e==3
  | _=>false
def Vm(w:World)(b:Nat):Bool:=match w.heap[b]? with|some o=>DR o|none=>false
def Wk2(w:World)(B pb:Nat):List Nat:=pb::(List.range w.heap.size).filter λb=>decide (B<=b)&&Vm w b
theorem Rq{x:Nat}:x∈Wk2 w B pb↔x=pb\/(x<w.heap.size/\B<=x/\Vm w x=true):=by simp[Wk2]
theorem GG{b:Nat}{o:Obj}(h:w.heap[b]? = some o):Vm w b=DR o:=by simp[Vm,h]
def SVs(ls:List Str):List Value:=ls.map λs=>Value.string (bs s)
def UZ(fs:List Int):List Value:=fs.map λn=>Value.int .i64 n
theorem SlB.typ{e m n c:Nat}{A:Option Addr}{xs:List Value}{sb:List (Nat × Obj)}(h:SlB e m A n c xs sb):sb.length<=1/\∀q∈sb,∃cur,q.2=.cells cur e:=by
  rcases h.2 with ⟨-,-,rfl⟩|⟨g,cur,-,rfl,-⟩
  ·exact⟨by simp,λq hq=>by cases hq⟩
  exact⟨by simp,λq hq=>by simp only[pQ]at hq;subst hq;exact⟨cur,rfl⟩⟩
structure Tb (w:World) (B pb:Nat) (ls:List Str) (fs:List Int):Prop where
  lt:pb<B
  le:B<=w.heap.size
  ex:∃(A:Option Addr)(c:Nat)(sl:List (Nat × Obj))(A':Option Addr)(c':Nat)(sf:List (Nat × Obj)),w.heap[pb]? = some (.cells #[.slice A ls.length c,.slice A' fs.length c'] 302) /\
    SlB 9 1 A ls.length c (SVs ls) sl/\SlB 3 1 A' fs.length c' (UZ fs) sf/\∀q∈sl++sf,w.heap[q.1]? = some q.2/\B<=q.1
theorem Tb.ltw(h:Tb w B pb ls fs):pb<w.heap.size:=Nat.lt_of_lt_of_le h.lt h.le
theorem Tb.len(h:Tb w B pb ls fs):∃A c A' c',w.heap[pb]? = some (.cells #[.slice A ls.length c,.slice A' fs.length c'] 302):=by
  obtain⟨-,-,A,c,sl,A',c',sf,h1,-⟩:=h;exact⟨A,c,A',c',h1⟩
theorem Wk2.step{x:Nat}(hs:Same (Wk2 w B pb) w w')(hx:x∈Wk2 w' B pb):x∈Wk2 w B pb\/w.heap.size<=x:=by
  by_cases h:x<w.heap.size
  ·by_cases hm : x ∈ Wk2 w B pb
   ·exact .inl hm
   rcases Rq.1 hx with rfl|⟨h1, h2, h3⟩
   ·exact .inl (Rq.2 (.inl O))
   refine absurd (Rq.2 (.inr ⟨h, h2, ?_⟩)) hm;rw[Vm,<-hs.block x h hm];exact h3
  exact .inr U
theorem Tb.same(h:Tb w B pb ls fs)(hs:Same E w w')(hp:pb∉E)(he:∀x∈E,B<=x->Vm w x=false):Tb w' B pb ls fs:=by
  have hlt:=h.ltw;obtain⟨h1,h2,A,c,sl,A',c',sf,h3,h4,h5,h6⟩:=h;refine⟨h1,fQ h2 hs.size,A,c,sl,A',c',sf,(hs.block pb hlt hp).trans h3,h4,h5,λq hq=>?_⟩;obtain⟨h7,h8⟩:=h6 q hq;have ht:Vm w q.1=true:=by
    rw[GG h7];rcases mQ.1 hq with hq|hq
    ·obtain⟨cur,e⟩:=h4.typ.2 q hq;rw[e];rfl
    obtain⟨cur,e⟩:=h5.typ.2 q hq;rw[e];rfl
  refine⟨(hs.block q.1 (Wa h7) (λhm=>?_)).trans h7,h8⟩;rw[he q.1 hm h8]at ht;cases ht
theorem Tb.ext(h:Tb w B pb ls fs)(hs:Same [] w w'):Tb w' B pb ls fs:=h.same hs Ua Ua
structure TW (w0:World) (Ds:List Nat) (w:World) (B pb:Nat) (ls:List Str) (fs:List Int):Prop where
  tb:Tb w B pb ls fs
  sub:∀x∈Wk2 w B pb,x<w0.heap.size->x∈Ds
  ge:w0.heap.size<=w.heap.size
theorem TW.start(h:Tb w0 B pb ls fs):TW w0 (Wk2 w0 B pb) w0 B pb ls fs:=⟨h,λx hx _=>hx,gQ _⟩
theorem TW.own(h:Tb w B pb ls fs)(hp:w0.heap.size<=pb)(hg:w0.heap.size<=w.heap.size):TW w0 Ds w B pb ls fs :=
  ⟨h,λx hx hl=>by
    have:=h.lt;rcases Rq.1 hx with rfl|⟨-,h2,-⟩ <;> omega,hg⟩
theorem TW.lt(h:TW w0 Ds w B pb ls fs):pb<w.heap.size:=h.tb.ltw
theorem TW.step(h:TW w0 Ds w B pb ls fs)(hs:Same E w w')(hp:pb∉E)(he:∀x∈E,Vm w x=false)(he':∀x∈E,Vm w' x=false):TW w0 Ds w' B pb ls fs :=
  ⟨h.tb.same hs hp (λx hx _=>he x hx),λx hx hl=>by
    refine h.sub x (Rq.2 ?_) hl;have hl2:=Nat.lt_of_lt_of_le hl h.ge;rcases Rq.1 hx with rfl|⟨-,h2,h3⟩
    ·exact .inl O
    refine .inr ⟨hl2, h2, ?_⟩;have hn:x∉E:=λhm=>by rw[he' x hm]at h3;cases h3
    rw[Vm,<-hs.block x hl2 hn];exact h3,fQ h.ge hs.size⟩
theorem TW.ext(h:TW w0 Ds w B pb ls fs)(hs:Same [] w w'):TW w0 Ds w' B pb ls fs:=h.step hs Ua Ua Ua
theorem Tb.made{A A':Option Addr}{c c':Nat}{sl sf:List (Nat × Obj)}(hF:FR w0 Ds ((bs_++[(pb,.cells #[.slice A ls.length c,.slice A' fs.length c'] 302)])++(sl++(sf++[]))) w)(hp:pb<B)(hB:B<=w.heap.size)
    (hL:SlB 9 1 A ls.length c (SVs ls) sl) (hN:SlB 3 1 A' fs.length c' (UZ fs) sf) (hq:∀q∈sl++sf,B<=q.1):Tb w B pb ls fs:=by
  refine⟨hp,hB,A,c,sl,A',c',sf,hF.memHeap (p:=(pb,_)) Ua,hL,hN,λq h=>⟨?_,hq q h⟩⟩;refine hF.memHeap (p:=q) ?_;rcases mQ.1 h with h|h <;> simp[h]
end
end Go.Scarf
namespace Go.Scarf
open Go.RowKit Go.Proofs Go.Proofs.Tryz
section
variable {P:Program}{w:World}
end
end Go.Scarf
namespace Go.Scarf
open Go.RowKit Go.Proofs Go.Proofs.Tryz
section
variable {w w' w0:World}{Ds E:List Nat}{bs_:List (Nat × Obj)}{B pb:Nat}{ls ls':List Str}{fs fs':List Int}
end
end Go.Scarf
namespace Go.Scarf
open Go.RowKit Go.Proofs Go.Proofs.Tryz
def gi(m p q:Nat):Nat:=p*(m+1)+q
theorem TT{m p q p' q':Nat}(hq:q<=m)(hq':q'<=m)(h:gi m p q=gi m p' q'):p=p'/\q=q':=by
  unfold gi at h;have e:p=p':=by
    have h1:(p*(m+1)+q)/(m+1)=p:=by rw[Nat.mul_comm,Nat.mul_add_div U,Nat.div_eq_of_lt U];omega
    have h2:(p'*(m+1)+q')/(m+1)=p':=by rw[Nat.mul_comm,Nat.mul_add_div U,Nat.div_eq_of_lt U];omega
    rw[<-h1,<-h2,h]
  subst e;exact⟨O,by omega⟩
def Sk(N0 n:Nat)(q:Nat->Nat)(b:Nat):Prop:=b<N0/\∀i,i<n->q i≠b
structure Rk (w:World) (N0 rb pb:Nat) (q:Nat->Nat) (la:List Str) (fa:List Int) (lb:List Str) (fb:List Int) (Aa Ba Ab Bb:Option Addr) (k1 k2 k3 k4:Nat) (P:Nat->Nat->Int):Prop where
  cell:w.heap[rb]? = some (.cells #[.slice Aa la.length k1,.slice Ba fa.length k2,.slice Ab lb.length k3,.slice Bb fb.length k4,W pb la.length la.length] 345)
  La:Rep (Sk N0 la.length q) w (Ug la) [.slice Aa la.length k1]
  Na:Rep (Sk N0 la.length q) w (.slice (fa.map We)) [.slice Ba fa.length k2]
  Lb:Rep (Sk N0 la.length q) w (Ug lb) [.slice Ab lb.length k3]
  Nb:Rep (Sk N0 la.length q) w (.slice (fb.map We)) [.slice Bb fb.length k4]
  grid:Grid2 w pb la.length lb.length 23 3 q P
  lt:rb<N0/\pb<N0/\∀i,i<la.length->q i<N0
  ne:∀i,i<la.length->q i≠rb
section
variable {w w':World}{N0 rb pb:Nat}{q:Nat->Nat}{la lb:List Str}{fa fb:List Int}{Aa Ba Ab Bb:Option Addr}{k1 k2 k3 k4:Nat}{P:Nat->Nat->Int}{E:List Nat}
theorem Rk.step(h:Rk w N0 rb pb q la fa lb fb Aa Ba Ab Bb k1 k2 k3 k4 P)(hs:Same E w w')(he:∀b∈E,N0<=b):Rk w' N0 rb pb q la fa lb fb Aa Ba Ab Bb k1 k2 k3 k4 P:=by
  have ns:∀b∈E,¬Sk N0 la.length q b:=λb hb h2=>by have:=he b hb;have:=h2.1;omega
  have nl:∀x,x<N0->x∉E:=λx hx hm=>by have:=he x hm;omega
  exact⟨(hs.block _ (Wa h.cell) (nl _ h.lt.1)).trans h.cell,h.La.same hs ns,h.Na.same hs ns,h.Lb.same hs ns,h.Nb.same hs ns,h.grid.keep hs (nl _ h.lt.2.1) (λi hi=>nl _ (h.lt.2.2 i hi)),h.lt,h.ne⟩
theorem Rk.ext(h:Rk w N0 rb pb q la fa lb fb Aa Ba Ab Bb k1 k2 k3 k4 P)(hs:Same [] w w'):Rk w' N0 rb pb q la fa lb fb Aa Ba Ab Bb k1 k2 k3 k4 P:=h.step hs Ua
theorem Rk.put(h:Rk w N0 rb pb q la fa lb fb Aa Ba Ab Bb k1 k2 k3 k4 P){i j:Nat}{v:Int}(hi:i<la.length)(hs:Same [q i] w w')(hn:w'.heap[q i]? = some (.cells (Sp lb.length (Vx (P i) j v)) 3)):Rk w' N0 rb pb q la fa lb fb Aa Ba Ab Bb k1 k2 k3 k4 (Ew P i j v):=by
  have ns:∀b∈[q i],¬Sk N0 la.length q b:=λb hb h2=>h2.2 i hi (pQ.1 hb).symm;exact⟨(hs.block _ (Wa h.cell) (by simpa using λe=>h.ne i hi e.symm)).trans h.cell,h.La.same hs ns,h.Na.same hs ns,h.Lb.same hs ns,h.Nb.same hs ns,h.grid.put hi hs hn,h.lt,h.ne⟩
theorem Rk.c0(h:Rk w N0 rb pb q la fa lb fb Aa Ba Ab Bb k1 k2 k3 k4 P):w.cell? ⟨rb,0,none⟩=some (.slice Aa la.length k1):=Vc h.cell 0
theorem Rk.c1(h:Rk w N0 rb pb q la fa lb fb Aa Ba Ab Bb k1 k2 k3 k4 P):w.cell? ⟨rb,1,none⟩=some (.slice Ba fa.length k2):=Vc h.cell 1
theorem Rk.c2(h:Rk w N0 rb pb q la fa lb fb Aa Ba Ab Bb k1 k2 k3 k4 P):w.cell? ⟨rb,2,none⟩=some (.slice Ab lb.length k3):=Vc h.cell 2
theorem Rk.c3(h:Rk w N0 rb pb q la fa lb fb Aa Ba Ab Bb k1 k2 k3 k4 P):w.cell? ⟨rb,3,none⟩=some (.slice Bb fb.length k4):=Vc h.cell 3
theorem Rk.c4(h:Rk w N0 rb pb q la fa lb fb Aa Ba Ab Bb k1 k2 k3 k4 P):w.cell? ⟨rb,4,none⟩=some (W pb la.length la.length):=Vc h.cell 4
end
end Go.Scarf
namespace Go.Scarf
open Go.RowKit Go.Proofs Go.Proofs.Tryz
end Go.Scarf
