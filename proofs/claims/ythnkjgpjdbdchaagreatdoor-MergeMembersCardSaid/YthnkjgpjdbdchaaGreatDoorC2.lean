/- A part of the proof. -/
import Derived.Test.YthnkjgpjdbdchaaGreatDoorP1
import Derived.Lib.BufferRead
import Derived.Lib.ItoaMem
import Derived.Laws.MakeOwn
set_option linter.all false
set_option maxHeartbeats 8000000
set_option maxRecDepth 10000
namespace Go.Scarf
open Go.RowKit Go.Proofs
def nq(q:Bool)(c:UInt8):Bool:=if c=34 then !q else q
def VJ(q:Bool)(c:UInt8)(l:Str):Str:=if nq q c=true\/(c≠32/\c≠10) then c::l else l
def As:Bool->Str->Str
  | _,[]=>[]
  | q,[c]=>VJ q c []
  | q,c::d::r=>if q=true/\c=92 then c::d::As q r else VJ q c (As (nq q c) (d::r))
def Bal(a b:Str):Prop:=∀r,As false (a++r)=b++As false r
def Inq(a:Str):Prop:=∀r,As true (a++r)=a++As true r
theorem ZD{q:Bool}{c:UInt8}{r:Str}(h:¬(q=true/\c=92)):As q (c::r)=VJ q c (As (nq q c) r):=by
  cases r with
  | nil=>rw[As,As]
  | cons d r=>rw[As,if_neg h]
theorem Bal.nil:Bal [] []:=λ_=>rfl
theorem Bal.app{a b a' b':Str}(h:Bal a a')(k:Bal b b'):Bal (a++b) (a'++b'):=λr=>by rw[sQ,h,k,sQ]
theorem Inq.nil:Inq []:=λ_=>rfl
theorem Inq.app{a b:Str}(h:Inq a)(k:Inq b):Inq (a++b):=λr=>by rw[sQ,h,k,sQ]
theorem Bal.byte{c:UInt8}(h1:c≠34)(h2:c≠32)(h3:c≠10):Bal [c] [c]:=λr=>by
  show As false (c::r)=c::As false r;rw[ZD Da,VJ,nq,if_neg h1,if_pos (.inr ⟨h2,h3⟩)]
theorem Bal.bytes:∀{a:Str},(∀c∈a,c≠34/\c≠32/\c≠10)->Bal a a
  | [],_=>Bal.nil
  | c :: a, h => by
    have h1:=h c Da;exact (Bal.byte h1.1 h1.2.1 h1.2.2).app (Bal.bytes λd hd=>h d (by simp[hd]))
theorem Inq.byte{c:UInt8}(h1:c≠34)(h2:c≠92):Inq [c]:=λr=>by
  show As true (c::r)=c::As true r;rw[ZD (λh=>h2 h.2),VJ,nq,if_neg h1,if_pos (.inl rfl)]
theorem Inq.bytes:∀{a:Str},(∀c∈a,c≠34/\c≠92)->Inq a
  | [],_=>Inq.nil
  | c :: a, h => by
    have h1:=h c Da;exact (Inq.byte h1.1 h1.2).app (Inq.bytes λd hd=>h d (by simp[hd]))
def nl(s:Str):Nat:=s.count 10
theorem CE{k:Int}{t:Str}{ks:List Str}{xs:List Tree}(h:Nc (.node k t ks xs)=true){x:Tree}(hx:x∈xs):Nc x=true:=by
  unfold Nc Hl at h ⊢;simp only[Bool.and_eq_true,decide_eq_true_eq]at h ⊢;have h1:=Yf hx;have h2:=Gi hx;rw[Mb,Uc]at h;exact⟨⟨by omega,by omega⟩,(De h.2).2 x hx⟩
theorem IB{k:Int}{t:Str}{ks:List Str}{xs:List Tree}(h:Nc (.node k t ks xs)=true)(hk:k=6):ks.length=xs.length/\∀x∈ks,Lib.validD x=true:=by
  have h1:=(De (Vn h)).1;subst hk;refine⟨(Lo h1).2,?_⟩;simp only[nodeB,Tp]at h1;simp at h1;exact h1.1.1.2
def Tt(acc:List Str)(s:Str):List Str:=if s∈acc then acc else acc++[s]
def Te(rows:List (List Str)):List Str:=rows.flatten.foldl Tt []
theorem BZ{acc:List Str}{s t:Str}:t∈Tt acc s↔t∈acc\/t=s:=by
  unfold Tt;split
  ·rename_i h
   constructor
   ·exact .inl
   rintro (h1|rfl)
   ·exact h1
   exact h
  simp
theorem KR{acc:List Str}(h:acc.Nodup)(s:Str):(Tt acc s).Nodup:=by
  unfold Tt;split
  ·exact h
  rename_i hn
  rw[List.nodup_append];refine⟨h,by simp,?_⟩;rintro a ha b hb rfl;simp only[pQ]at hb;subst hb;exact hn ha
theorem R6:∀(l:List Str){acc:List Str},acc.Nodup->(l.foldl Tt acc).Nodup
  | [],_,h=>h
  | s::l,_,h=>R6 l (KR h s)
theorem Gu:∀(l:List Str){acc:List Str}{t:Str},t∈l.foldl Tt acc↔t∈acc\/t∈l
  | [],_,_=>by simp
  | s::l,_,_=>by rw[List.foldl_cons,Gu l,BZ,oQ,or_assoc]
theorem OD:∀(l:List Str)(acc:List Str),∃r,l.foldl Tt acc=acc++r/\r.length<=l.length
  | [],acc=>⟨[],by simp⟩
  | s :: l, acc => by
    obtain⟨r,h,hr⟩:=OD l (Tt acc s);by_cases hs:s∈acc
    ·have e : Tt acc s = acc := if_pos hs
     rw[e]at h;exact⟨r,by rw[List.foldl_cons,e,h],by simp;omega⟩
    have e : Tt acc s = acc ++ [s] := if_neg hs;rw[e]at h;exact⟨s::r,by rw[List.foldl_cons,e,h];simp,by simp;omega⟩
theorem Ig(rows:List (List Str)):(Te rows).Nodup:=R6 _ List.nodup_nil
def idK(y:Tree):Bool:=decide (y.kind=4) || decide (y.kind=3)
def idB(x:Tree)(key:Str):Bool:=((Mu x key).2&&idK (Mu x key).1)&&decide (GY (Ei (Mu x key).1)=0)
def idS(x:Tree)(key:Str):Str:=if ((Mu x key).2&&idK (Mu x key).1)=true then Ay (Ei (Mu x key).1) else []
def ZV(key:Str):List Tree->List Str->Option (List Str)
  | [],acc=>some acc
  | x::xs,acc=>if idB x key=true/\idS x key∉acc then ZV key xs (acc++[idS x key]) else none
def CP(v:Tree)(key:Str):Option (List Str):=if Nc v=true/\v.kind=5 then ZV key v.items [] else none
theorem WK{key:Str}:∀(xs:List Tree)(acc l:List Str),ZV key xs acc=some l->l.length=acc.length+xs.length
  | [],acc,l,h=>by rw[ZV]at h;cases h;simp
  | x :: xs, acc, l, h => by
    rw[ZV]at h;split at h
    ·have := WK xs _ l h
     simp at this ⊢;omega
    cases h
theorem Xu{x:Tree}(h:Nc x=true):L7 x=x:=by rw[L7,if_pos (Ef h)]
open Go.RowKit
section
variable {S:Nat->Prop}{w:World}
theorem Rep.slice_is{ds:List D}{v:Value}(h:Rep S w (.slice ds) [v]):∃A c,v=.slice A ds.length c:=by
  rw[Rep]at h;obtain⟨A,c,he,-⟩:=h;exact⟨A,c,(List.cons.inj he).1⟩
theorem Rep.elem1{ds:List D}{A:Option Addr}{len c:Nat}(h:Rep S w (.slice ds) [.slice A len c])(hs:∀d∈ds,Oe d=1){i:Nat}(hi:i<ds.length) :
    ∃ad v,A=some ad/\w.cell? (ad.add (i*1))=some v/\Rep S w ds[i] [v]:=by
  obtain⟨ad,cs,hA,hl,hc,hr⟩:=Rep.elem (sz:=1) h hs hi
  match cs,hl with
  | [v], _ =>
    have:=hc 0 Da;simp only[Kr,List.getElem_cons_zero]at this;exact⟨ad,v,hA,this,hr⟩
theorem Rep.row_elem{rows:List (List Str)}{A:Option Addr}{len c:Nat}(h:Rep S w (.slice (rows.map Ud)) [.slice A len c]){i:Nat}(hi:i<rows.length) :
    ∃ad B e,A=some ad/\w.cell? (ad.add (i*1))=some (.slice B rows[i].length e)/\Rep S w (Ud rows[i]) [.slice B rows[i].length e]:=by
  obtain⟨ad,v,hA,hc,hr⟩:=Rep.elem1 h (λd hd=>by obtain⟨k,_,rfl⟩:=nQ.1 hd;rfl) (i:=i) (by simpa using hi);rw[List.getElem_map]at hr;obtain⟨B,e,he⟩:=Rep.slice_is hr;rw[rQ]at he;subst he;exact⟨ad,B,e,hA,hc,hr⟩
theorem Rep.int_elem{ns:List Int}{A:Option Addr}{len c:Nat}(h:Rep S w (.slice (ns.map Kh)) [.slice A len c]){i:Nat}(hi:i<ns.length) :
    ∃ad,A=some ad/\w.cell? (ad.add (i*1))=some (J ns[i])/\(-9223372036854775808<=ns[i]/\ns[i]<=9223372036854775807):=by
  obtain⟨ad,v,hA,hc,hr⟩:=Rep.elem1 h (λd hd=>by obtain⟨k,_,rfl⟩:=nQ.1 hd;rfl) (i:=i) (by simpa using hi);rw[List.getElem_map,Kh,Rep]at hr;obtain⟨he,hk⟩:=hr;obtain rfl:=(List.cons.inj he).1;exact⟨ad,hA,hc,hk⟩
end
def Ends(r:Str):Prop:=∀c s,r=c::s->c=44\/c=93\/c=125
theorem Ends.nil:Ends []:=λc s h=>by cases h
section
variable {P:Program}{w0 w:World}{Ds:List Nat}{pre post sb:List (Nat × Obj)}
end
section
variable {P:Program}{R:Exit->Act->World->Prop}{n:Nat}{kt:Kt}{s:Nat->Value}{w:World}{ops rest:List Oper}
variable {d:Nat}{ty:TypeId}{pos:String}{aft:Array Edge}{g:Option (Nat × Bool)}
variable {w0:World}{Ds:List Nat}{sb:List (Nat × Obj)}
end
def Zb(N:Nat)(f:Nat->Int):Array Value:=((List.range N).map λk=>Value.int .i64 (f k)).toArray
theorem Pj(N:Nat)(f:Nat->Int):(Zb N f).size=N:=by simp[Zb]
theorem Jp{N k:Nat}{f:Nat->Int}(h:k<N):(Zb N f)[k]? = some (J (f k)):=by simp[Zb,h]
def Xj(f:Nat->Int)(k:Nat)(v:Int):Nat->Int:=λx=>if x=k then v else f x
theorem Iy(f:Nat->Int)(k:Nat)(v:Int):Xj f k v k=v:=if_pos rfl
theorem Xv{f:Nat->Int}{k x:Nat}{v:Int}(h:x≠k):Xj f k v x=f x:=if_neg h
theorem Bj{N k:Nat}{f:Nat->Int}(v:Int):putA (Zb N f) k [J v]=Zb N (Xj f k v):=by
  rw[putA,putA];apply Array.ext
  ·simp[Zb]
  intro i h1 h2;rw[Array.getElem_setIfInBounds (by simpa using h1)];by_cases e:k=i
  ·subst e;simp[Zb,Xj]
  have e' : ¬ i = k := λh => e h.symm;simp[Zb,Xj,e,e']
theorem FP(N:Nat):(List.replicate N (Value.int .i64 0)).toArray=Zb N λ_=>0:=by
  apply Array.ext
  ·simp[Zb]
  intro i h1 h2;simp[Zb]
theorem DN{N:Nat}{f g:Nat->Int}(h:∀k<N,f k=g k):Zb N f=Zb N g:=by
  unfold Zb
  congr 1
  exact List.map_congr_left λk hk=>by rw[h k (List.mem_range.1 hk)]
section
variable {w0 w w':World}{Ds:List Nat}{bs:List (Nat × Obj)}
theorem FR.intCell(hF:FR w0 Ds bs w)(i:Nat){b N k:Nat}{f:Nat->Int}{T:TypeId}(hi:bs[i]? = some (b,.cells (Zb N f) T))(hk:k<N):w.cell? ⟨b,k,none⟩=some (J (f k)):=by
  rw[Yb (hF.heap hi),Jp hk]
structure Grid2 (w:World) (pb n m:Nat) (T1 T2:TypeId) (rb:Nat->Nat) (p:Nat->Nat->Int):Prop where
  top:w.heap[pb]? = some (.cells ((List.range n).map λi=>Value.slice (some ⟨rb i,0,none⟩) m m).toArray T1)
  row:∀i,i<n->w.heap[rb i]? = some (.cells (Zb m (p i)) T2)
  inj:∀i j,i<n->j<n->rb i=rb j->i=j
  ne:∀i,i<n->rb i≠pb
variable {pb n m:Nat}{T1 T2:TypeId}{rb:Nat->Nat}{p:Nat->Nat->Int}
theorem Grid2.rowCell(h:Grid2 w pb n m T1 T2 rb p){i:Nat}(hi:i<n):w.cell? ⟨pb,i,none⟩=some (.slice (some ⟨rb i,0,none⟩) m m):=by
  rw[Yb h.top];simp[hi]
theorem Grid2.cell(h:Grid2 w pb n m T1 T2 rb p){i j:Nat}(hi:i<n)(hj:j<m):w.cell? ⟨rb i,j,none⟩=some (J (p i j)):=by
  rw[Yb (h.row i hi),Jp hj]
theorem Grid2.keep(h:Grid2 w pb n m T1 T2 rb p){E:List Nat}(hs:Same E w w')(h1:pb∉E)(h2:∀i,i<n->rb i∉E):Grid2 w' pb n m T1 T2 rb p :=
  ⟨(hs.block _ (Oa h.top) h1).trans h.top,λi hi=>(hs.block _ (Oa (h.row i hi)) (h2 i hi)).trans (h.row i hi),h.inj,h.ne⟩
theorem Grid2.ext(h:Grid2 w pb n m T1 T2 rb p)(hs:Same [] w w'):Grid2 w' pb n m T1 T2 rb p:=h.keep hs Da Da
def Bk(p:Nat->Nat->Int)(i j:Nat)(v:Int):Nat->Nat->Int:=λa=>if a=i then Xj (p i) j v else p a
theorem Ll(p:Nat->Nat->Int)(i j:Nat)(v:Int):Bk p i j v i j=v:=by simp[Bk,Xj]
theorem Vu{p:Nat->Nat->Int}{i j a b:Nat}{v:Int}(h:¬(a=i/\b=j)):Bk p i j v a b=p a b:=by
  unfold Bk;by_cases e:a=i
  ·subst e;rw[if_pos rfl,Xv λq=>h ⟨rfl,q⟩]
  rw[if_neg e]
theorem Grid2.put(h:Grid2 w pb n m T1 T2 rb p){i j:Nat}{v:Int}(hi:i<n)(hs:Same [rb i] w w')(hn:w'.heap[rb i]? = some (.cells (Zb m (Xj (p i) j v)) T2)):Grid2 w' pb n m T1 T2 rb (Bk p i j v):=by
  refine⟨(hs.block _ (Oa h.top) (by simpa using λe=>h.ne i hi e.symm)).trans h.top,λa ha=>?_,h.inj,h.ne⟩;by_cases e:a=i
  ·subst e;rw[hn];simp[Bk]
  have : w'.heap[rb a]? = w.heap[rb a]? := hs.block _ (Oa (h.row a ha)) (by simpa using λq => e (h.inj a i ha hi q));rw[this,h.row a ha,Bk,if_neg e]
end
section
variable {P:Program}{R:Exit->Act->World->Prop}{n:Nat}{k:Kt}{s:Nat->Value}{w:World}{ops rest:List Oper}
variable {ty:TypeId}{pos:String}{aft:Array Edge}{g:Option (Nat × Bool)}{w0:World}{Ds:List Nat}{bs:List (Nat × Obj)}
theorem o_storeI{t T:TypeId}{x y:Operand}{b j m:Nat}{f:Nat->Int}{v:Int}(hF:FR w0 Ds bs w)(hs:∀w,(sizeOf t).run P w=.ok 1 w)
    (hx:ev n s x=.pointer (some ⟨b,j,none⟩)) (hy:ev n s y=J v) (hh:w.heap[b]? = some (.cells (Zb m f) T)) (hj:j<m) (hD:b∈Ds) (hn:∀p∈bs,p.1≠b)
    (h:∀w',FR w0 Ds bs w'->Same [b] w w'->w'.heap[b]? = some (.cells (Zb m (Xj f j v)) T)->Og P R n ops k rest s w')
    (hw:Wb ops n s ⟨none,.store t x y,ty,pos,aft,g⟩=true:=by rfl):Og P R n ops k (⟨none,.store t x y,ty,pos,aft,g⟩::rest) s w:=by
  have hsp:=Cl b j (fz:=(0,0)) [J v] 0 w (Zb m f) hh;rw[Nat.add_zero,Bj]at hsp;refine I5 (O3 (l:=[J v]) hs hx hy O Ue λi hi=>?_) (h (putCells w ⟨b,j,none⟩ 0 [J v]) (hF.touch hsp.2 λb' hb=>?_) hsp.2 hsp.1) hw
  ·obtain rfl : i = 0 := by simp at hi;omega
   rw[Kr,Yb hh];exact⟨⟨_,Jp hj⟩,Xl hh _⟩
  obtain rfl := pQ.1 hb;exact⟨λ_=>hD,hn⟩
end
theorem made_one(z:Value)(n:Nat):madeCells #[z] n=(List.replicate n z).toArray:=by
  unfold madeCells;apply Array.ext
  ·simp
  intro i h1 h2;simp[Nat.mod_one]
section
variable {P:Program}{w:World}{ρ:Operand->Value}{dst:Option Nat}{ty:TypeId}{pos:String}{aft:Array Edge}{g:Option (Nat × Bool)}
theorem KG{t e bytes:Nat}{z:Value}{x y:Operand}{N:Nat}(hE:Elems P t e 1 bytes)(hz0:(P.info? e).map (·.zero)=some (some z))(hc:z.cells=#[z])(hx:ρ x=J (N:Int))(hy:ρ y=J (N:Int))(h:N<=1000000000)(hb:bytes<=32) :
    (execOp ρ ⟨dst,.makeSlice t x y,ty,pos,aft,g⟩).run P w=.ok (.value (.slice (some ⟨w.heap.size,0,none⟩) N N)) (w.alloc (.cells (List.replicate N z).toArray e)):=by
  obtain⟨i,z',hi,hz,hs,hby,-⟩:=hE.info;rw[hi]at hz0;have ez:i.zero=some z:=by simpa using hz0
  have hle:(i.bytes:Int)*(N:Int)<=281474976710656:=by
    rw[hby];have:bytes*N<=32*1000000000:=Nat.mul_le_mul hb h;have h2:((bytes*N:Nat):Int)<=281474976710656:=by omega
    rwa [Int.natCast_mul]at h2
  have hr:=run_make (P:=P) w t e i z hE.ht hi ez .i64 .i64 N N tX (Int.le_refl _) hle tX;rw[hs,Nat.mul_one,hc,Int.toNat_natCast,made_one]at hr;simp[execOp,hx,hy,hr]
theorem Ro{t e:Nat}{x y:Operand}{N:Nat}(hE:Elems P t e 1 8)(hz0:(P.info? e).map (·.zero)=some (some (J 0)))(hx:ρ x=J (N:Int))(hy:ρ y=J (N:Int))(h:N<=1000000000) :
    (execOp ρ ⟨dst,.makeSlice t x y,ty,pos,aft,g⟩).run P w=.ok (.value (.slice (some ⟨w.heap.size,0,none⟩) N N)) (w.alloc (.cells (Zb N λ_=>0) e)):=by
  rw[<-FP];exact KG hE hz0 O hx hy h Pa
end
end Go.Scarf
