/- A part of the proof. -/
import Derived.Test.YthhhbkkelnaekaaGreatDoorMem
import Derived.Test.YthhhbkkelnaekaaGreatDoorMore
import Derived.Laws.MakeOwn
set_option linter.all false
set_option maxHeartbeats 8000000
set_option maxRecDepth 10000
namespace Go.Scarf
open Go.RowKit
section
variable {S:Nat→Prop} {w:World}
theorem Rep.slice_is {ds:List D} {v:Value} (h:Rep S w (.slice ds) [v]):∃ A c,v=.slice A ds.length c:=by
  rw [Rep] at h
  obtain ⟨A,c,he,-⟩:=h
  exact ⟨A,c,(List.cons.inj he).1⟩
theorem Rep.elem1 {ds:List D} {A:Option Addr} {len c:Nat} (h:Rep S w (.slice ds) [.slice A len c]) (hs:∀ d∈ds,Vf d=1) {i:Nat} (hi:i < ds.length) :
    ∃ ad v,A=some ad∧w.cell? (ad.add (i * 1))=some v∧Rep S w ds[i] [v]:=by
  obtain ⟨ad,cs,hA,hl,hc,hr⟩:=Rep.elem (sz:=1) h hs hi
  match cs,hl with
  | [v], _ =>
    have:=hc 0 Ma
    simp only [Vl,List.getElem_cons_zero] at this
    exact ⟨ad,v,hA,this,hr⟩
theorem Rep.int_elem {ns:List Int} {A:Option Addr} {len c:Nat} (h:Rep S w (.slice (ns.map Ug)) [.slice A len c]) {i:Nat} (hi:i < ns.length) :
    ∃ ad,A=some ad∧w.cell? (ad.add (i * 1))=some (.int .i64 ns[i])∧(-9223372036854775808≤ns[i]∧ns[i]≤9223372036854775807):=by
  obtain ⟨ad,v,hA,hc,hr⟩:=Rep.elem1 h (fun d hd=>by obtain ⟨k,_,rfl⟩:=List.mem_map.1 hd; rfl) (i:=i) (by simpa using hi)
  rw [List.getElem_map,Ug,Rep] at hr
  obtain ⟨he,hk⟩:=hr
  obtain rfl:=(List.cons.inj he).1
  exact ⟨ad,hA,hc,hk⟩
end
end Go.Scarf
namespace Go.Scarf
open Go.RowKit
def Mb (N:Nat) (f:Nat→Int):Array Value:=((List.range N).map fun k=>Value.int .i64 (f k)).toArray
theorem Xf (N:Nat) (f:Nat→Int):(Mb N f).size=N:=by simp [Mb]
theorem Wl {N k:Nat} {f:Nat→Int} (h:k < N):(Mb N f)[k]? = some (.int .i64 (f k)):=by simp [Mb,h]
def Pf (f:Nat→Int) (k:Nat) (v:Int):Nat→Int:=fun x=>if x=k then v else f x
theorem Ol (f:Nat→Int) (k:Nat) (v:Int):Pf f k v k=v:=if_pos rfl
theorem Sn {f:Nat→Int} {k x:Nat} {v:Int} (h:x≠k):Pf f k v x=f x:=if_neg h
theorem Bg {N k:Nat} {f:Nat→Int} (v:Int):Ok (Mb N f) k [.int .i64 v]=Mb N (Pf f k v):=by
  rw [Ok,Ok]
  apply Array.ext
  · simp [Mb]
  · intro i h1 h2
    rw [Array.getElem_setIfInBounds (by simpa using h1)]
    by_cases e:k=i
    · subst e; simp [Mb,Pf]
    · have e' : ¬ i = k := fun h => e h.symm
      simp [Mb,Pf,e,e']
theorem CD (N:Nat):(List.replicate N (Value.int .i64 0)).toArray=Mb N fun _=>0:=by
  apply Array.ext
  · simp [Mb]
  · intro i h1 h2
    simp [Mb]
theorem HB {N:Nat} {f g:Nat→Int} (h:∀ k < N,f k=g k):Mb N f=Mb N g:=by
  unfold Mb
  congr 1
  exact List.map_congr_left fun k hk=>by rw [h k (List.mem_range.1 hk)]
section
variable {w0 w w':World} {Ds:List Nat} {bs:List (Nat × Obj)}
theorem FR.intCell (hF:FR w0 Ds bs w) (i:Nat) {b N k:Nat} {f:Nat→Int} {T:TypeId} (hi:bs[i]? = some (b,.cells (Mb N f) T)) (hk:k < N):w.cell? ⟨b,k,none⟩=some (.int .i64 (f k)):=by
  rw [Ac (hF.heap hi),Wl hk]
structure Grid2 (w:World) (pb n m:Nat) (T1 T2:TypeId) (rb:Nat→Nat) (p:Nat→Nat→Int):Prop where
  top:w.heap[pb]? = some (.cells ((List.range n).map fun i=>Value.slice (some ⟨rb i,0,none⟩) m m).toArray T1)
  row:∀ i,i < n→w.heap[rb i]? = some (.cells (Mb m (p i)) T2)
  inj:∀ i j,i < n→j < n→rb i=rb j→i=j
  ne:∀ i,i < n→rb i≠pb
variable {pb n m:Nat} {T1 T2:TypeId} {rb:Nat→Nat} {p:Nat→Nat→Int}
theorem Grid2.rowCell (h:Grid2 w pb n m T1 T2 rb p) {i:Nat} (hi:i < n):w.cell? ⟨pb,i,none⟩=some (.slice (some ⟨rb i,0,none⟩) m m):=by
  rw [Ac h.top]; simp [hi]
theorem Grid2.cell (h:Grid2 w pb n m T1 T2 rb p) {i j:Nat} (hi:i < n) (hj:j < m):w.cell? ⟨rb i,j,none⟩=some (.int .i64 (p i j)):=by
  rw [Ac (h.row i hi),Wl hj]
theorem Grid2.keep (h:Grid2 w pb n m T1 T2 rb p) {E:List Nat} (hs:Same E w w') (h1:pb∉E) (h2:∀ i,i < n→rb i∉E):Grid2 w' pb n m T1 T2 rb p :=
  ⟨(hs.block _ (Ra h.top) h1).trans h.top,fun i hi=>(hs.block _ (Ra (h.row i hi)) (h2 i hi)).trans (h.row i hi),h.inj,h.ne⟩
theorem Grid2.ext (h:Grid2 w pb n m T1 T2 rb p) (hs:Same [] w w'):Grid2 w' pb n m T1 T2 rb p:=h.keep hs Ma Ma
def Hj (p:Nat→Nat→Int) (i j:Nat) (v:Int):Nat→Nat→Int:=fun a=>if a=i then Pf (p i) j v else p a
theorem Fk (p:Nat→Nat→Int) (i j:Nat) (v:Int):Hj p i j v i j=v:=by simp [Hj,Pf]
theorem Ns {p:Nat→Nat→Int} {i j a b:Nat} {v:Int} (h:¬(a=i∧b=j)):Hj p i j v a b=p a b:=by
  unfold Hj
  by_cases e:a=i
  · subst e; rw [if_pos rfl,Sn fun q=>h ⟨rfl,q⟩]
  · rw [if_neg e]
theorem Grid2.put (h:Grid2 w pb n m T1 T2 rb p) {i j:Nat} {v:Int} (hi:i < n) (hs:Same [rb i] w w') (hn:w'.heap[rb i]? = some (.cells (Mb m (Pf (p i) j v)) T2)):Grid2 w' pb n m T1 T2 rb (Hj p i j v):=by
  refine ⟨(hs.block _ (Ra h.top) (by simpa using fun e=>h.ne i hi e.symm)).trans h.top,fun a ha=>?_,h.inj,h.ne⟩
  by_cases e:a=i
  · subst e; rw [hn]; simp [Hj]
  · have : w'.heap[rb a]? = w.heap[rb a]? := hs.block _ (Ra (h.row a ha)) (by simpa using fun q => e (h.inj a i ha hi q))
    rw [this,h.row a ha,Hj,if_neg e]
end
section
variable {P:Program} {R:Exit→Act→World→Prop} {n:Nat} {k:Kt} {s:Nat→Value} {w:World} {ops rest:List Oper}
variable {ty:TypeId} {pos:String} {aft:Array Edge} {g:Option (Nat × Bool)} {w0:World} {Ds:List Nat} {bs:List (Nat × Obj)}
theorem Xt {t T:TypeId} {x y:Operand} {b j m:Nat} {f:Nat→Int} {v:Int} (hF:FR w0 Ds bs w) (hs:∀ w,(sizeOf t).run P w=.ok 1 w)
    (hx:ev n s x=.pointer (some ⟨b,j,none⟩)) (hy:ev n s y=.int .i64 v) (hh:w.heap[b]? = some (.cells (Mb m f) T)) (hj:j < m) (hD:b∈Ds) (hn:∀ p∈bs,p.1≠b)
    (h:∀ w',FR w0 Ds bs w'→Same [b] w w'→w'.heap[b]? = some (.cells (Mb m (Pf f j v)) T)→Og P R n ops k rest s w')
    (hw:Kc ops n s ⟨none,.store t x y,ty,pos,aft,g⟩=true:=by rfl):Og P R n ops k (⟨none,.store t x y,ty,pos,aft,g⟩::rest) s w:=by
  have hsp:=Ri b j (fz:=(0,0)) [.int .i64 v] 0 w (Mb m f) hh
  rw [Nat.add_zero,Bg] at hsp
  refine Xy (Hu (l:=[.int .i64 v]) hs hx hy O Ed fun i hi=>?_) (h (putCells w ⟨b,j,none⟩ 0 [.int .i64 v]) (hF.touch hsp.2 fun b' hb=>?_) hsp.2 hsp.1) hw
  · obtain rfl : i = 0 := by simp at hi; omega
    rw [Vl,Ac hh]
    exact ⟨⟨_,Wl hj⟩,Bj hh _⟩
  · obtain rfl := List.mem_singleton.1 hb
    exact ⟨fun _=>hD,hn⟩
end
end Go.Scarf
namespace Go.Scarf
open Go.RowKit
theorem IL (z:Value) (n:Nat):madeCells #[z] n=(List.replicate n z).toArray:=by
  unfold madeCells
  apply Array.ext
  · simp
  · intro i h1 h2
    simp [Nat.mod_one]
section
variable {P:Program} {w:World} {ρ:Operand→Value} {dst:Option Nat} {ty:TypeId} {pos:String} {aft:Array Edge} {g:Option (Nat × Bool)}
theorem Qw {t e bytes:Nat} {z:Value} {x y:Operand} {N:Nat} (hE:Elems P t e 1 bytes) (hz0:(P.info? e).map (·.zero)=some (some z)) (hc:z.cells=#[z]) (hx:ρ x=.int .i64 (N:Int)) (hy:ρ y=.int .i64 (N:Int)) (h:N≤1000000000) (hb:bytes≤32) :
    (execOp ρ ⟨dst,.makeSlice t x y,ty,pos,aft,g⟩).run P w=.ok (.value (.slice (some ⟨w.heap.size,0,none⟩) N N)) (w.alloc (.cells (List.replicate N z).toArray e)):=by
  obtain ⟨i,z',hi,hz,hs,hby,-⟩:=hE.info
  rw [hi] at hz0
  have ez:i.zero=some z:=by simpa using hz0
  have hle:(i.bytes:Int) * (N:Int)≤281474976710656:=by
    rw [hby]
    have:bytes * N≤32 * 1000000000:=Nat.mul_le_mul hb h
    have h2:((bytes * N:Nat):Int)≤281474976710656:=by omega
    rwa [Int.natCast_mul] at h2
  have hr:=run_make (P:=P) w t e i z hE.ht hi ez .i64 .i64 N N U (Int.le_refl _) hle U
  rw [hs,Nat.mul_one,hc,Int.toNat_natCast,IL] at hr
  simp [execOp,hx,hy,hr]
theorem Mj {t e:Nat} {x y:Operand} {N:Nat} (hE:Elems P t e 1 8) (hz0:(P.info? e).map (·.zero)=some (some (.int .i64 0))) (hx:ρ x=.int .i64 (N:Int)) (hy:ρ y=.int .i64 (N:Int)) (h:N≤1000000000) :
    (execOp ρ ⟨dst,.makeSlice t x y,ty,pos,aft,g⟩).run P w=.ok (.value (.slice (some ⟨w.heap.size,0,none⟩) N N)) (w.alloc (.cells (Mb N fun _=>0) e)):=by
  rw [←CD]
  exact Qw hE hz0 O hx hy h Ua
end
end Go.Scarf
