/- A part of the proof. -/
import Derived.Test.YthhhbkkelnaekaaGreatDoorZ11
import Derived.Test.YthhhbkkelnaekaaGreatDoorZ4
set_option linter.all false
set_option maxHeartbeats 8000000
set_option maxRecDepth 10000
namespace Go.Scarf
open Go.RowKit Go.Proofs Go.Proofs.Tryz
theorem Y2 (S:Nat→Prop) (w0:World) (la:List Str) (fa:List Int) (Aa Ba:Option Addr) (ca ea:Nat) (hLa:Rep S w0 (Hf la) [.slice Aa la.length ca]) (hNa:Rep S w0 (.slice (fa.map Ug)) [.slice Ba fa.length ea]):Calls prog 33 #[.agg #[.slice Aa la.length ca,.slice Ba fa.length ea]] w0 (De fun v w'=>∃ b:Bool,v=.bool b∧(b=true↔Xh la fa)∧Same [] w0 w'):=by
 have hLla:=hLa.slice_len
 have hNla:=hNa.slice_len
 rw [List.length_map] at hLla hNla
 refine Ka func33 O ntmps33 Kb (Sc _) ?_
 have hF:=FR.start w0 []
 refine Ia ?_
 refine Bh hF O ?_
 clear hF; rintro b1 w hb1 hF -
 refine Ca (Hc O) (Ea (Ha (Ia (Ca (Ec Xc O) (Tc (Mf isAgg25 O hF.F 0 O O) (Ca (Df underlying25 O) (Ca (Ec Qd O) (Tc (Mf isAgg42 O hF.F 0 O O) (Ca (Df underlying42 O) (Ca (Sq O O) (Ca (Jc O) ?_)))))))))))
 refine Hb (d:=12) O (fun hg0=>?_) (fun hg0=>?_)
 refine Da (Da (Da (Da (Ca (Ic O O) (Ea (Ae O (Ia (Ca (Hc O) (Ea ?_)))))))))
 refine Td (v:=.bool false) O O ?_
 refine ⟨false,O,⟨fun h=>(by cases h),fun h=>?_⟩,hF.same⟩
 exfalso
 have:=h.1
 have:=h.2.1
 omega
 refine Ca (Ec Xc O) (Tc (Mf isAgg25 O hF.F 0 O O) (Ca (Df underlying25 O) (Ca (Ho O O) (Ca (Gc O O) (Ea ?_)))))
 refine Yb O O (fun hc0=>?_) (fun hc0=>?_)
 refine Ia (Ca (Hc O) (Ea ?_))
 refine Td (v:=.bool false) O O ?_
 refine ⟨false,O,⟨fun h=>(by cases h),fun h=>?_⟩,hF.same⟩
 exfalso
 have:=h.1
 have:=h.2.1
 omega
 refine Qa (Ga (Ha (Ia (Ca (Wb O) (Ea (Ta ?_))))))
 have hlf5:la.length=fa.length∧la.length≤512:=by omega
 refine Lc (fun μ σ w=>∃ (j:Nat),μ=fa.length - j∧(j≤fa.length)∧(lfOk fa j)∧AllEq σ [(1,.pointer (some ⟨b1,0,none⟩)),(3,.int .i64 ((j:Int)))]∧FR w0 [] [(b1,.cells #[.slice Aa la.length ca,.slice Ba fa.length ea] 56)] w) _ ⟨0,O,(Nat.zero_le _),(fun i _ h=>by omega),Iw,hF⟩ ?_
 clear hF; rintro μ σ w ⟨j,rfl,hj,hok,hs,hF⟩
 refine Cg.slots hs ?_
 clear hs; intro σ
 refine Ha (Ia (Ca (Va O) (Ca (Ec Qd O) (Tc (Mf isAgg42 O hF.F 0 O O) (Ca (Df underlying42 O) (Ca (Yg O O) (Ea ?_)))))))
 refine Yb O O (fun hc1=>?_) (fun hc1=>?_)
 refine Qa (Ga (Ha (Ta (Ha (Ia (Ca (Ec Qd O) (Tc (Mf isAgg42 O hF.F 0 O O) (Ca (Va O) ?_))))))))
 obtain ⟨ad1,hA1,hk1,hx1⟩:=hNa.int_elem (i:=j) U
 refine Ja (v:=.pointer (some (ad1.add (j * 1)))) (Pa (i:=(j:Int)) Nd O hA1 O U U) (Ja (v:=.int .i64 (fa[j])) (Ya isAgg3 O (hF.cell0 hk1)) (Ca (Yg O O) (Ca (Jc O) ?_)))
 refine Hb (d:=31) O (fun hg2=>?_) (fun hg2=>?_)
 refine Da (Da (Da (Da (Da (Da (Da (Ca (Ic O O) (Ea (Ae O (Ia (Ca (Hc O) ?_)))))))))))
 refine Ea ?_
 refine Td (v:=.bool false) O O ?_
 refine ⟨false,O,⟨fun h=>(by cases h),fun h=>?_⟩,hF.same⟩
 exfalso
 have:=h.2.2 j U U
 omega
 refine Ca (Ec Qd O) (Tc (Mf isAgg42 O hF.F 0 O O) (Ca (Va O) ?_))
 obtain ⟨ad3,hA3,hk3,hx3⟩:=hNa.int_elem (i:=j) U
 refine Ja (v:=.pointer (some (ad3.add (j * 1)))) (Pa (i:=(j:Int)) Nd O hA3 O U U) (Ja (v:=.int .i64 (fa[j])) (Ya isAgg3 O (hF.cell0 hk3)) (Ca (Va O) (Ca (Ho O O) (Ca (Gc O O) (Ea ?_)))))
 refine Yb O O (fun hc2=>?_) (fun hc2=>?_)
 refine Ia (Ca (Hc O) (Ea ?_))
 refine Td (v:=.bool false) O O ?_
 refine ⟨false,O,⟨fun h=>(by cases h),fun h=>?_⟩,hF.same⟩
 exfalso
 have:=h.2.2 j U U
 omega
 refine Qa (Ga (Ia (Ca (Wb O) (Ea (Ta ?_)))))
 refine Lc (fun μ σ w=>∃ (i:Nat),μ=j - i∧(i≤j)∧(∀ z (hz:z < j),z < i→fa[j]≤(z:Int)→fa[j]≤fa[z])∧AllEq σ [(1,.pointer (some ⟨b1,0,none⟩)),(3,.int .i64 ((j:Int))),(4,.int .i64 ((i:Int)))]∧FR w0 [] [(b1,.cells #[.slice Aa la.length ca,.slice Ba fa.length ea] 56)] w) _ ⟨0,O,(Nat.zero_le _),(fun z hz h=>by omega),Vp,hF⟩ ?_
 clear hF; rintro μ σ w ⟨i,rfl,hi,hcl,hs,hF⟩
 refine Cg.slots hs ?_
 clear hs; intro σ
 refine Ha (Ia (Ca (Va O) (Ca (Va O) (Ca (Yg O O) (Ea ?_)))))
 refine Yb O O (fun hc3=>?_) (fun hc3=>?_)
 refine Qa (Ga (Ha (Ta (Ha ?_))))
 refine Ff (zs:=[]) (.free 0 (.free 1 (.free 2 (.free 3 (.free 4 (.free 5 (.free 6 (.free 7 (.free 8 (.free 9 (.free 10 (.free 11 (.free 12 (.free 13 (.free 14 (.free 15 (.free 16 (.free 17 (.free 18 (.free 19 .nil)))))))))))))))))))) hF ?_
 clear hF; intro w hF
 refine Db O (Ec Qd O) (Uk O (Mf isAgg42 O C0 0 O O) (Db O (Va O) ?_))
 obtain ⟨ad4,hA4,hk4,hx4⟩:=hNa.int_elem (i:=j) U
 refine Oa O (v:=.pointer (some (ad4.add (j * 1)))) (fun w hC=>Pa (i:=(j:Int)) Nd O hA4 O U U) (Oa O (v:=.int .i64 (fa[j])) (fun w hC=>Ya isAgg3 O (hC.cell0 hk4)) (Db O (Va O) (Db O (J1 O O) (Db O (Jc O) ?_))))
 refine Ik (d:=52) O (fun hg5=>?_) (fun hg5=>?_)
 refine Db O (Ec Qd O) (Uk O (Mf isAgg42 O C0 0 O O) (Db O (Va O) ?_))
 obtain ⟨ad6,hA6,hk6,hx6⟩:=hNa.int_elem (i:=j) U
 refine Oa O (v:=.pointer (some (ad6.add (j * 1)))) (fun w hC=>Pa (i:=(j:Int)) Nd O hA6 O U U) (Oa O (v:=.int .i64 (fa[j])) (fun w hC=>Ya isAgg3 O (hC.cell0 hk6)) (Db O (Ec Qd O) (Uk O (Mf isAgg42 O C0 0 O O) (Db O (Va O) ?_))))
 obtain ⟨ad7,hA7,hk7,hx7⟩:=hNa.int_elem (i:=i) U
 refine Oa O (v:=.pointer (some (ad7.add (i * 1)))) (fun w hC=>Pa (i:=(i:Int)) Nd O hA7 O U U) (Oa O (v:=.int .i64 (fa[i])) (fun w hC=>Ya isAgg3 O (hC.cell0 hk7)) (Db O (Ho O O) (Db O (Ic O O) (Mc (Ga ?_)))))
 refine Yb O O (fun hc4=>?_) (fun hc4=>?_)
 refine Ia (Ca (Hc O) (Ea ?_))
 refine Td (v:=.bool false) O O ?_
 refine ⟨false,O,⟨fun h=>(by cases h),fun h=>?_⟩,hF.same⟩
 exfalso
 have:=(h.2.2 j U U).2.2 i U U
 omega
 refine Qa (Eb (Ga (Fa (Ca (Va O) (Ca (If (((i+1:Nat):Int)) O O) (Ca (Wb O) (Xa ?_)))))))
 refine Ib ⟨_,?_,i+1,rfl,U,(fun z hz h hle=>if e:z=i then (by subst e; omega) else hcl z hz U hle),Vp,hF⟩
 omega
 refine Jd O ?_
 refine Jd O ?_
 refine Jd O ?_
 refine Jd O ?_
 refine Jd O ?_
 refine Jd O ?_
 refine Jd O ?_
 refine Jd O ?_
 refine Jd O ?_
 refine Jd O ?_
 refine Jd O ?_
 refine Db O (Gc O O) (Mc (Ga (Ie O (Qa (Eb (Ga (Fa (Ca (Va O) (Ca (If (((i+1:Nat):Int)) O O) (Ca (Wb O) (Xa ?_)))))))))))
 refine Ib ⟨_,?_,i+1,rfl,U,(fun z hz h hle=>if e:z=i then (by subst e; omega) else hcl z hz U hle),Vp,hF⟩
 omega
 refine Dc (Cc O ?_)
 refine Eb (Ga (Fa (Ca (Va O) (Ca (If (((j+1:Nat):Int)) O O) (Ca (Wb O) (Xa ?_))))))
 refine Ib ⟨_,?_,j+1,O,U,(hok.snoc U U U (fun z hz hle=>hcl z hz U hle)),Iw,hF⟩
 omega
 refine Dc (Cc O ?_)
 refine Ga (Ia (Ca (Hc O) (Ea ?_)))
 refine Td (v:=.bool true) O O ?_
 obtain rfl:j=fa.length:=by omega
 exact ⟨true,O,⟨fun _=>⟨hlf5.1,hlf5.2,hok⟩,fun _=>rfl⟩,hF.same⟩
end Go.Scarf
namespace Go.Scarf
open Go.RowKit Go.Proofs Go.Proofs.Tryz
def gx (n m i k j l:Nat):Nat:=((i * (n+1)+k) * (m+1)+j) * (m+1)+l
theorem XV {n m i k j l i' k' j' l':Nat} (hk:k≤n) (hj:j≤m) (hl:l≤m) (hk':k'≤n) (hj':j'≤m) (hl':l'≤m) (h:gx n m i k j l=gx n m i' k' j' l'):i=i'∧k=k'∧j=j'∧l=l':=by
  have h1:gi m ((i * (n+1)+k) * (m+1)+j) l=gi m ((i' * (n+1)+k') * (m+1)+j') l':=h
  obtain ⟨h2,rfl⟩:=Y8 hl hl' h1
  have h3:gi m (i * (n+1)+k) j=gi m (i' * (n+1)+k') j':=h2
  obtain ⟨h4,rfl⟩:=Y8 hj hj' h3
  have h5:gi n i k=gi n i' k':=h4
  obtain ⟨rfl,rfl⟩:=Y8 hk hk' h5
  exact ⟨O,O,O,O⟩
theorem BZ {n m i k j l:Nat} (hi:i≤n) (hk:k≤n) (hj:j≤m) (hl:l≤m):gx n m i k j l < (n+1) * (n+1) * (m+1) * (m+1):=by
  have h1:=Rp (m:=n) (n:=n) (p:=i) (q:=k) hi hk
  have h2:gi m (gi n i k) j < (n+1) * (n+1) * (m+1):=by
    have:=Rp (m:=m) (n:=(n+1) * (n+1) - 1) (p:=gi n i k) (q:=j) U hj
    rwa [Nat.sub_add_cancel U] at this
  have:=Rp (m:=m) (n:=(n+1) * (n+1) * (m+1) - 1) (p:=gi m (gi n i k) j) (q:=l) U hl
  rw [Nat.sub_add_cancel U] at this
  exact this
theorem SP {n m:Nat} (hn:n≤80) (hm:m≤80):(n+1) * (n+1) * (m+1) * (m+1)≤43046721 :=
  Nat.le_trans (Nat.mul_le_mul (Nat.mul_le_mul (Nat.mul_le_mul (Nat.succ_le_succ hn) (Nat.succ_le_succ hn)) (Nat.succ_le_succ hm)) (Nat.succ_le_succ hm)) Ua
def Ql (N:Nat) (f:Nat→Bool):Array Value:=((List.range N).map fun k=>Value.bool (f k)).toArray
theorem O4 {N k:Nat} {f:Nat→Bool} (h:k < N):(Ql N f)[k]? = some (.bool (f k)):=by simp [Ql,h]
def WK (f:Nat→Bool) (k:Nat):Nat→Bool:=fun x=>if x=k then true else f x
theorem ZD {N k:Nat} {f:Nat→Bool}:Ok (Ql N f) k [.bool true]=Ql N (WK f k):=by
  rw [Ok,Ok]
  apply Array.ext
  · simp [Ql]
  · intro i h1 h2
    rw [Array.getElem_setIfInBounds (by simpa using h1)]
    by_cases e:k=i
    · subst e; simp [Ql,WK]
    · have e' : ¬ i = k := fun h => e h.symm
      simp [Ql,WK,e,e']
theorem Uz (N:Nat):(List.replicate N (Value.bool false)).toArray=Ql N fun _=>false:=by
  apply Array.ext
  · simp [Ql]
  · intro i h1 h2
    simp [Ql]
def Sb (N0 hb cb:Nat) (b:Nat):Prop:=b < N0∧b≠hb∧b≠cb
structure Tk (w:World) (N0 tb hb cb:Nat) (la:List Str) (fa:List Int) (lb:List Str) (fb:List Int) (Aa Ba Ab Bb:Option Addr) (k1 k2 k3 k4:Nat) (N:Nat) (h:Nat→Bool) (f:Nat→Int):Prop where
  cell:w.heap[tb]? = some (.cells #[.slice Aa la.length k1,.slice Ba fa.length k2,.slice Ab lb.length k3,.slice Bb fb.length k4,.int .i64 (la.length:Nat),.int .i64 (lb.length:Nat),.slice (some ⟨hb,0,none⟩) N N,.slice (some ⟨cb,0,none⟩) N N] 86)
  La:Rep (Sb N0 hb cb) w (Hf la) [.slice Aa la.length k1]
  Na:Rep (Sb N0 hb cb) w (.slice (fa.map Ug)) [.slice Ba fa.length k2]
  Lb:Rep (Sb N0 hb cb) w (Hf lb) [.slice Ab lb.length k3]
  Nb:Rep (Sb N0 hb cb) w (.slice (fb.map Ug)) [.slice Bb fb.length k4]
  had:w.heap[hb]? = some (.cells (Ql N h) 4)
  cost:w.heap[cb]? = some (.cells (Mb N f) 3)
  ne:tb≠hb∧tb≠cb∧hb≠cb
  lt:tb < N0∧hb < N0∧cb < N0
section
variable {w w':World} {N0 tb hb cb:Nat} {la lb:List Str} {fa fb:List Int} {Aa Ba Ab Bb:Option Addr} {k1 k2 k3 k4 N:Nat} {h:Nat→Bool} {f:Nat→Int} {E:List Nat}
theorem Tk.ext (H:Tk w N0 tb hb cb la fa lb fb Aa Ba Ab Bb k1 k2 k3 k4 N h f) (hs:Same [] w w'):Tk w' N0 tb hb cb la fa lb fb Aa Ba Ab Bb k1 k2 k3 k4 N h f :=
  ⟨(hs.block _ (Ra H.cell) Ma).trans H.cell,H.La.ext hs,H.Na.ext hs,H.Lb.ext hs,H.Nb.ext hs,(hs.block _ (Ra H.had) Ma).trans H.had,(hs.block _ (Ra H.cost) Ma).trans H.cost,H.ne,H.lt⟩
theorem Tk.putH (H:Tk w N0 tb hb cb la fa lb fb Aa Ba Ab Bb k1 k2 k3 k4 N h f) {h':Nat→Bool} (hs:Same [hb] w w') (hn:w'.heap[hb]? = some (.cells (Ql N h') 4)):Tk w' N0 tb hb cb la fa lb fb Aa Ba Ab Bb k1 k2 k3 k4 N h' f:=by
  have ns:∀ b∈[hb],¬Sb N0 hb cb b:=fun b hb h2=>h2.2.1 (List.mem_singleton.1 hb)
  exact ⟨(hs.block _ (Ra H.cell) (by simpa using H.ne.1)).trans H.cell,H.La.same hs ns,H.Na.same hs ns,H.Lb.same hs ns,H.Nb.same hs ns,hn,(hs.block _ (Ra H.cost) (by simpa using fun e=>H.ne.2.2 e.symm)).trans H.cost,H.ne,H.lt⟩
theorem Tk.putC (H:Tk w N0 tb hb cb la fa lb fb Aa Ba Ab Bb k1 k2 k3 k4 N h f) {f':Nat→Int} (hs:Same [cb] w w') (hn:w'.heap[cb]? = some (.cells (Mb N f') 3)):Tk w' N0 tb hb cb la fa lb fb Aa Ba Ab Bb k1 k2 k3 k4 N h f':=by
  have ns:∀ b∈[cb],¬Sb N0 hb cb b:=fun b hb h2=>h2.2.2 (List.mem_singleton.1 hb)
  exact ⟨(hs.block _ (Ra H.cell) (by simpa using H.ne.2.1)).trans H.cell,H.La.same hs ns,H.Na.same hs ns,H.Lb.same hs ns,H.Nb.same hs ns,(hs.block _ (Ra H.had) (by simpa using H.ne.2.2)).trans H.had,hn,H.ne,H.lt⟩
theorem Tk.at (H:Tk w N0 tb hb cb la fa lb fb Aa Ba Ab Bb k1 k2 k3 k4 N h f) (q:Nat) {v:Value} (hv:#[Value.slice Aa la.length k1,.slice Ba fa.length k2,.slice Ab lb.length k3,.slice Bb fb.length k4,.int .i64 (la.length:Nat),.int .i64 (lb.length:Nat),.slice (some ⟨hb,0,none⟩) N N,.slice (some ⟨cb,0,none⟩) N N][q]? = some v):w.cell? ⟨tb,q,none⟩=some v:=by
  rw [Ac H.cell q]; exact hv
end
def HadOk (A B:Nodes) (n m:Nat) (h:Nat→Bool) (f:Nat→Int):Prop:=∀ i k j l,i≤n→k≤n→j≤m→l≤m→h (gx n m i k j l)=true→f (gx n m i k j l)=((fd A B i k j l:Nat):Int)
theorem HadOk.put {A B:Nodes} {n m i k j l:Nat} {h:Nat→Bool} {f:Nat→Int} (H:HadOk A B n m h f) (hk:k≤n) (hj:j≤m) (hl:l≤m) {b:Int} (hb:b=((fd A B i k j l:Nat):Int)):HadOk A B n m (WK h (gx n m i k j l)) (Pf f (gx n m i k j l) b):=by
  intro i' k' j' l' hi' hk' hj' hl' ht
  by_cases e:gx n m i' k' j' l'=gx n m i k j l
  · obtain ⟨rfl, rfl, rfl, rfl⟩ := XV hk' hj' hl' hk hj hl e
    rw [Ol]; exact hb
  · rw [Sn e]
    refine H i' k' j' l' hi' hk' hj' hl' ?_
    unfold WK at ht
    rwa [if_neg e] at ht
theorem Ux {P:Program} {R:Exit→Act→World→Prop} {n:Nat} {k:Kt} {s:Nat→Value} {w:World} {ops rest:List Oper} {ty:TypeId} {pos:String} {aft:Array Edge} {g:Option (Nat × Bool)} {w0:World} {Ds:List Nat} {bs:List (Nat × Obj)} {t T:TypeId} {x y:Operand} {b j m:Nat} {f:Nat→Bool} (hF:FR w0 Ds bs w) (hs:∀ w,(sizeOf t).run P w=.ok 1 w)
    (hx:ev n s x=.pointer (some ⟨b,j,none⟩)) (hy:ev n s y=.bool true) (hh:w.heap[b]? = some (.cells (Ql m f) T)) (hj:j < m) (hD:b∈Ds) (hn:∀ p∈bs,p.1≠b)
    (h:∀ w',FR w0 Ds bs w'→Same [b] w w'→w'.heap[b]? = some (.cells (Ql m (WK f j)) T)→Og P R n ops k rest s w')
    (hw:Kc ops n s ⟨none,.store t x y,ty,pos,aft,g⟩=true:=by rfl):Og P R n ops k (⟨none,.store t x y,ty,pos,aft,g⟩::rest) s w:=by
  have hsp:=Ri b j (fz:=(0,0)) [.bool true] 0 w (Ql m f) hh
  rw [Nat.add_zero,ZD] at hsp
  refine Xy (Hu (l:=[.bool true]) hs hx hy O Ed fun i hi=>?_) (h (putCells w ⟨b,j,none⟩ 0 [.bool true]) (hF.touch hsp.2 fun b' hb=>?_) hsp.2 hsp.1) hw
  · obtain rfl : i = 0 := by simp at hi; omega
    rw [Vl,Ac hh]
    exact ⟨⟨_,O4 hj⟩,Bj hh _⟩
  · obtain rfl := List.mem_singleton.1 hb
    exact ⟨fun _=>hD,hn⟩
def BtC (N0 tb hb cb:Nat) (la:List Str) (fa:List Int) (lb:List Str) (fb:List Int) (Aa Ba Ab Bb:Option Addr) (k1 k2 k3 k4 N:Nat) (i k j l:Nat):Prop:=∀ (w0:World) (h:Nat→Bool) (f:Nat→Int),N0≤w0.heap.size→Tk w0 N0 tb hb cb la fa lb fb Aa Ba Ab Bb k1 k2 k3 k4 N h f→HadOk (Fb la fa) (Fb lb fb) la.length lb.length h f→Calls prog 35 #[.pointer (some ⟨tb,0,none⟩),.int .i64 ((i:Nat):Int),.int .i64 ((k:Nat):Int),.int .i64 ((j:Nat):Int),.int .i64 ((l:Nat):Int)] w0 (De fun v w'=>∃ (h':Nat→Bool) (f':Nat→Int),v=.int .i64 ((fd (Fb la fa) (Fb lb fb) i k j l:Nat):Int)∧Tk w' N0 tb hb cb la fa lb fb Aa Ba Ab Bb k1 k2 k3 k4 N h' f'∧HadOk (Fb la fa) (Fb lb fb) la.length lb.length h' f'∧Same [hb,cb] w0 w')
theorem Ry {P:Program} {w:World} {ρ:Operand→Value} {dst:Option Nat} {ty:TypeId} {pos:String} {aft:Array Edge} {g:Option (Nat × Bool)} {x y:Operand} {ats:Array TypeId} {k:IntKind} {a b c:Int} (hx:ρ x=.int k a) (hy:ρ y=.int k b) (h:max a b=c):(execOp ρ ⟨dst,.call ⟨.builtin .max,#[x,y],ats⟩,ty,pos,aft,g⟩).run P w=.ok (.value (.int k c)) w:=h ▸ VN hx hy
theorem G_ (N0 tb hb cb:Nat) (la:List Str) (fa:List Int) (lb:List Str) (fb:List Int) (Aa Ba Ab Bb:Option Addr) (k1 k2 k3 k4 N:Nat) (hN:N=(la.length+1) * (la.length+1) * (lb.length+1) * (lb.length+1)) (hNm:N≤43046721) (hka:la.length=fa.length) (hkb:lb.length=fb.length) (hoa:lfOk fa fa.length) (hob:lfOk fb fb.length) (hn5:la.length≤512) (hm5:lb.length≤512) (i k j l:Nat) (hik:i≤k) (hkn:k≤la.length) (hjl:j≤l) (hlm:l≤lb.length) (ih:∀ i' k' j' l',(k' - i')+(l' - j') < (k - i)+(l - j)→i'≤k'→k'≤la.length→j'≤l'→l'≤lb.length→BtC N0 tb hb cb la fa lb fb Aa Ba Ab Bb k1 k2 k3 k4 N i' k' j' l') (w0:World) (h:Nat→Bool) (f:Nat→Int) (hN0:N0≤w0.heap.size) (hT:Tk w0 N0 tb hb cb la fa lb fb Aa Ba Ab Bb k1 k2 k3 k4 N h f) (hH:HadOk (Fb la fa) (Fb lb fb) la.length lb.length h f):Calls prog 35 #[.pointer (some ⟨tb,0,none⟩),.int .i64 ((i:Nat):Int),.int .i64 ((k:Nat):Int),.int .i64 ((j:Nat):Int),.int .i64 ((l:Nat):Int)] w0 (De fun v w'=>∃ (h':Nat→Bool) (f':Nat→Int),v=.int .i64 ((fd (Fb la fa) (Fb lb fb) i k j l:Nat):Int)∧Tk w' N0 tb hb cb la fa lb fb Aa Ba Ab Bb k1 k2 k3 k4 N h' f'∧HadOk (Fb la fa) (Fb lb fb) la.length lb.length h' f'∧Same [hb,cb] w0 w'):=by
 refine Ka func35 O ntmps35 Kb (Z8 _ _ _ _ _) ?_
 have hF:=FR.start w0 [hb,cb]
 refine Ia (Ca (Wb O) (Ea (Ha (Ia (Ca (Va O) (Ca (Va O) (Ca (Rv O O) (Ea ?_))))))))
 refine Yb O O (fun hc0=>?_) (fun hc0=>?_)
 refine Ia (Ca (Va O) (Ca (Va O) (Ca (Hw (((l - j:Nat):Int)) O O) (Ca (Wb O) (Ea ?_)))))
 refine Td (v:=.int .i64 (((l - j:Nat):Int))) O O ?_
 exact ⟨h,f,by rw [Oo U],hT,hH,hF.same⟩
 refine Qa (Ga (Ha (Ia (Ca (Va O) (Ca (Va O) (Ca (Rv O O) (Ea ?_)))))))
 refine Yb O O (fun hc1=>?_) (fun hc1=>?_)
 refine Ia (Ca (Va O) (Ca (Va O) (Ca (Hw (((k - i:Nat):Int)) O O) (Ca (Wb O) (Ea ?_)))))
 refine Td (v:=.int .i64 (((k - i:Nat):Int))) O O ?_
 exact ⟨h,f,by rw [Mr U],hT,hH,hF.same⟩
 refine Qa (Ga (Ha ?_))
 have hbnd:=(Dj (Fb la fa) (Fb lb fb) _ i k j l (Nat.le_refl _)).1
 have hgl:gx la.length lb.length i k j l < N:=by rw [hN]; exact BZ U U U U
 have q1:i * (la.length+1)+k≤(i * (la.length+1)+k) * (lb.length+1)+j:=by have:(i * (la.length+1)+k) * 1≤(i * (la.length+1)+k) * (lb.length+1):=Nat.mul_le_mul_left _ U; omega
 have q2:(i * (la.length+1)+k) * (lb.length+1)+j≤gx la.length lb.length i k j l:=by have:((i * (la.length+1)+k) * (lb.length+1)+j) * 1≤((i * (la.length+1)+k) * (lb.length+1)+j) * (lb.length+1):=Nat.mul_le_mul_left _ U; rw [gx]; omega
 have q3:((i * (la.length+1)+k) * (lb.length+1)+j) * (lb.length+1)≤gx la.length lb.length i k j l:=by rw [gx]; omega
 refine Uc [] (.free 0 (.free 1 (.free 2 (.free 3 (.free 4 (.free 5 (.free 6 (.free 7 (.free 8 (.free 9 (.free 10 (.free 11 (.free 12 (.free 13 (.free 14 (.free 15 (.free 16 (.free 17 (.free 18 (.free 19 (.free 20 (.free 21 (.free 22 (.free 23 (.free 24 (.free 25 .nil)))))))))))))))))))))))))) hF ?_
 clear hF; intro w hF hE
 replace hT:=hT.ext hE
 clear hE
 refine ⟨fun wq=>FR w0 [hb,cb] _ wq∧Tk wq N0 tb hb cb la fa lb fb Aa Ba Ab Bb k1 k2 k3 k4 N h f,⟨hF,hT⟩,?_⟩
 refine Db O (Va O) (Db O (Ue O) (Db O (Gg O) (Db O (Ec QR O) (Oa O (v:=.int .i64 ((la.length:Nat))) (fun w hC=>Ya isAgg3 O (hC.2.at 4 O)) (Db O (If (((la.length+1:Nat):Int)) O O) ?_)))))
 refine Oa O (v:=.int .i64 (((i * (la.length+1):Nat):Int))) (fun w hC=>Fl O O (Id (by simp only [Int.natCast_mul,Int.natCast_add]) U U)) ?_
 refine Db O (Va O) (Db O (If (((i * (la.length+1)+k:Nat):Int)) O O) (Db O (Ue O) (Db O (Gg O) (Db O (Ec WG O) (Oa O (v:=.int .i64 ((lb.length:Nat))) (fun w hC=>Ya isAgg3 O (hC.2.at 5 O)) (Db O (If (((lb.length+1:Nat):Int)) O O) ?_))))))
 refine Oa O (v:=.int .i64 ((((i * (la.length+1)+k) * (lb.length+1):Nat):Int))) (fun w hC=>Fl O O (Id (by simp only [Int.natCast_mul,Int.natCast_add]) U U)) ?_
 refine Db O (Va O) (Db O (If ((((i * (la.length+1)+k) * (lb.length+1)+j:Nat):Int)) O O) (Db O (Ue O) (Db O (Gg O) (Db O (Ec WG O) (Oa O (v:=.int .i64 ((lb.length:Nat))) (fun w hC=>Ya isAgg3 O (hC.2.at 5 O)) (Db O (If (((lb.length+1:Nat):Int)) O O) ?_))))))
 refine Oa O (v:=.int .i64 (((((i * (la.length+1)+k) * (lb.length+1)+j) * (lb.length+1):Nat):Int))) (fun w hC=>Fl O O (Id (by simp only [Int.natCast_mul,Int.natCast_add]) U U)) ?_
 refine Db O (Va O) ?_
 refine Oa O (v:=.int .i64 (((gx la.length lb.length i k j l:Nat):Int))) (fun w hC=>Il O O (Id (by rw [gx]; omega) U U)) ?_
 refine Db O (Wb O) (Mc (Ga (Ha (Ia (Ca (Ue O) (Ca (Gg O) (Ca (Ec Ix O) (Ja (v:=.slice (some ⟨hb,0,none⟩) N N) (Ya isAgg84 O (hT.at 6 O)) (Ca (Va O) (Ja (v:=.pointer (some ⟨hb,gx la.length lb.length i k j l,none⟩)) (Gb (i:=((gx la.length lb.length i k j l:Nat):Int)) (gx la.length lb.length i k j l) JA O O U U U) ?_))))))))))
 refine Ja (v:=.bool (h (gx la.length lb.length i k j l))) (Ya isAgg4 O (by rw [Ac hT.had]; exact O4 hgl)) ?_
 refine Ea ?_
 refine Mi O O (fun hc2=>?_) (fun hc2=>?_)
 refine Ia (Ca (Ue O) (Ca (Gg O) (Ca (Ec Px O) (Ja (v:=.slice (some ⟨cb,0,none⟩) N N) (Ya isAgg42 O (hT.at 7 O)) (Ca (Va O) (Ja (v:=.pointer (some ⟨cb,gx la.length lb.length i k j l,none⟩)) (Gb (i:=((gx la.length lb.length i k j l:Nat):Int)) (gx la.length lb.length i k j l) Nd O O U U U) ?_))))))
 refine Ja (v:=.int .i64 ((fd (Fb la fa) (Fb lb fb) i k j l:Nat))) (Ya isAgg3 O (by rw [Ac hT.cost,Wl hgl,hH i k j l U U U U (by assumption)])) ?_
 refine Ca (Wb O) (Ea ?_)
 refine Td (v:=.int .i64 ((fd (Fb la fa) (Fb lb fb) i k j l:Nat))) O O ?_
 exact ⟨h,f,O,hT,hH,hF.same⟩
 refine Qa (Ga (Ia (Ca (Va O) (Ca (Hw (((k - 1:Nat):Int)) O O) (Ca (Wb O) (Bc (Ca (Va O) (Ca (Hw (((l - 1:Nat):Int)) O O) (Ca (Wb O) ?_)))))))))
 refine Bc (Ca (Wb O) (Ea ?_))
 obtain ⟨adl,hadl⟩:∃ ad,Aa=some ad:=by obtain ⟨ad,h,-⟩:=hT.La.str_elem (i:=k - 1) U; exact ⟨ad,h⟩
 obtain ⟨adm,hadm⟩:∃ ad,Ab=some ad:=by obtain ⟨ad,h,-⟩:=hT.Lb.str_elem (i:=l - 1) U; exact ⟨ad,h⟩
 obtain ⟨adn,hadn⟩:=T8 hT.Na U
 obtain ⟨ado,hado⟩:=T8 hT.Nb U
 obtain ⟨pu,hpu0⟩:∃ z,z=Li fa (k - 1):=⟨_,rfl⟩
 obtain ⟨pv,hpv0⟩:∃ z,z=Li fb (l - 1):=⟨_,rfl⟩
 have hpu:fa[k - 1]=(pu:Int):=by rw [hpu0]; exact (hoa.at U U).symm
 have hpv:fb[l - 1]=(pv:Int):=by rw [hpv0]; exact (hob.at U U).symm
 have hpuk:pu≤k - 1:=by rw [hpu0]; exact Nat.min_le_right _ _
 have hpvl:pv≤l - 1:=by rw [hpv0]; exact Nat.min_le_right _ _
 have hst:=Pu (a:=Fb la fa) (b:=Fb lb fb) (i:=i) (k:=k) (j:=j) (l:=l) U U
 have ea1:(Fb la fa).lf (k - 1)=pu:=hpu0.symm
 have eb1:(Fb lb fb).lf (l - 1)=pv:=hpv0.symm
 rw [ea1,eb1] at hst
 have hturn:turn (Fb la fa) (Fb lb fb) (k - 1) (l - 1)=if la[k - 1]=lb[l - 1] then 0 else 1:=by simp [turn,Fb,List.getD,show k - 1 < la.length by omega,show l - 1 < lb.length by omega]
 have m1:=(Dj (Fb la fa) (Fb lb fb) _ i (k - 1) j l (Nat.le_refl _)).1
 have m2:=(Dj (Fb la fa) (Fb lb fb) _ i k j (l - 1) (Nat.le_refl _)).1
 have m3:=(Dj (Fb la fa) (Fb lb fb) _ i pu j pv (Nat.le_refl _)).1
 have m4:=(Dj (Fb la fa) (Fb lb fb) _ pu (k - 1) pv (l - 1) (Nat.le_refl _)).1
 refine Ha ?_
 refine Qf (fun σ w=>∃ (tt:Nat),(tt=turn (Fb la fa) (Fb lb fb) (k - 1) (l - 1))∧(Tk w N0 tb hb cb la fa lb fb Aa Ba Ab Bb k1 k2 k3 k4 N h f)∧AllEq σ [(0,.pointer (some ⟨tb,0,none⟩)),(1,.int .i64 ((i:Nat))),(2,.int .i64 ((k:Nat))),(3,.int .i64 ((j:Nat))),(4,.int .i64 ((l:Nat))),(11,.int .i64 (((gx la.length lb.length i k j l:Nat):Int))),(12,.int .i64 (((k - 1:Nat):Int))),(13,.int .i64 (((l - 1:Nat):Int))),(14,.int .i64 ((tt:Nat)))]∧FR w0 [hb,cb] [] w) ?_ ?_
 refine Ha ?_
 refine Uc [] (.free 0 (.free 1 (.free 2 (.free 3 (.free 4 (.free 5 (.free 6 (.free 7 (.free 8 (.free 9 (.free 10 (.free 11 (.free 12 (.free 13 (.free 14 (.free 15 (.free 16 .nil))))))))))))))))) hF ?_
 clear hF; intro w hF hE
 replace hT:=hT.ext hE
 clear hE
 refine ⟨fun wq=>FR w0 [hb,cb] _ wq∧Tk wq N0 tb hb cb la fa lb fb Aa Ba Ab Bb k1 k2 k3 k4 N h f,⟨hF,hT⟩,?_⟩
 refine Db O (Ue O) (Db O (Gg O) (Db O (Ec Du O) (Db O (Ec Xc O) (Oa O (v:=.slice Aa la.length k1) (fun w hC=>Ya isAgg25 O (hC.2.at 0 O)) (Db O (Va O) (Oa O (v:=.pointer (some (adl.add ((k - 1) * 1)))) (fun w hC=>Pa (i:=((k - 1:Nat):Int)) Gk O hadl O U U) (Oa O (v:=.string (bs (la[k - 1]))) (fun w hC=>Ya isAgg9 O (QE hC.2.La hadl U)) (Db O (Ue O) (Db O (Gg O) (Db O (Ec Jx O) (Db O (Ec Xc O) (Oa O (v:=.slice Ab lb.length k3) (fun w hC=>Ya isAgg25 O (hC.2.at 2 O)) (Db O (Va O) ?_)))))))))))))
 refine Oa O (v:=.pointer (some (adm.add ((l - 1) * 1)))) (fun w hC=>Pa (i:=((l - 1:Nat):Int)) Gk O hadm O U U) (Oa O (v:=.string (bs (lb[l - 1]))) (fun w hC=>Ya isAgg9 O (QE hC.2.Lb hadm U)) (Db O (Ay O O) (Mc (Ga ?_))))
 refine Yb O O (fun hc3=>?_) (fun hc3=>?_)
 refine Fa (Ca (Wb O) (Xa ?_))
 exact Ib ⟨(0),(by rw [hturn,if_pos (by assumption)]),(hT),YT,hF⟩
 refine Qa ?_
 exact Ib ⟨(1),(by rw [hturn,if_neg (by assumption)]),(hT),YT,hF⟩
 clear hF; rintro σ w ⟨tt,htt,hT,hs,hF⟩
 refine Eg.slots hs ?_
 clear hs; intro σ
 have htt1:tt≤1:=by rw [htt]; unfold turn; split <;> omega
 refine Ga (Ia (Ca (Ue O) (Ca (Va O) (Ca (Va O) (Ca (Va O) (Ca (Va O) ?_))))))
 refine Pb (ih i (k - 1) j (l) U U U U U _ _ _ (Nat.le_trans hN0 hF.same.size) hT hH) (Tn X_ O O O O O O) ?_
 rintro _ w ⟨h_,f_,rfl,hT_,hH_,hE⟩
 replace hF:=hF.touch hE (fun b hb=>⟨fun _=>hb,fun z hz=>by cases hz⟩)
 clear hT hH hE
 have hT:=hT_
 have hH:=hH_
 clear hT_ hH_
 refine Ca (Ue O) (Ca (Va O) (Ca (Va O) (Ca (Va O) (Ca (Va O) ?_))))
 refine Pb (ih i (k) j (l - 1) U U U U U _ _ _ (Nat.le_trans hN0 hF.same.size) hT hH) (Tn X_ O O O O O O) ?_
 rintro _ w ⟨h_,f_,rfl,hT_,hH_,hE⟩
 replace hF:=hF.touch hE (fun b hb=>⟨fun _=>hb,fun z hz=>by cases hz⟩)
 clear hT hH hE
 have hT:=hT_
 have hH:=hH_
 clear hT_ hH_
 refine Ja (v:=.int .i64 (min ((fd (Fb la fa) (Fb lb fb) i (k - 1) j l:Nat):Int) ((fd (Fb la fa) (Fb lb fb) i k j (l - 1):Nat):Int))) (J4 O O) (Ca (Sl O O) (Ca (Wb O) (Bc (Ca (Ue O) (Ca (Gg O) (Ca (Ec Du O) (Ca (Ec Qd O) (Ja (v:=.slice Ba fa.length k2) (Ya isAgg42 O (hT.at 1 O)) (Ca (Va O) (Ja (v:=.pointer (some (adn.add ((k - 1) * 1)))) (Pa (i:=((k - 1:Nat):Int)) Nd O hadn O U U) ?_))))))))))
 refine Ja (v:=.int .i64 ((pu:Nat))) (Ya isAgg3 O (by rw [←hpu]; exact Qp hT.Na hadn U)) ?_
 refine Ca (Va O) ?_
 by_cases hmu:i≤pu
 refine Ja (v:=.int .i64 ((pu:Nat))) (Ry O O U) (Ca (Wb O) (Bc (Ca (Ue O) (Ca (Gg O) (Ca (Ec Jx O) (Ca (Ec Qd O) (Ja (v:=.slice Bb fb.length k4) (Ya isAgg42 O (hT.at 3 O)) (Ca (Va O) (Ja (v:=.pointer (some (ado.add ((l - 1) * 1)))) (Pa (i:=((l - 1:Nat):Int)) Nd O hado O U U) ?_)))))))))
 refine Ja (v:=.int .i64 ((pv:Nat))) (Ya isAgg3 O (by rw [←hpv]; exact Qp hT.Nb hado U)) ?_
 refine Ca (Va O) ?_
 by_cases hmv:j≤pv
 refine Ja (v:=.int .i64 ((pv:Nat))) (Ry O O U) (Ca (Wb O) (Ea (Ha (Ia (Ca (Va O) (Ca (Ue O) (Ca (Gg O) (Ca (Ec Du O) (Ca (Ec Qd O) (Ja (v:=.slice Ba fa.length k2) (Ya isAgg42 O (hT.at 1 O)) (Ca (Va O) ?_)))))))))))
 refine Ja (v:=.pointer (some (adn.add ((k - 1) * 1)))) (Pa (i:=((k - 1:Nat):Int)) Nd O hadn O U U) ?_
 refine Ja (v:=.int .i64 ((pu:Nat))) (Ya isAgg3 O (by rw [←hpu]; exact Qp hT.Na hadn U)) ?_
 refine Ja (v:=.bool true) (Ce (Ig O O) O) (Ca (Jc O) (Ca (Va O) (Ca (Ue O) (Ca (Gg O) (Ca (Ec Jx O) (Ca (Ec Qd O) (Ja (v:=.slice Bb fb.length k4) (Ya isAgg42 O (hT.at 3 O)) (Ca (Va O) (Ja (v:=.pointer (some (ado.add ((l - 1) * 1)))) (Pa (i:=((l - 1:Nat):Int)) Nd O hado O U U) ?_)))))))))
 refine Ja (v:=.int .i64 ((pv:Nat))) (Ya isAgg3 O (by rw [←hpv]; exact Qp hT.Nb hado U)) ?_
 refine Ja (v:=.bool true) (Ce (Ig O O) O) (Ca (Ic O O) (Ea (Ae O (Fa (Ca (Va O) (Ca (Ue O) (Ca (Va O) (Ca (Va O) (Ca (Va O) (Ca (Va O) ?_))))))))))
 refine Pb (ih i (pu) j (pv) U U U U U _ _ _ (Nat.le_trans hN0 hF.same.size) hT hH) (Tn X_ O O O O O O) ?_
 rintro _ w ⟨h_,f_,rfl,hT_,hH_,hE⟩
 replace hF:=hF.touch hE (fun b hb=>⟨fun _=>hb,fun z hz=>by cases hz⟩)
 clear hT hH hE
 have hT:=hT_
 have hH:=hH_
 clear hT_ hH_
 refine Ca (Ue O) (Ca (Va O) (Ca (Va O) (Ca (Va O) (Ca (Va O) ?_))))
 refine Pb (ih pu (k - 1) pv (l - 1) U U U U U _ _ _ (Nat.le_trans hN0 hF.same.size) hT hH) (Tn X_ O O O O O O) ?_
 rintro _ w ⟨h_,f_,rfl,hT_,hH_,hE⟩
 replace hF:=hF.touch hE (fun b hb=>⟨fun _=>hb,fun z hz=>by cases hz⟩)
 clear hT hH hE
 have hT:=hT_
 have hH:=hH_
 clear hT_ hH_
 refine Ca (Sl O O) (Ca (Va O) (Ca (Sl O O) (Ja (v:=.int .i64 (min ((min ((fd (Fb la fa) (Fb lb fb) i (k - 1) j l:Nat):Int) ((fd (Fb la fa) (Fb lb fb) i k j (l - 1):Nat):Int):Int)+1:Int) ((((fd (Fb la fa) (Fb lb fb) i pu j pv:Nat):Int)+(fd (Fb la fa) (Fb lb fb) pu (k - 1) pv (l - 1):Nat):Int)+(tt:Nat):Int))) (J4 O O) (Ca (Wb O) (Ea (Ha ?_))))))
 have hbest:(min ((min ((fd (Fb la fa) (Fb lb fb) i (k - 1) j l:Nat):Int) ((fd (Fb la fa) (Fb lb fb) i k j (l - 1):Nat):Int):Int)+1:Int) ((((fd (Fb la fa) (Fb lb fb) i pu j pv:Nat):Int)+(fd (Fb la fa) (Fb lb fb) pu (k - 1) pv (l - 1):Nat):Int)+(tt:Nat):Int):Int)=((fd (Fb la fa) (Fb lb fb) i k j l:Nat):Int):=by rw [hst,if_pos ⟨hmu,hmv⟩,←htt]; omega
 refine Fa (Ca (Ue O) (Ca (Gg O) (Ca (Ec Ix O) (Ja (v:=.slice (some ⟨hb,0,none⟩) N N) (Ya isAgg84 O (hT.at 6 O)) (Ca (Va O) (Ja (v:=.pointer (some ⟨hb,gx la.length lb.length i k j l,none⟩)) (Gb (i:=((gx la.length lb.length i k j l:Nat):Int)) (gx la.length lb.length i k j l) JA O O U U U) ?_))))))
 refine Ux hF sizeOf4 O O hT.had hgl Ma Ma ?_
 clear hF; intro w hF hE hnew
 replace hT:=hT.putH hE hnew
 clear hE hnew
 refine Bc (Ca (Ue O) (Ca (Gg O) (Ca (Ec Px O) (Ja (v:=.slice (some ⟨cb,0,none⟩) N N) (Ya isAgg42 O (hT.at 7 O)) (Ca (Va O) (Ca (Va O) (Ja (v:=.pointer (some ⟨cb,gx la.length lb.length i k j l,none⟩)) (Gb (i:=((gx la.length lb.length i k j l:Nat):Int)) (gx la.length lb.length i k j l) Nd O O U U U) ?_)))))))
 refine Xt hF sizeOf3 O O hT.cost hgl Ma Ma ?_
 clear hF; intro w hF hE hnew
 replace hT:=hT.putC hE hnew
 clear hE hnew
 refine Bc (Ca (Va O) (Ca (Wb O) (Ea ?_)))
 refine Ub (Rb (Sa (An (v:=.int .i64 (min ((min ((fd (Fb la fa) (Fb lb fb) i (k - 1) j l:Nat):Int) ((fd (Fb la fa) (Fb lb fb) i k j (l - 1):Nat):Int):Int)+1:Int) ((((fd (Fb la fa) (Fb lb fb) i pu j pv:Nat):Int)+(fd (Fb la fa) (Fb lb fb) pu (k - 1) pv (l - 1):Nat):Int)+(tt:Nat):Int))) O O) ?_))
 exact ⟨_,_,by rw [hbest],hT,hH.put U U U hbest,hF.same⟩
 refine Ja (v:=.int .i64 ((j:Nat))) (Ry O O U) (Ca (Wb O) (Ea (Ha (Ia (Ca (Va O) (Ca (Ue O) (Ca (Gg O) (Ca (Ec Du O) (Ca (Ec Qd O) (Ja (v:=.slice Ba fa.length k2) (Ya isAgg42 O (hT.at 1 O)) (Ca (Va O) ?_)))))))))))
 refine Ja (v:=.pointer (some (adn.add ((k - 1) * 1)))) (Pa (i:=((k - 1:Nat):Int)) Nd O hadn O U U) ?_
 refine Ja (v:=.int .i64 ((pu:Nat))) (Ya isAgg3 O (by rw [←hpu]; exact Qp hT.Na hadn U)) ?_
 refine Ja (v:=.bool true) (Ce (Ig O O) O) (Ca (Jc O) (Ca (Va O) (Ca (Ue O) (Ca (Gg O) (Ca (Ec Jx O) (Ca (Ec Qd O) (Ja (v:=.slice Bb fb.length k4) (Ya isAgg42 O (hT.at 3 O)) (Ca (Va O) (Ja (v:=.pointer (some (ado.add ((l - 1) * 1)))) (Pa (i:=((l - 1:Nat):Int)) Nd O hado O U U) ?_)))))))))
 refine Ja (v:=.int .i64 ((pv:Nat))) (Ya isAgg3 O (by rw [←hpv]; exact Qp hT.Nb hado U)) ?_
 refine Ja (v:=.bool false) (Zc (Ig O O) U) (Ca (Ic O O) (Ea (Qj O (Ha ?_))))
 have hbest:((min ((fd (Fb la fa) (Fb lb fb) i (k - 1) j l:Nat):Int) ((fd (Fb la fa) (Fb lb fb) i k j (l - 1):Nat):Int):Int)+1:Int)=((fd (Fb la fa) (Fb lb fb) i k j l:Nat):Int):=by rw [hst,if_neg U]; omega
 refine Fa (Ca (Ue O) (Ca (Gg O) (Ca (Ec Ix O) (Ja (v:=.slice (some ⟨hb,0,none⟩) N N) (Ya isAgg84 O (hT.at 6 O)) (Ca (Va O) (Ja (v:=.pointer (some ⟨hb,gx la.length lb.length i k j l,none⟩)) (Gb (i:=((gx la.length lb.length i k j l:Nat):Int)) (gx la.length lb.length i k j l) JA O O U U U) ?_))))))
 refine Ux hF sizeOf4 O O hT.had hgl Ma Ma ?_
 clear hF; intro w hF hE hnew
 replace hT:=hT.putH hE hnew
 clear hE hnew
 refine Bc (Ca (Ue O) (Ca (Gg O) (Ca (Ec Px O) (Ja (v:=.slice (some ⟨cb,0,none⟩) N N) (Ya isAgg42 O (hT.at 7 O)) (Ca (Va O) (Ca (Va O) (Ja (v:=.pointer (some ⟨cb,gx la.length lb.length i k j l,none⟩)) (Gb (i:=((gx la.length lb.length i k j l:Nat):Int)) (gx la.length lb.length i k j l) Nd O O U U U) ?_)))))))
 refine Xt hF sizeOf3 O O hT.cost hgl Ma Ma ?_
 clear hF; intro w hF hE hnew
 replace hT:=hT.putC hE hnew
 clear hE hnew
 refine Bc (Ca (Va O) (Ca (Wb O) (Ea ?_)))
 refine Ub (Rb (Sa (An (v:=.int .i64 ((min ((fd (Fb la fa) (Fb lb fb) i (k - 1) j l:Nat):Int) ((fd (Fb la fa) (Fb lb fb) i k j (l - 1):Nat):Int):Int)+1)) O O) ?_))
 exact ⟨_,_,by rw [hbest],hT,hH.put U U U hbest,hF.same⟩
 refine Ja (v:=.int .i64 ((i:Nat))) (Ry O O U) (Ca (Wb O) (Bc (Ca (Ue O) (Ca (Gg O) (Ca (Ec Jx O) (Ca (Ec Qd O) (Ja (v:=.slice Bb fb.length k4) (Ya isAgg42 O (hT.at 3 O)) (Ca (Va O) (Ja (v:=.pointer (some (ado.add ((l - 1) * 1)))) (Pa (i:=((l - 1:Nat):Int)) Nd O hado O U U) ?_)))))))))
 refine Ja (v:=.int .i64 ((pv:Nat))) (Ya isAgg3 O (by rw [←hpv]; exact Qp hT.Nb hado U)) ?_
 refine Ca (Va O) ?_
 by_cases hmv:j≤pv
 refine Ja (v:=.int .i64 ((pv:Nat))) (Ry O O U) (Ca (Wb O) (Ea (Ha (Ia (Ca (Va O) (Ca (Ue O) (Ca (Gg O) (Ca (Ec Du O) (Ca (Ec Qd O) (Ja (v:=.slice Ba fa.length k2) (Ya isAgg42 O (hT.at 1 O)) (Ca (Va O) ?_)))))))))))
 refine Ja (v:=.pointer (some (adn.add ((k - 1) * 1)))) (Pa (i:=((k - 1:Nat):Int)) Nd O hadn O U U) ?_
 refine Ja (v:=.int .i64 ((pu:Nat))) (Ya isAgg3 O (by rw [←hpu]; exact Qp hT.Na hadn U)) ?_
 refine Ja (v:=.bool false) (Zc (Ig O O) U) (Ca (Jc O) (Da (Da (Da (Da (Da (Da (Da (Da (Da (Da (Ca (Gc O O) (Xa ?_)))))))))))))
 refine Ga (Qj O (Ha ?_))
 have hbest:((min ((fd (Fb la fa) (Fb lb fb) i (k - 1) j l:Nat):Int) ((fd (Fb la fa) (Fb lb fb) i k j (l - 1):Nat):Int):Int)+1:Int)=((fd (Fb la fa) (Fb lb fb) i k j l:Nat):Int):=by rw [hst,if_neg U]; omega
 refine Fa (Ca (Ue O) (Ca (Gg O) (Ca (Ec Ix O) (Ja (v:=.slice (some ⟨hb,0,none⟩) N N) (Ya isAgg84 O (hT.at 6 O)) (Ca (Va O) (Ja (v:=.pointer (some ⟨hb,gx la.length lb.length i k j l,none⟩)) (Gb (i:=((gx la.length lb.length i k j l:Nat):Int)) (gx la.length lb.length i k j l) JA O O U U U) ?_))))))
 refine Ux hF sizeOf4 O O hT.had hgl Ma Ma ?_
 clear hF; intro w hF hE hnew
 replace hT:=hT.putH hE hnew
 clear hE hnew
 refine Bc (Ca (Ue O) (Ca (Gg O) (Ca (Ec Px O) (Ja (v:=.slice (some ⟨cb,0,none⟩) N N) (Ya isAgg42 O (hT.at 7 O)) (Ca (Va O) (Ca (Va O) (Ja (v:=.pointer (some ⟨cb,gx la.length lb.length i k j l,none⟩)) (Gb (i:=((gx la.length lb.length i k j l:Nat):Int)) (gx la.length lb.length i k j l) Nd O O U U U) ?_)))))))
 refine Xt hF sizeOf3 O O hT.cost hgl Ma Ma ?_
 clear hF; intro w hF hE hnew
 replace hT:=hT.putC hE hnew
 clear hE hnew
 refine Bc (Ca (Va O) (Ca (Wb O) (Ea ?_)))
 refine Ub (Rb (Sa (An (v:=.int .i64 ((min ((fd (Fb la fa) (Fb lb fb) i (k - 1) j l:Nat):Int) ((fd (Fb la fa) (Fb lb fb) i k j (l - 1):Nat):Int):Int)+1)) O O) ?_))
 exact ⟨_,_,by rw [hbest],hT,hH.put U U U hbest,hF.same⟩
 refine Ja (v:=.int .i64 ((j:Nat))) (Ry O O U) (Ca (Wb O) (Ea (Ha (Ia (Ca (Va O) (Ca (Ue O) (Ca (Gg O) (Ca (Ec Du O) (Ca (Ec Qd O) (Ja (v:=.slice Ba fa.length k2) (Ya isAgg42 O (hT.at 1 O)) (Ca (Va O) ?_)))))))))))
 refine Ja (v:=.pointer (some (adn.add ((k - 1) * 1)))) (Pa (i:=((k - 1:Nat):Int)) Nd O hadn O U U) ?_
 refine Ja (v:=.int .i64 ((pu:Nat))) (Ya isAgg3 O (by rw [←hpu]; exact Qp hT.Na hadn U)) ?_
 refine Ja (v:=.bool false) (Zc (Ig O O) U) (Ca (Jc O) (Da (Da (Da (Da (Da (Da (Da (Da (Da (Da (Ca (Gc O O) (Xa ?_)))))))))))))
 refine Ga (Qj O (Ha ?_))
 have hbest:((min ((fd (Fb la fa) (Fb lb fb) i (k - 1) j l:Nat):Int) ((fd (Fb la fa) (Fb lb fb) i k j (l - 1):Nat):Int):Int)+1:Int)=((fd (Fb la fa) (Fb lb fb) i k j l:Nat):Int):=by rw [hst,if_neg U]; omega
 refine Fa (Ca (Ue O) (Ca (Gg O) (Ca (Ec Ix O) (Ja (v:=.slice (some ⟨hb,0,none⟩) N N) (Ya isAgg84 O (hT.at 6 O)) (Ca (Va O) (Ja (v:=.pointer (some ⟨hb,gx la.length lb.length i k j l,none⟩)) (Gb (i:=((gx la.length lb.length i k j l:Nat):Int)) (gx la.length lb.length i k j l) JA O O U U U) ?_))))))
 refine Ux hF sizeOf4 O O hT.had hgl Ma Ma ?_
 clear hF; intro w hF hE hnew
 replace hT:=hT.putH hE hnew
 clear hE hnew
 refine Bc (Ca (Ue O) (Ca (Gg O) (Ca (Ec Px O) (Ja (v:=.slice (some ⟨cb,0,none⟩) N N) (Ya isAgg42 O (hT.at 7 O)) (Ca (Va O) (Ca (Va O) (Ja (v:=.pointer (some ⟨cb,gx la.length lb.length i k j l,none⟩)) (Gb (i:=((gx la.length lb.length i k j l:Nat):Int)) (gx la.length lb.length i k j l) Nd O O U U U) ?_)))))))
 refine Xt hF sizeOf3 O O hT.cost hgl Ma Ma ?_
 clear hF; intro w hF hE hnew
 replace hT:=hT.putC hE hnew
 clear hE hnew
 refine Bc (Ca (Va O) (Ca (Wb O) (Ea ?_)))
 refine Ub (Rb (Sa (An (v:=.int .i64 ((min ((fd (Fb la fa) (Fb lb fb) i (k - 1) j l:Nat):Int) ((fd (Fb la fa) (Fb lb fb) i k j (l - 1):Nat):Int):Int)+1)) O O) ?_))
 exact ⟨_,_,by rw [hbest],hT,hH.put U U U hbest,hF.same⟩
theorem U_ (N0 tb hb cb:Nat) (la:List Str) (fa:List Int) (lb:List Str) (fb:List Int) (Aa Ba Ab Bb:Option Addr) (k1 k2 k3 k4 N:Nat) (hN:N=(la.length+1) * (la.length+1) * (lb.length+1) * (lb.length+1)) (hNm:N≤43046721) (hka:la.length=fa.length) (hkb:lb.length=fb.length) (hoa:lfOk fa fa.length) (hob:lfOk fb fb.length) (hn5:la.length≤512) (hm5:lb.length≤512):∀ (s i k j l:Nat),(k - i)+(l - j)≤s→i≤k→k≤la.length→j≤l→l≤lb.length→BtC N0 tb hb cb la fa lb fb Aa Ba Ab Bb k1 k2 k3 k4 N i k j l:=by
  intro s
  induction s using Nat.strongRecOn with
  | _ s IH =>
    intro i k j l hs hik hkn hjl hlm w0 h f hN0 hT hH
    exact G_ N0 tb hb cb la fa lb fb Aa Ba Ab Bb k1 k2 k3 k4 N hN hNm hka hkb hoa hob hn5 hm5 i k j l hik hkn hjl hlm (fun i' k' j' l' hlt h1 h2 h3 h4=>IH ((k' - i')+(l' - j')) U i' k' j' l' (Nat.le_refl _) h1 h2 h3 h4) w0 h f hN0 hT hH
end Go.Scarf
namespace Go.Scarf
open Go.RowKit Go.Proofs Go.Proofs.Tryz
theorem LW (S S':Nat→Prop) (w0:World) (la:List Str) (fa:List Int) (Aa Ba:Option Addr) (ca ea:Nat) (hLa:Rep S w0 (Hf la) [.slice Aa la.length ca]) (hNa:Rep S w0 (.slice (fa.map Ug)) [.slice Ba fa.length ea]) (lb:List Str) (fb:List Int) (Ab Bb:Option Addr) (cb eb:Nat) (hLb:Rep S' w0 (Hf lb) [.slice Ab lb.length cb]) (hNb:Rep S' w0 (.slice (fb.map Ug)) [.slice Bb fb.length eb]) (ha8:la.length≤80) (hb8:lb.length≤80):Calls prog 34 #[.agg #[.slice Aa la.length ca,.slice Ba fa.length ea],.agg #[.slice Ab lb.length cb,.slice Bb fb.length eb]] w0 (De fun v w'=>∃ tb hb gb:Nat,v=.pointer (some ⟨tb,0,none⟩)∧Tk w' w'.heap.size tb hb gb la fa lb fb Aa Ba Ab Bb ca ea cb eb ((la.length+1) * (la.length+1) * (lb.length+1) * (lb.length+1)) (fun _=>false) (fun _=>0)∧w0.heap.size≤hb∧w0.heap.size≤gb∧Same [] w0 w'):=by
 have hLla:=hLa.slice_len
 have hNla:=hNa.slice_len
 rw [List.length_map] at hLla hNla
 have hLlb:=hLb.slice_len
 have hNlb:=hNb.slice_len
 rw [List.length_map] at hLlb hNlb
 have hN:=SP ha8 hb8
 have hN1:(la.length+1) * (la.length+1)≤(la.length+1) * (la.length+1) * (lb.length+1):=Nat.le_mul_of_pos_right _ U
 have hN2:(la.length+1) * (la.length+1) * (lb.length+1)≤((la.length+1) * (la.length+1) * (lb.length+1) * (lb.length+1)):=Nat.le_mul_of_pos_right _ U
 refine Ka func34 O ntmps34 Kb (Ee _ _) ?_
 have hF:=FR.start w0 []
 refine Ia ?_
 refine Bh hF O ?_
 clear hF; rintro b1 w hb1 hF -
 refine Bh hF O ?_
 clear hF; rintro b2 w hb2 hF -
 refine Ca (I_ O) (Bc (Ca (Ec Xc O) (Tc (Mf isAgg25 O hF.F 1 O O) (Ca (Df underlying25 O) (Ca (Wb O) (Bc (Ca (Ec Xc O) ?_)))))))
 refine Tc (Mf isAgg25 O hF.F 0 O O) (Ca (Df underlying25 O) (Ca (Wb O) (Bc (Ca (Va O) (Ca (If (((la.length+1:Nat):Int)) O O) (Ca (Va O) (Ca (If (((la.length+1:Nat):Int)) O O) ?_)))))))
 refine Ja (v:=.int .i64 ((((la.length+1) * (la.length+1):Nat):Int))) (Fl O O (Id (by simp only [Int.natCast_mul]) U U)) ?_
 refine Ca (Va O) (Ca (If (((lb.length+1:Nat):Int)) O O) ?_)
 refine Ja (v:=.int .i64 ((((la.length+1) * (la.length+1) * (lb.length+1):Nat):Int))) (Fl O O (Id (by simp only [Int.natCast_mul]) U U)) ?_
 refine Ca (Va O) (Ca (If (((lb.length+1:Nat):Int)) O O) ?_)
 refine Ja (v:=.int .i64 ((((la.length+1) * (la.length+1) * (lb.length+1) * (lb.length+1)):Nat))) (Fl O O (Id (by simp only [Int.natCast_mul]) U U)) ?_
 refine Ca (Wb O) (Ea (Ha ?_))
 refine Ff (zs:=[]) (.free 0 (.free 1 (.free 2 (.free 3 (.free 4 (.free 6 (.alt 5 (.act 7 (.free 8 (.act 9 (.free 10 .nil)))) (.act 7 (.act 5 (.free 8 (.act 9 (.free 10 .nil)))))))))))) hF ?_
 clear hF; intro w hF
 refine Uk O (Wj isAgg56 sizeOf56 O C0 1 O O) (Uk O (Wj isAgg56 sizeOf56 O C0 0 O O) (Db O (Va O) (Db O (Va O) (Db O (Va O) (Db O (Va O) ?_)))))
 refine Mk ?_ ?_
 refine Cm O (v:=fun b=>.slice (some ⟨b,0,none⟩) (((la.length+1) * (la.length+1) * (lb.length+1) * (lb.length+1))) (((la.length+1) * (la.length+1) * (lb.length+1) * (lb.length+1)))) (o:=.cells (List.replicate (((la.length+1) * (la.length+1) * (lb.length+1) * (lb.length+1))) (.bool false)).toArray 4) hF (Qw (z:=.bool false) DU Qb O O O U Ua) ?_
 clear hF; rintro b3 w hb3 hF -
 refine ⟨hF.drop 1,?_⟩
 refine Cm O (v:=fun b=>.slice (some ⟨b,0,none⟩) (((la.length+1) * (la.length+1) * (lb.length+1) * (lb.length+1))) (((la.length+1) * (la.length+1) * (lb.length+1) * (lb.length+1)))) (o:=.cells (Mb (((la.length+1) * (la.length+1) * (lb.length+1) * (lb.length+1))) fun _=>0) 3) hF (Mj Wh Qb O O U) ?_
 clear hF; rintro b4 w hb4 hF -
 refine ⟨hF.drop 2,?_⟩
 refine Oa O (v:=.agg #[.slice Aa la.length ca,.slice Ba fa.length ea,.slice Ab lb.length cb,.slice Bb fb.length eb,.int .i64 ((la.length:Nat)),.int .i64 ((lb.length:Nat)),.slice (some ⟨b3,0,none⟩) (((la.length+1) * (la.length+1) * (lb.length+1) * (lb.length+1))) (((la.length+1) * (la.length+1) * (lb.length+1) * (lb.length+1))),.slice (some ⟨b4,0,none⟩) (((la.length+1) * (la.length+1) * (lb.length+1) * (lb.length+1))) (((la.length+1) * (la.length+1) * (lb.length+1) * (lb.length+1)))]) (fun w hC=>by kernel_rfl) ?_
 refine Cm O (v:=fun b=>.pointer (some ⟨b,0,none⟩)) (o:=.cells #[.slice Aa la.length ca,.slice Ba fa.length ea,.slice Ab lb.length cb,.slice Bb fb.length eb,.int .i64 ((la.length:Nat)),.int .i64 ((lb.length:Nat)),.slice (some ⟨b3,0,none⟩) (((la.length+1) * (la.length+1) * (lb.length+1) * (lb.length+1))) (((la.length+1) * (la.length+1) * (lb.length+1) * (lb.length+1))),.slice (some ⟨b4,0,none⟩) (((la.length+1) * (la.length+1) * (lb.length+1) * (lb.length+1))) (((la.length+1) * (la.length+1) * (lb.length+1) * (lb.length+1)))] 86) hF (BI (v:=.agg #[.slice Aa la.length ca,.slice Ba fa.length ea,.slice Ab lb.length cb,.slice Bb fb.length eb,.int .i64 ((la.length:Nat)),.int .i64 ((lb.length:Nat)),.slice (some ⟨b3,0,none⟩) (((la.length+1) * (la.length+1) * (lb.length+1) * (lb.length+1))) (((la.length+1) * (la.length+1) * (lb.length+1) * (lb.length+1))),.slice (some ⟨b4,0,none⟩) (((la.length+1) * (la.length+1) * (lb.length+1) * (lb.length+1))) (((la.length+1) * (la.length+1) * (lb.length+1) * (lb.length+1)))]) O) ?_
 clear hF; rintro b5 w hb5 hF -
 refine ⟨hF.drop 3,?_⟩
 refine Db O (I_ O) (Mc (Ga ?_))
 refine Td (v:=.pointer _) O O ?_
 have hid:∀ {i b:Nat} {o:Obj},([(b5,.cells #[.slice Aa la.length ca,.slice Ba fa.length ea,.slice Ab lb.length cb,.slice Bb fb.length eb,.int .i64 ((la.length:Nat)),.int .i64 ((lb.length:Nat)),.slice (some ⟨b3,0,none⟩) (((la.length+1) * (la.length+1) * (lb.length+1) * (lb.length+1))) (((la.length+1) * (la.length+1) * (lb.length+1) * (lb.length+1))),.slice (some ⟨b4,0,none⟩) (((la.length+1) * (la.length+1) * (lb.length+1) * (lb.length+1))) (((la.length+1) * (la.length+1) * (lb.length+1) * (lb.length+1)))] 86),(b4,.cells (Mb (((la.length+1) * (la.length+1) * (lb.length+1) * (lb.length+1))) (fun _=>0)) 3),(b3,.cells (List.replicate (((la.length+1) * (la.length+1) * (lb.length+1) * (lb.length+1))) (.bool false)).toArray 4),(b2,.cells #[.slice Ab lb.length cb,.slice Bb fb.length eb] 56),(b1,.cells #[.slice Aa la.length ca,.slice Ba fa.length ea] 56)]:List (Nat × Obj))[i]? = some (b,o)→b < w.heap.size:=fun h=>hF.lt h
 have d1:=List.pairwise_iff_getElem.1 hF.desc
 have hsb:∀ b,b < w0.heap.size→Sb w.heap.size b3 b4 b:=fun b hb_=>⟨by have:=hF.same.size; omega,by have:=hF.ge (i:=2) rfl; omega,by have:=hF.ge (i:=1) rfl; omega⟩
 refine ⟨b5,b3,b4,O,⟨hF.heap (i:=0) O,(hF.rep hLa.old).weaken (fun b hb _=>hsb b hb.2),(hF.rep hNa.old).weaken (fun b hb _=>hsb b hb.2),(hF.rep hLb.old).weaken (fun b hb _=>hsb b hb.2),(hF.rep hNb.old).weaken (fun b hb _=>hsb b hb.2),by rw [←Uz]; exact hF.heap (i:=2) O,hF.heap (i:=1) O,⟨fun e=>d1 0 2 Ma Ma U e.symm,fun e=>d1 0 1 Ma Ma U e.symm,fun e=>d1 1 2 Ma Ma U e⟩,⟨hid (i:=0) O,hid (i:=2) O,hid (i:=1) O⟩⟩,hF.ge (i:=2) O,hF.ge (i:=1) O,hF.same⟩
 refine Cm O (v:=fun b=>.slice (some ⟨b,0,none⟩) (((la.length+1) * (la.length+1) * (lb.length+1) * (lb.length+1))) (((la.length+1) * (la.length+1) * (lb.length+1) * (lb.length+1)))) (o:=.cells (Mb (((la.length+1) * (la.length+1) * (lb.length+1) * (lb.length+1))) fun _=>0) 3) hF (Mj Wh Qb O O U) ?_
 clear hF; rintro b6 w hb6 hF -
 refine ⟨hF.drop 1,?_⟩
 refine Cm O (v:=fun b=>.slice (some ⟨b,0,none⟩) (((la.length+1) * (la.length+1) * (lb.length+1) * (lb.length+1))) (((la.length+1) * (la.length+1) * (lb.length+1) * (lb.length+1)))) (o:=.cells (List.replicate (((la.length+1) * (la.length+1) * (lb.length+1) * (lb.length+1))) (.bool false)).toArray 4) hF (Qw (z:=.bool false) DU Qb O O O U Ua) ?_
 clear hF; rintro b7 w hb7 hF -
 refine ⟨hF.drop 2,?_⟩
 refine Oa O (v:=.agg #[.slice Aa la.length ca,.slice Ba fa.length ea,.slice Ab lb.length cb,.slice Bb fb.length eb,.int .i64 ((la.length:Nat)),.int .i64 ((lb.length:Nat)),.slice (some ⟨b7,0,none⟩) (((la.length+1) * (la.length+1) * (lb.length+1) * (lb.length+1))) (((la.length+1) * (la.length+1) * (lb.length+1) * (lb.length+1))),.slice (some ⟨b6,0,none⟩) (((la.length+1) * (la.length+1) * (lb.length+1) * (lb.length+1))) (((la.length+1) * (la.length+1) * (lb.length+1) * (lb.length+1)))]) (fun w hC=>by kernel_rfl) ?_
 refine Cm O (v:=fun b=>.pointer (some ⟨b,0,none⟩)) (o:=.cells #[.slice Aa la.length ca,.slice Ba fa.length ea,.slice Ab lb.length cb,.slice Bb fb.length eb,.int .i64 ((la.length:Nat)),.int .i64 ((lb.length:Nat)),.slice (some ⟨b7,0,none⟩) (((la.length+1) * (la.length+1) * (lb.length+1) * (lb.length+1))) (((la.length+1) * (la.length+1) * (lb.length+1) * (lb.length+1))),.slice (some ⟨b6,0,none⟩) (((la.length+1) * (la.length+1) * (lb.length+1) * (lb.length+1))) (((la.length+1) * (la.length+1) * (lb.length+1) * (lb.length+1)))] 86) hF (BI (v:=.agg #[.slice Aa la.length ca,.slice Ba fa.length ea,.slice Ab lb.length cb,.slice Bb fb.length eb,.int .i64 ((la.length:Nat)),.int .i64 ((lb.length:Nat)),.slice (some ⟨b7,0,none⟩) (((la.length+1) * (la.length+1) * (lb.length+1) * (lb.length+1))) (((la.length+1) * (la.length+1) * (lb.length+1) * (lb.length+1))),.slice (some ⟨b6,0,none⟩) (((la.length+1) * (la.length+1) * (lb.length+1) * (lb.length+1))) (((la.length+1) * (la.length+1) * (lb.length+1) * (lb.length+1)))]) O) ?_
 clear hF; rintro b8 w hb8 hF -
 refine ⟨hF.drop 3,?_⟩
 refine Db O (I_ O) (Mc (Ga ?_))
 refine Td (v:=.pointer _) O O ?_
 have hid:∀ {i b:Nat} {o:Obj},([(b8,.cells #[.slice Aa la.length ca,.slice Ba fa.length ea,.slice Ab lb.length cb,.slice Bb fb.length eb,.int .i64 ((la.length:Nat)),.int .i64 ((lb.length:Nat)),.slice (some ⟨b7,0,none⟩) (((la.length+1) * (la.length+1) * (lb.length+1) * (lb.length+1))) (((la.length+1) * (la.length+1) * (lb.length+1) * (lb.length+1))),.slice (some ⟨b6,0,none⟩) (((la.length+1) * (la.length+1) * (lb.length+1) * (lb.length+1))) (((la.length+1) * (la.length+1) * (lb.length+1) * (lb.length+1)))] 86),(b7,.cells (List.replicate (((la.length+1) * (la.length+1) * (lb.length+1) * (lb.length+1))) (.bool false)).toArray 4),(b6,.cells (Mb (((la.length+1) * (la.length+1) * (lb.length+1) * (lb.length+1))) (fun _=>0)) 3),(b2,.cells #[.slice Ab lb.length cb,.slice Bb fb.length eb] 56),(b1,.cells #[.slice Aa la.length ca,.slice Ba fa.length ea] 56)]:List (Nat × Obj))[i]? = some (b,o)→b < w.heap.size:=fun h=>hF.lt h
 have d1:=List.pairwise_iff_getElem.1 hF.desc
 have hsb:∀ b,b < w0.heap.size→Sb w.heap.size b7 b6 b:=fun b hb_=>⟨by have:=hF.same.size; omega,by have:=hF.ge (i:=1) rfl; omega,by have:=hF.ge (i:=2) rfl; omega⟩
 refine ⟨b8,b7,b6,O,⟨hF.heap (i:=0) O,(hF.rep hLa.old).weaken (fun b hb _=>hsb b hb.2),(hF.rep hNa.old).weaken (fun b hb _=>hsb b hb.2),(hF.rep hLb.old).weaken (fun b hb _=>hsb b hb.2),(hF.rep hNb.old).weaken (fun b hb _=>hsb b hb.2),by rw [←Uz]; exact hF.heap (i:=1) O,hF.heap (i:=2) O,⟨fun e=>d1 0 1 Ma Ma U e.symm,fun e=>d1 0 2 Ma Ma U e.symm,fun e=>d1 1 2 Ma Ma U e.symm⟩,⟨hid (i:=0) O,hid (i:=1) O,hid (i:=2) O⟩⟩,hF.ge (i:=1) O,hF.ge (i:=2) O,hF.same⟩
theorem XJ (S S':Nat→Prop) (w0:World) (la:List Str) (fa:List Int) (Aa Ba:Option Addr) (ca ea:Nat) (hLa:Rep S w0 (Hf la) [.slice Aa la.length ca]) (hNa:Rep S w0 (.slice (fa.map Ug)) [.slice Ba fa.length ea]) (lb:List Str) (fb:List Int) (Ab Bb:Option Addr) (cb eb:Nat) (hLb:Rep S' w0 (Hf lb) [.slice Ab lb.length cb]) (hNb:Rep S' w0 (.slice (fb.map Ug)) [.slice Bb fb.length eb]) (hRa:Xh la fa) (hRb:Xh lb fb) (ha8:la.length≤80) (hb8:lb.length≤80):Calls prog 21 #[.agg #[.slice Aa la.length ca,.slice Ba fa.length ea],.agg #[.slice Ab lb.length cb,.slice Bb fb.length eb]] w0 (De fun v w'=>v=.tuple #[.int .i64 ((Ts la fa lb fb:Nat):Int),.int .i64 0]∧Same [] w0 w'):=by
 have hLla:=hLa.slice_len
 have hNla:=hNa.slice_len
 rw [List.length_map] at hLla hNla
 have hLlb:=hLb.slice_len
 have hNlb:=hNb.slice_len
 rw [List.length_map] at hLlb hNlb
 refine Ka func21 O ntmps21 Kb (Ee _ _) ?_
 have hF:=FR.start w0 []
 refine Ia ?_
 refine Bh hF O ?_
 clear hF; rintro b1 w hb1 hF -
 refine Bh hF O ?_
 clear hF; rintro b2 w hb2 hF -
 refine Ca (Wb O) (Ca (Wb O) (Bc (Tc (Wj isAgg56 sizeOf56 O hF.F 1 O O) ?_)))
 refine Pb (Y2 _ _ la fa Aa Ba ca ea (hF.rep hLa) (hF.rep hNa)) (Cb KU O O) ?_
 rintro _ w ⟨b,rfl,hb,hE⟩
 obtain rfl:b=true:=hb.2 hRa
 replace hF:=hF.ext hE
 clear hE
 refine Ca (Hc O) (Bc (Tc (Wj isAgg56 sizeOf56 O hF.F 0 O O) ?_))
 refine Pb (Y2 _ _ lb fb Ab Bb cb eb (hF.rep hLb) (hF.rep hNb)) (Cb KU O O) ?_
 rintro _ w ⟨b,rfl,hb,hE⟩
 obtain rfl:b=true:=hb.2 hRb
 replace hF:=hF.ext hE
 clear hE
 refine Ca (Hc O) (Ea (Ha (Ia (Ca (Jc O) (Ca (Pn (b:=true) O) (Ca (Jc O) (Ca (Jc O) (Ca (Pn (b:=true) O) (Ca (Gc O O) (Ea ?_))))))))))
 refine Qj O (Ha ?_)
 refine Ff (zs:=[]) (.free 0 (.free 1 (.free 3 (.free 4 (.free 5 (.free 6 (.free 7 (.free 8 (.act 2 (.act 9 (.free 10 (.free 11 .nil)))))))))))) hF ?_
 clear hF; intro w hF
 refine Uk O (Wj isAgg56 sizeOf56 O C0 1 O O) (Uk O (Wj isAgg56 sizeOf56 O C0 0 O O) (Db O (Ec Xc O) (Uk O (Mf isAgg25 O C0 1 O O) (Db O (Df underlying25 O) (Db O (Ec Xc O) (Uk O (Mf isAgg25 O C0 0 O O) (Db O (Df underlying25 O) ?_)))))))
 have lb1:=hF.lt (i:=1) rfl
 have lb2:=hF.lt (i:=0) rfl
 refine Ye O (LW _ _ _ la fa Aa Ba ca ea (hF.rep hLa) (hF.rep hNa) lb fb Ab Bb cb eb (hF.rep hLb) (hF.rep hNb) ha8 hb8) (Vb SZ O O O) ?_
 rintro _ w ⟨tb,hb,gb,rfl,hT,hgh,hgc,hE⟩
 have hs0:=hF.same.size
 replace hF:=hF.ext hE
 clear hE
 refine ⟨hF,?_⟩
 refine Ye O (U_ w.heap.size tb hb gb la fa lb fb Aa Ba Ab Bb ca ea cb eb ((la.length+1) * (la.length+1) * (lb.length+1) * (lb.length+1)) O (SP ha8 hb8) hRa.1 hRb.1 hRa.2.2 hRb.2.2 hRa.2.1 hRb.2.1 _ 0 la.length 0 lb.length (Nat.le_refl _) (Nat.zero_le _) (Nat.le_refl _) (Nat.zero_le _) (Nat.le_refl _) _ _ _ (Nat.le_refl _) hT (fun i k j l _ _ _ _ h=>by cases h)) (Tn X_ O O O O O O) ?_
 rintro _ w ⟨h_,f_,rfl,-,-,hE⟩
 replace hF:=hF.touch hE (fun b hb_=>by simp only [List.mem_cons,List.not_mem_nil,or_false] at hb_; rcases hb_ with rfl | rfl <;> (refine ⟨fun h=>absurd h U,fun z hz e=>?_⟩; simp only [List.mem_cons,List.not_mem_nil,or_false] at hz; rcases hz with rfl | rfl <;> (simp only at e; omega)))
 clear hE
 refine ⟨hF,?_⟩
 refine Db O (Wb O) (Db O (Wb O) (Mc (Ga ?_)))
 refine Ub (Rb (Sa (Ld (v:=.int .i64 ((Ts la fa lb fb:Nat))) (x:=.int .i64 0) O O O) ?_))
 exact ⟨O,hF.same⟩
end Go.Scarf
