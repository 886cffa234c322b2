/- A part of the proof. -/
import Derived.Test.YthhhbkkelnaekaaGreatDoorA5
set_option linter.all false
set_option maxHeartbeats 8000000
set_option maxRecDepth 10000
namespace Go.Scarf
open Go.RowKit Go.Proofs Go.Proofs.Tryz
def Le (m:List (Nat × Nat)):List (Int × Int):=m.map fun z=>((z.1:Int),(z.2:Int))
theorem K7 (m:List (Nat × Nat)):(Le m).length=m.length:=by simp [Le]
theorem Nu {m:List (Nat × Nat)} {i:Nat} (h:i < (Le m).length) (h2:i < m.length):(Le m)[i]=((m[i].1:Int),(m[i].2:Int)):=by simp [Le]
def BK {β:Type} (f:Nat→β) (k:Nat) (v:β):Nat→β:=fun x=>if x=k then v else f x
theorem Dq {β:Type} (f:Nat→β) (k:Nat) (v:β):BK f k v k=v:=if_pos rfl
theorem Mo {β:Type} {f:Nat→β} {k x:Nat} {v:β} (h:x≠k):BK f k v x=f x:=if_neg h
def Jh (n size:Nat):List (Nat × Nat)→Nat→(Nat→List Int)→Nat→List Int
  | [],j,gp=>BK gp n (gp n++rng j size)
  | z::m,j,gp=>Jh n size m (z.2+1) (BK gp z.1 (gp z.1++rng j z.2))
structure Gp (w0 w:World) (N ob jb vb:Nat) (hd:Nat→Value) (gp:Nat→List Int) (sg:Nat→List (Nat × Obj)) (j:Nat):Prop where
  top:w.heap[ob]? = some (.cells (Xk N hd) 42)
  cj:w.heap[jb]? = some (.cells #[.int .i64 (j:Nat)] 3)
  cv:w.heap[vb]? = some (.cells #[.slice (some ⟨ob,0,none⟩) N N] 37)
  row:∀ g,g < N→∃ A c,hd g=.slice A (gp g).length c∧SlB 3 1 A (gp g).length c (Qr (gp g)) (sg g)
  mem:∀ g,g < N→∀ z∈sg g,w.heap[z.1]? = some z.2∧w0.heap.size≤z.1∧z.1≠ob∧z.1≠jb∧z.1≠vb
  apart:∀ g g',g < N→g' < N→g≠g'→∀ z∈sg g,∀ y∈sg g',z.1≠y.1
  new:w0.heap.size≤ob∧w0.heap.size≤jb∧w0.heap.size≤vb
  ne:jb≠ob∧vb≠ob∧vb≠jb
section
variable {w0 w w':World} {N ob jb vb j:Nat} {hd:Nat→Value} {gp:Nat→List Int} {sg:Nat→List (Nat × Obj)}
theorem Gp.keep (h:Gp w0 w N ob jb vb hd gp sg j) {E:List Nat} (hs:Same E w w') (h1:ob∉E) (h2:jb∉E) (h3:vb∉E) (h4:∀ g,g < N→∀ z∈sg g,z.1∉E):Gp w0 w' N ob jb vb hd gp sg j :=
  ⟨(hs.block _ (Ra h.top) h1).trans h.top,(hs.block _ (Ra h.cj) h2).trans h.cj,(hs.block _ (Ra h.cv) h3).trans h.cv,h.row,
    fun g hg z hz=>⟨(hs.block _ (Ra (h.mem g hg z hz).1) (h4 g hg z hz)).trans (h.mem g hg z hz).1,(h.mem g hg z hz).2⟩,h.apart,h.new,h.ne⟩
theorem Gp.ext (h:Gp w0 w N ob jb vb hd gp sg j) (hs:Same [] w w'):Gp w0 w' N ob jb vb hd gp sg j:=h.keep hs Ma Ma Ma (fun _ _ _ _=>by simp)
theorem Gp.setj (h:Gp w0 w N ob jb vb hd gp sg j) {k:Nat} (hs:Same [jb] w w') (hn:w'.heap[jb]? = some (.cells #[.int .i64 (k:Nat)] 3)):Gp w0 w' N ob jb vb hd gp sg k :=
  ⟨(hs.block _ (Ra h.top) (by simpa using fun e=>h.ne.1 e.symm)).trans h.top,hn,(hs.block _ (Ra h.cv) (by simpa using h.ne.2.2)).trans h.cv,h.row,
    fun g hg z hz=>⟨(hs.block _ (Ra (h.mem g hg z hz).1) (by simpa using (h.mem g hg z hz).2.2.2.1)).trans (h.mem g hg z hz).1,(h.mem g hg z hz).2⟩,h.apart,h.new,h.ne⟩
theorem Gp.fill (h:Gp w0 w N ob jb vb hd gp sg j) {g k j':Nat} (hg:g < N) {A':Option Addr} {c':Nat} {sg':List (Nat × Obj)} (h1:w'.heap[ob]? = some (.cells (Xk N (Zs hd g (.slice A' (gp g++rng j k).length c'))) 42)) (h2:w'.heap[jb]? = some (.cells #[.int .i64 (j':Nat)] 3))
    (h3:w'.heap[vb]? = some (.cells #[.slice (some ⟨ob,0,none⟩) N N] 37)) (h4:SlB 3 1 A' (gp g++rng j k).length c' (Qr (gp g++rng j k)) sg') (h5:∀ z∈sg',w'.heap[z.1]? = some z.2∧z.1≠ob∧z.1≠jb∧z.1≠vb∧(z.1∈(sg g).map (·.1)∨w.heap.size≤z.1))
    (hs:Same ([ob,jb,vb]++(sg g).map (·.1)) w w') (hw:w0.heap.size≤w.heap.size):Gp w0 w' N ob jb vb (Zs hd g (.slice A' (gp g++rng j k).length c')) (BK gp g (gp g++rng j k)) (BK sg g sg') j':=by
  have hnew:∀ z∈sg',w0.heap.size≤z.1:=fun z hz=>(h5 z hz).2.2.2.2.elim (fun hm=>by obtain ⟨y,hy,e⟩:=List.mem_map.1 hm; rw [←e]; exact (h.mem g hg y hy).2.1) (fun hl=>Nat.le_trans hw hl)
  have hoff:∀ g',g' < N→g'≠g→∀ y∈sg g',∀ z∈sg',y.1≠z.1:=fun g' hg' hne y hy z hz e=>(h5 z hz).2.2.2.2.elim (fun hm=>by obtain ⟨x,hx,e2⟩:=List.mem_map.1 hm; exact h.apart g' g hg' hg hne y hy x hx (e.trans e2.symm)) (fun hl=>by have:=Ra (h.mem g' hg' y hy).1; omega)
  refine ⟨h1,h2,h3,fun g' hg'=>?_,fun g' hg' z hz=>?_,fun a b ha hb hab z hz y hy=>?_,h.new,h.ne⟩
  · by_cases e : g' = g
    · subst e; rw [YG,Dq,Dq]; exact ⟨A',c',rfl,h4⟩
    · rw [ZQ e,Mo e,Mo e]; exact h.row g' hg'
  · by_cases e : g' = g
    · subst e; rw [Dq] at hz; exact ⟨(h5 z hz).1,hnew z hz,(h5 z hz).2.1,(h5 z hz).2.2.1,(h5 z hz).2.2.2.1⟩
    · rw [Mo e] at hz
      have hm:=h.mem g' hg' z hz
      refine ⟨(hs.block _ (Ra hm.1) fun hx=>?_).trans hm.1,hm.2⟩
      rcases List.mem_append.1 hx with hx | hx
      · simp only [List.mem_cons, List.not_mem_nil, or_false] at hx
        rcases hx with hx | hx | hx
        · exact hm.2.2.1 hx
        · exact hm.2.2.2.1 hx
        · exact hm.2.2.2.2 hx
      · obtain ⟨y, hy, e2⟩ := List.mem_map.1 hx
        exact h.apart g' g hg' hg e z hz y hy e2.symm
  · by_cases ea : a = g
    · subst ea
      rw [Dq] at hz
      rw [Mo (fun q=>hab q.symm)] at hy
      exact fun e=>hoff b hb (fun q=>hab q.symm) y hy z hz e.symm
    · rw [Mo ea] at hz
      by_cases eb:b=g
      · subst eb; rw [Dq] at hy; exact hoff a ha ea z hz y hy
      · rw [Mo eb] at hy; exact h.apart a b ha hb hab z hz y hy
def R5 (N:Nat) (gp:Nat→List Int):D:=.slice ((List.range N).map fun g=>.slice ((gp g).map Ug))
theorem F4 {S:Nat→Prop}:∀ (N:Nat) (d:Nat→D) (f:Nat→Value),(∀ g,g < N→Rep S w (d g) [f g])→RepL S w ((List.range N).map d) ((List.range N).map f)
  | 0,d,f,_=>RepL.nil_mk
  | N + 1, d, f, h => by
    rw [List.range_succ,List.map_append,List.map_append]
    exact RepL.append (F4 N d f fun g hg=>h g U) (by rw [List.map_cons,List.map_nil,List.map_cons,List.map_nil,RepL]; exact ⟨[f N],[],O,h N U,RepL.nil_mk⟩)
theorem Gp.rep (h:Gp w0 w N ob jb vb hd gp sg j) (hN:N≤1000) (hb:∀ g,g < N→∀ z∈gp g,-9223372036854775808≤z∧z≤9223372036854775807):Rep (Btw w0 w) w (R5 N gp) [.slice (some ⟨ob,0,none⟩) N N]:=by
  refine Rep.slice_mk Ma (Nat.le_refl _) U fun _=>⟨_,O,(List.range N).map hd,fun i hi=>⟨?_,h.new.1,Ra h.top,_,_,h.top⟩,F4 N _ _ fun g hg=>?_⟩
  · have hi' : i < N := by simpa using hi
    rw [Kk,Nat.zero_add,Ac h.top,F7 hi']
    simp
  · obtain ⟨A, c, e, hS⟩ := h.row g hg
    rw [e]
    refine hS.repOf (fun z hz=>?_) (On (hb g hg)) Ma
    have hm:=h.mem g hg z hz
    obtain ⟨cur,he⟩:=hS.typ.2 z hz
    exact ⟨hm.1,hm.2.1,Ra hm.1,cur,3,by rw [hm.1,he]⟩
end
theorem WB {n size B:Nat} (hs:size≤B):∀ (m:List (Nat × Nat)) (j:Nat) (gp:Nat→List Int),(∀ z∈m,z.2≤B)→(∀ g,∀ z∈gp g,(0:Int)≤z∧z < (B:Int))→∀ g,∀ z∈Jh n size m j gp g,(0:Int)≤z∧z < (B:Int)
  | [], j, gp, _, h, g, z, hz => by
    rw [Jh] at hz
    by_cases e:g=n
    · subst e
      rw [Dq] at hz
      rcases List.mem_append.1 hz with hz | hz
      · exact h g z hz
      · have:=HM z hz; omega
    · rw [Mo e] at hz; exact h g z hz
  | y :: m, j, gp, hm, h, g, z, hz => by
    rw [Jh] at hz
    refine WB hs m _ _ (fun x hx=>hm x (by simp [hx])) (fun g' x hx=>?_) g z hz
    have hy:=hm y Ma
    by_cases e:g'=y.1
    · subst e
      rw [Dq] at hx
      rcases List.mem_append.1 hx with hx | hx
      · exact h _ x hx
      · have:=HM x hx; omega
    · rw [Mo e] at hx; exact h g' x hx
section
variable {P:Program} {R:Exit→Act→World→Prop} {n:Nat} {k:Kt} {s:Nat→Value} {w:World} {ops rest:List Oper}
variable {ty:TypeId} {pos:String} {aft:Array Edge} {g:Option (Nat × Bool)} {w0:World} {Ds:List Nat} {bs:List (Nat × Obj)}
theorem ZO {t T:TypeId} {x y:Operand} {b off:Nat} {l l':List Value} {u:Value} (v:Value) (hF:FR w0 Ds bs w) (hs:∀ w,(sizeOf t).run P w=.ok 1 w) (hx:ev n s x=.pointer (some ⟨b,off,none⟩)) (hy:ev n s y=v) (hh:w.heap[b]? = some (.cells l.toArray T)) (hc:AtI off l u v l') (hD:b∈Ds∨w0.heap.size≤b) (hn:∀ p∈bs,p.1≠b)
    (h:∀ w',FR w0 Ds bs w'→Same [b] w w'→w'.heap[b]? = some (.cells l'.toArray T)→Og P R n ops k rest s w') (hv:v.cells=#[v]:=by rfl) (ho:one v=true:=by rfl)
    (hw:Kc ops n s ⟨none,.store t x y,ty,pos,aft,g⟩=true:=by rfl):Og P R n ops k (⟨none,.store t x y,ty,pos,aft,g⟩::rest) s w:=by
  have hsp:=Ri b off (fz:=(0,0)) [v] 0 w l.toArray hh
  rw [Nat.add_zero,Y3,hc.set] at hsp
  refine Xy (Hu (l:=[v]) hs hx hy hv (by simpa using ho) fun i hi=>?_) (h (putCells w ⟨b,off,none⟩ 0 [v]) (hF.touch hsp.2 fun b' hb=>?_) hsp.2 hsp.1) hw
  · obtain rfl : i = 0 := by simp at hi; omega
    rw [Vl,Ac hh]
    exact ⟨⟨u,by simpa using hc.get⟩,Bj hh _⟩
  · obtain rfl := List.mem_singleton.1 hb
    exact ⟨fun h=>hD.resolve_right U,hn⟩
end
end Go.Scarf
namespace Go.Scarf
open Go.RowKit Go.Proofs Go.Proofs.Tryz
def Gx:List (Nat × Nat)→(Nat→Int)→Nat→Int
  | [],f=>f
  | z::m,f=>Gx m (Pf f z.1 (z.2:Int))
theorem UG {B:Int}:∀ (m:List (Nat × Nat)) (f:Nat→Int),(∀ z∈m,(z.2:Int) < B)→(∀ k,-1≤f k∧f k < B)→∀ k,-1≤Gx m f k∧Gx m f k < B
  | [],f,_,h,k=>h k
  | z :: m, f, hm, h, k => UG m _ (fun y hy => hm y (by simp [hy])) (fun k' => by
    have hz:=hm z Ma
    by_cases e:k'=z.1
    · subst e; rw [Ol]; omega
    · rw [Sn e]; exact h k') k
theorem HD {w0 w:World} {b n:Nat} {f:Nat→Int} (h:w.heap[b]? = some (.cells (Mb n f) 3)) (hb:w0.heap.size≤b) (hn:n≤1000000) (hf:∀ k,k < n→-9223372036854775808≤f k∧f k≤9223372036854775807):Rep (Btw w0 w) w (.slice (((List.range n).map f).map Ug)) [.slice (some ⟨b,0,none⟩) n n]:=by
  refine Rep.slice_mk Ma (Nat.le_refl _) U fun _=>⟨_,O,((List.range n).map f).map fun s=>Value.int .i64 s,fun i hi=>⟨?_,hb,Ra h,_,_,h⟩,On fun s hs=>?_⟩
  · have hi' : i < n := by simpa using hi
    rw [Kk,Nat.zero_add,Ac h,Wl hi']
    simp
  · obtain ⟨k, hk, rfl⟩ := List.mem_map.1 hs
    exact hf k (List.mem_range.1 hk)
theorem H4 (S:Nat→Prop) (w0:World) (n:Nat) (mp:List (Nat × Nat)) (A:Option Addr) (c:Nat) (hX:Rep S w0 (Lj (Le mp)) [.slice A (Le mp).length c]) (hr:Oz n (Le mp)=true) (hn:n≤64) (hm:mp.length≤100) (size:Nat) (hs:size≤64) (hmp:∀ z∈mp,z.1 < n∧z.2 < size):Calls prog 12 #[.int .i64 ((n:Nat):Int),.slice A (Le mp).length c,.int .i64 ((size:Nat):Int)] w0 (De fun v w'=>∃ ob:Nat,v=.tuple #[.slice (some ⟨ob,0,none⟩) (n+1) (n+1),.bool true]∧Rep (Btw w0 w') w' (R5 (n+1) (Jh n size mp 0 fun _=>[])) [.slice (some ⟨ob,0,none⟩) (n+1) (n+1)]∧Same [] w0 w'):=by
 have hcl:=K7 mp
 have hXl:=hX.pairs_len
 refine Ka func12 O ntmps12 Kb (Dp _ _ _) ?_
 have hF:=FR.start w0 []
 refine Ia (Ca (Sh O) (Ca (Hc O) (Ea (Ha (Ha ?_)))))
 refine Qf (fun σ w=>AllEq σ [(0,.int .i64 ((n:Nat))),(1,.slice (A) ((Le mp).length) (c)),(2,.int .i64 ((size:Nat))),(40,.bool false)]∧FR w0 [] [] w) ?_ ?_
 refine Fa (Ca (Va O) (Ca (Yd O) ?_))
 refine Jb hF (Ng (v':=.bool true) (W_ _ _ (n:Int) (Le mp) A c (hF.rep hX)) (by rw [hr])) (Vb OT O O O) ?_
 clear hF; intro w hF
 refine Ca (Pn (b:=true) O) (Ca (Jc O) (Ca (Va O) (Ja (v:=.bool false) (Zc (E7 O O) U) (Ca (Gc O O) (Ca (Jc O) (Ca (Va O) (Ja (v:=.bool false) (Zc (Xz O O) U) (Ca (Gc O O) (Ca (Jc O) (Ca (Yd O) (Ca (Df underlying29 O) (Ca (Ho O O) (Ca (Jc O) ?_)))))))))))))
 refine Hb (d:=29) O (fun hg0=>?_) (fun hg0=>?_)
 refine Ca (Yd O) (Ca (Yd O) (Ca (Df underlying29 O) (Ca (Hw ((((Le mp).length - 1:Nat):Int)) O O) ?_)))
 obtain ⟨ad1,hA1,hk1,hx1⟩:=hX.pair_elem (i:=((Le mp).length - 1)) U
 refine Ja (v:=.pointer (some (ad1.add (((Le mp).length - 1) * 2)))) (Pa (i:=(((Le mp).length - 1:Nat):Int)) G3 O hA1 O U U) (Ja (v:=.pointer (some ((ad1.add (((Le mp).length - 1) * 2)).add 1))) (Ph (a:=ad1.add (((Le mp).length - 1) * 2)) Rr O) (Ja (v:=.int .i64 (((Le mp)[(Le mp).length - 1]).2)) (Ya isAgg3 O (hF.cell0 (hk1 1 Kb))) (Ca (Va O) ?_)))
 refine Ja (v:=.bool false) (Zc (Z_ O O) (by have h1:=hmp _ (List.getElem_mem (l:=mp) (n:=mp.length - 1) U); have h2:=Nu (m:=mp) (i:=mp.length - 1) U U; have h3:(Le mp)[(Le mp).length - 1]=(Le mp)[mp.length - 1]:=(by congr 1; omega); rw [h3,h2]; simp only; omega)) ?_
 refine Ca (Ic O O) (Ca (Gc O O) (Xa ?_))
 exact Ib ⟨Gm,hF⟩
 refine Da (Da (Da (Da (Da (Da (Da (Da (Da (Ca (Gc O O) (Ca (Gc O O) (Xa ?_)))))))))))
 exact Ib ⟨Gm,hF⟩
 clear hF; rintro σ w ⟨hs,hF⟩
 refine Eg.slots hs ?_
 clear hs; intro σ
 refine Ga (Qj O (Ia (Ca (Va O) (Ca (If (((n+1:Nat):Int)) O O) ?_))))
 refine St (v:=fun b=>.slice (some ⟨b,0,none⟩) (n+1) (n+1)) (o:=.cells (List.replicate (n+1) (.slice none 0 0)).toArray 42) hF (Qw (z:=.slice none 0 0) Zk Qb O O O U Ua) ?_
 clear hF; rintro b1 w hb1 hF -
 refine TZ (.slice _ _ _) hF zeroValue37 sizeOf37 O ?_
 clear hF; rintro b2 w hb2 hF -
 refine Bc ?_
 refine TZ (.int _ _) hF zeroValue3 sizeOf3 O ?_
 clear hF; rintro b3 w hb3 hF -
 refine Bc (Ja (v:=.func (.func 25) #[] #[.pointer (some ⟨b3,0,none⟩),.pointer (some ⟨b2,0,none⟩)]) (Qo O O) (Ca (S1) (Ea (Ha (Ha ?_)))))
 rw [NK (n+1)] at hF
 have hG_:Gp w0 w (n+1) b1 b3 b2 (fun _=>.slice none 0 0) (fun _=>[]) (fun _=>[]) 0:=⟨hF.heap (i:=2) rfl,hF.heap (i:=0) rfl,hF.heap (i:=1) rfl,fun g _=>⟨none,0,rfl,SlB.nil _ _⟩,fun g _ z hz=>(by cases hz),fun _ _ _ _ _ z hz=>(by cases hz),⟨hF.ge (i:=2) rfl,hF.ge (i:=0) rfl,hF.ge (i:=1) rfl⟩,⟨Wi hF.desc (i:=0) (j:=2) rfl rfl Ua,Wi hF.desc (i:=1) (j:=2) rfl rfl Ua,Wi hF.desc (i:=1) (j:=0) rfl rfl Ua⟩⟩
 replace hF:=hF.clear
 refine Fa (Ca (Yd O) (Ca (Df underlying29 O) (Ca (Va O) (Ea (Ta ?_)))))
 refine Lc (fun μ σ w=>∃ (t:Nat),∃ (hd:Nat→Value),∃ (gp:Nat→List Int),∃ (sg:Nat→List (Nat × Obj)),∃ (j:Nat),μ=mp.length - t∧(t≤mp.length)∧(Gp w0 w (n+1) b1 b3 b2 hd gp sg j)∧(Jh n size (mp.drop t) j gp=Jh n size mp 0 fun _=>[])∧(∀ g,g < n+1→(gp g).length≤64 * t)∧(j≤64)∧AllEq σ [(0,.int .i64 ((n:Nat))),(2,.int .i64 ((size:Nat))),(8,.pointer (some ⟨b2,0,none⟩)),(9,.pointer (some ⟨b3,0,none⟩)),(10,.func (.func 25) #[] #[.pointer (some ⟨b3,0,none⟩),.pointer (some ⟨b2,0,none⟩)]),(45,.slice (A) ((Le mp).length) (c)),(46,.int .i64 (((Le mp).length:Nat))),(47,.int .i64 ((t:Int)))]∧FR w0 [] [] w) _ ⟨0,_,_,_,0,O,(Nat.zero_le _),(hG_),(O),(fun g _=>by simp),U,K5,hF⟩ ?_
 clear hF; rintro μ σ w ⟨t,hd,gp,sg,j,rfl,ht,hG_,hrun,hlen,hj,hs,hF⟩
 refine Cg.slots hs ?_
 clear hs; intro σ
 refine Ia (Ca (Yg O O) (Ea (Ha ?_)))
 refine Yb O O (fun hc1=>?_) (fun hc1=>?_)
 refine Qa (Ga (Ha (Ta (Ha ?_))))
 obtain ⟨a,b,hmt⟩:∃ a b:Nat,mp[t]=(a,b):=⟨_,_,rfl⟩
 have hab:(Le mp)[t]=((a:Int),(b:Int)):=by rw [Nu U U,hmt]
 have hab1:=hmp _ (List.getElem_mem (l:=mp) (n:=t) U)
 rw [hmt] at hab1
 refine Fa ?_
 obtain ⟨ad2,hA2,hk2,hx2⟩:=hX.pair_elem (i:=t) U
 rw [hab] at hk2 hx2
 refine Ja (v:=.pointer (some (ad2.add (t * 2)))) (Pa (i:=(t:Int)) G3 O hA2 O U U) (Ja (v:=.agg #[.int .i64 ((((a:Int),(b:Int))).1),.int .i64 ((((a:Int),(b:Int))).2)]) (Fc (l:=Bl ((a:Int),(b:Int))) isAgg41 sizeOf41 O O (hF.cells0 hk2)) ?_)
 refine Ym hF zeroValue41 sizeOf41 O ?_
 clear hF; intro b4 w hb4 hF hE
 have hn_:b1≠b4∧b3≠b4∧b2≠b4∧∀ z∈sg a,z.1≠b4:=by have e1:=Ra hG_.top; have e2:=Ra hG_.cj; have e3:=Ra hG_.cv; exact ⟨by omega,by omega,by omega,fun z hz=>by have:=Ra (hG_.mem a U z hz).1; omega⟩
 replace hG_:=hG_.ext hE
 clear hE
 refine Bc (Ca (XC) (Ca (Ec Mw O) (Tc (Hl isAgg3 O hF.F 0 O O) (Ca (Ec Rr O) (Tc (Hl isAgg3 O hF.F 0 O O) ?_)))))
 obtain ⟨Ax,cx,hrow⟩:=hG_.row (a) U
 have hF0:=hF.same.size
 refine Pb (WN _ (n+1) (a) b1 b3 b2 (b) j hd (gp (a)) Ax cx (sg (a)) U U U U (by have:=hlen (a) U; omega) hG_.top hG_.cj hG_.cv hrow.1 hrow.2 (fun z hz=>by have h:=hG_.mem (a) U z hz; exact ⟨h.1,h.2.2⟩) hG_.ne) (AB O QT O O O) ?_
 rintro _ w ⟨A2,c2,sg2,rfl,h1,h2,h3,h4,h5,hE⟩
 have hG2:=hG_.fill (g:=a) U h1 h2 h3 h4 h5 hE hF0
 replace hF:=hF.touch hE (fun y hy=>by rcases List.mem_append.1 hy with hy | hy; (simp only [List.mem_cons,List.not_mem_nil,or_false] at hy; have hnw:=hG_.new; refine ⟨fun h=>absurd h (by rcases hy with rfl | rfl | rfl <;> omega),?_⟩; intro z hz; obtain rfl:=List.mem_singleton.1 hz; rcases hy with rfl | rfl | rfl; (exact fun e=>hn_.1 e.symm); (exact fun e=>hn_.2.1 e.symm); (exact fun e=>hn_.2.2.1 e.symm)); (obtain ⟨x,hx,rfl⟩:=List.mem_map.1 hy; have hmx:=hG_.mem (a) U x hx; refine ⟨fun h=>absurd h U,?_⟩; intro z hz; obtain rfl:=List.mem_singleton.1 hz; exact fun e=>hn_.2.2.2 x hx e.symm))
 clear hG_ h1 h2 h3 h4 h5 hE hrow hF0
 have hG_:=hG2
 clear hG2
 refine Ea (Fa (Ca (Ec Rr O) (Tc (Hl isAgg3 O hF.F 0 O O) (Ca (If (((b+1:Nat):Int)) O O) ?_))))
 refine ZO (.int _ _) hF sizeOf3 O O hG_.cj Vm (.inr hG_.new.2.1) (by simpa using fun e=>hn_.2.1 e.symm) ?_
 clear hF; intro w hF hE hnew
 replace hG_:=hG_.setj hE hnew
 clear hE hnew
 refine Xa (Eb (Ga (Fa (Ca (If (((t+1:Nat):Int)) O O) (Ca (Va O) (Xa ?_))))))
 refine Ib ⟨_,?_,t+1,_,_,_,b+1,rfl,U,(hG_),(by rw [←hrun,List.drop_eq_getElem_cons (show t < mp.length by omega),Jh,hmt]),(fun g hg=>by by_cases e:g=a; (subst e; rw [Dq,List.length_append,N9]; have:=hlen g hg; omega); (rw [Mo e]; have:=hlen g hg; omega)),U,K5,hF.drop 1⟩
 omega
 refine Dc (Cc O ?_)
 refine Ga (Ia (Ca (XC) (Ca (Va O) (Ca (Va O) ?_))))
 obtain ⟨Ax,cx,hrow⟩:=hG_.row (n) U
 have hF0:=hF.same.size
 refine Pb (WN _ (n+1) (n) b1 b3 b2 (size) j hd (gp (n)) Ax cx (sg (n)) U U U U (by have:=hlen (n) U; omega) hG_.top hG_.cj hG_.cv hrow.1 hrow.2 (fun z hz=>by have h:=hG_.mem (n) U z hz; exact ⟨h.1,h.2.2⟩) hG_.ne) (AB O QT O O O) ?_
 rintro _ w ⟨A2,c2,sg2,rfl,h1,h2,h3,h4,h5,hE⟩
 have hG2:=hG_.fill (g:=n) U h1 h2 h3 h4 h5 hE hF0
 replace hF:=hF.touch hE (fun y hy=>by rcases List.mem_append.1 hy with hy | hy; (simp only [List.mem_cons,List.not_mem_nil,or_false] at hy; have hnw:=hG_.new; refine ⟨fun h=>absurd h (by rcases hy with rfl | rfl | rfl <;> omega),?_⟩; simp); (obtain ⟨x,hx,rfl⟩:=List.mem_map.1 hy; have hmx:=hG_.mem (n) U x hx; refine ⟨fun h=>absurd h U,?_⟩; simp))
 clear hG_ h1 h2 h3 h4 h5 hE hrow hF0
 have hG_:=hG2
 clear hG2
 refine Bc ?_
 refine Ja (v:=.slice (some ⟨b1,0,none⟩) (n+1) (n+1)) (Ya isAgg37 O (by rw [Ac hG_.cv]; rfl)) ?_
 refine Ca (Sh O) (Ca (Hc O) (Ea ?_))
 refine Ub (Rb (Sa (Ld (v:=.slice _ _ _) (x:=.bool true) O O O) ?_))
 obtain rfl:t=mp.length:=by omega
 rw [List.drop_length,Jh] at hrun
 rw [hrun] at hG_
 exact ⟨b1,O,hG_.rep U (fun g _ z hz=>by have:=WB (B:=64) hs mp 0 (fun _=>[]) (fun y hy=>by have:=hmp y hy; omega) (fun _ z hz=>by cases hz) g z hz; omega),hF.same⟩
theorem Ey (S:Nat→Prop) (w0:World) (n:Nat) (mp:List (Nat × Nat)) (A:Option Addr) (c:Nat) (hX:Rep S w0 (Lj (Le mp)) [.slice A (Le mp).length c]) (hr:Oz n (Le mp)=true) (hn:n≤64) (hm:mp.length≤100) (hmp:∀ z∈mp,z.1 < n∧(z.2:Int) < 9223372036854775807):Calls prog 13 #[.int .i64 ((n:Nat):Int),.slice A (Le mp).length c] w0 (De fun v w'=>∃ ob:Nat,v=.tuple #[.slice (some ⟨ob,0,none⟩) n n,.bool true]∧Rep (Btw w0 w') w' (.slice (((List.range n).map (Gx mp fun _=>-1)).map Ug)) [.slice (some ⟨ob,0,none⟩) n n]∧Same [] w0 w'):=by
 have hcl:=K7 mp
 have hXl:=hX.pairs_len
 refine Ka func13 O ntmps13 Kb (Ee _ _) ?_
 have hF:=FR.start w0 []
 refine Ia (Ca (Sh O) (Ca (Hc O) (Ea (Ha (Ha ?_)))))
 refine Qf (fun σ w=>AllEq σ [(0,.int .i64 ((n:Nat))),(1,.slice (A) ((Le mp).length) (c)),(28,.bool false)]∧FR w0 [] [] w) ?_ ?_
 refine Fa (Ca (Va O) (Ca (Yd O) ?_))
 refine Jb hF (Ng (v':=.bool true) (W_ _ _ (n:Int) (Le mp) A c (hF.rep hX)) (by rw [hr])) (Vb OT O O O) ?_
 clear hF; intro w hF
 refine Ca (Pn (b:=true) O) (Ca (Jc O) (Ca (Yd O) (Ca (Df underlying29 O) (Ca (Ho O O) (Ca (Jc O) ?_)))))
 refine Hb (d:=18) O (fun hg0=>?_) (fun hg0=>?_)
 refine Ca (Yd O) (Ca (Yd O) (Ca (Df underlying29 O) (Ca (Hw ((((Le mp).length - 1:Nat):Int)) O O) ?_)))
 obtain ⟨ad1,hA1,hk1,hx1⟩:=hX.pair_elem (i:=((Le mp).length - 1)) U
 refine Ja (v:=.pointer (some (ad1.add (((Le mp).length - 1) * 2)))) (Pa (i:=(((Le mp).length - 1:Nat):Int)) G3 O hA1 O U U) (Ja (v:=.pointer (some ((ad1.add (((Le mp).length - 1) * 2)).add 1))) (Ph (a:=ad1.add (((Le mp).length - 1) * 2)) Rr O) (Ja (v:=.int .i64 (((Le mp)[(Le mp).length - 1]).2)) (Ya isAgg3 O (hF.cell0 (hk1 1 Kb))) ?_))
 refine Ja (v:=.bool false) (Zc (Ig O O) (by have h1:=hmp _ (List.getElem_mem (l:=mp) (n:=mp.length - 1) U); have h2:=Nu (m:=mp) (i:=mp.length - 1) U U; have h3:(Le mp)[(Le mp).length - 1]=(Le mp)[mp.length - 1]:=(by congr 1; omega); rw [h3,h2]; simp only; omega)) ?_
 refine Ca (Ic O O) (Ca (Gc O O) (Xa ?_))
 exact Ib ⟨Vp,hF⟩
 refine Da (Da (Da (Da (Da (Da (Da (Da (Ca (Gc O O) (Ca (Gc O O) (Xa ?_))))))))))
 exact Ib ⟨Vp,hF⟩
 clear hF; rintro σ w ⟨hs,hF⟩
 refine Eg.slots hs ?_
 clear hs; intro σ
 refine Ga (Qj O (Ia (Ca (Va O) ?_)))
 refine St (v:=fun b=>.slice (some ⟨b,0,none⟩) n n) (o:=.cells (Mb (n) fun _=>0) 3) hF (Mj Wh Qb O O U) ?_
 clear hF; rintro b1 w hb1 hF -
 refine Ca (Sh O) (Ea (Ha (Ia (Ca (Yd O) (Ca (Df underlying42 O) (Ca (Va O) (Ea (Ta ?_))))))))
 refine Lc (fun μ σ w=>∃ (i:Nat),∃ (f:Nat→Int),μ=n - i∧(i≤n)∧(∀ k,k < i→f k = -1)∧AllEq σ [(1,.slice (A) ((Le mp).length) (c)),(6,.slice (some ⟨b1,0,none⟩) n n),(32,.int .i64 ((n:Nat))),(33,.int .i64 ((i:Int)))]∧FR w0 [] [(b1,.cells (Mb (n) (f)) 3)] w) _ ⟨0,fun _=>0,O,(Nat.zero_le _),(fun k hk=>by omega),Gm,hF⟩ ?_
 clear hF; rintro μ σ w ⟨i,f,rfl,hi,hf,hs,hF⟩
 refine Cg.slots hs ?_
 clear hs; intro σ
 refine Ia (Ca (Yg O O) (Ea (Ha ?_)))
 refine Yb O O (fun hc1=>?_) (fun hc1=>?_)
 refine Qa (Ga (Ha (Ta (Ia (Ca (Va O) (Ca (Wb O) (Ea (Fa (Ca (Yd O) (Ca (Va O) (Ja (v:=.pointer (some ⟨b1,i,none⟩)) (Gb (i:=(i:Int)) (i) Nd O O U U U) ?_)))))))))))
 refine Me 0 (l:=[.int .i64 ((-1))]) (cs':=Mb (n) (Pf (f) (i) ((-1)))) hF sizeOf3 O (v:=.int .i64 ((-1))) O O Ed O (by rw [Xf]; simp only [List.length_singleton]; exact Nat.succ_le_of_lt U) (Bg _) ?_
 clear hF; rintro w hF -
 replace hF:FR w0 [] [(b1,.cells (Mb (n) (Pf (f) (i) ((-1)))) 3)] w:=hF
 refine Xa (Eb (Ga (Fa (Ca (If (((i+1:Nat):Int)) O O) (Ca (Va O) (Xa ?_))))))
 refine Ib ⟨_,?_,i+1,Pf (f) (i) ((-1)),rfl,U,(fun k hk=>by by_cases e:k=i; (subst e; exact Ol _ _ _); (rw [Sn e]; exact hf k U)),Gm,hF⟩
 omega
 refine Dc (Cc O ?_)
 refine Ga (Ha (Ha ?_))
 rw [HB (N:=n) (f:=f) (g:=fun _=>-1) (fun k hk=>hf k U)] at hF
 refine Fa (Ca (Yd O) (Ca (Df underlying29 O) (Ca (Va O) (Ea (Ta ?_)))))
 refine Lc (fun μ σ w=>∃ (t:Nat),∃ (f:Nat→Int),μ=mp.length - t∧(t≤mp.length)∧(Gx (mp.drop t) f=Gx mp fun _=>-1)∧AllEq σ [(6,.slice (some ⟨b1,0,none⟩) n n),(40,.slice (A) ((Le mp).length) (c)),(41,.int .i64 (((Le mp).length:Nat))),(42,.int .i64 ((t:Int)))]∧FR w0 [] [(b1,.cells (Mb (n) (f)) 3)] w) _ ⟨0,fun _=>-1,O,(Nat.zero_le _),(O),Gm,hF⟩ ?_
 clear hF; rintro μ σ w ⟨t,f,rfl,ht,hrun,hs,hF⟩
 refine Cg.slots hs ?_
 clear hs; intro σ
 refine Ia (Ca (Yg O O) (Ea (Ha ?_)))
 refine Yb O O (fun hc2=>?_) (fun hc2=>?_)
 refine Qa (Ga (Ha (Ta (Ha ?_))))
 obtain ⟨a,b,hmt⟩:∃ a b:Nat,mp[t]=(a,b):=⟨_,_,rfl⟩
 have hab:(Le mp)[t]=((a:Int),(b:Int)):=by rw [Nu U U,hmt]
 have hab1:=hmp _ (List.getElem_mem (l:=mp) (n:=t) U)
 rw [hmt] at hab1
 refine Fa ?_
 obtain ⟨ad2,hA2,hk2,hx2⟩:=hX.pair_elem (i:=t) U
 rw [hab] at hk2 hx2
 refine Ja (v:=.pointer (some (ad2.add (t * 2)))) (Pa (i:=(t:Int)) G3 O hA2 O U U) (Ja (v:=.agg #[.int .i64 ((((a:Int),(b:Int))).1),.int .i64 ((((a:Int),(b:Int))).2)]) (Fc (l:=Bl ((a:Int),(b:Int))) isAgg41 sizeOf41 O O (hF.cells0 hk2)) ?_)
 refine Ym hF zeroValue41 sizeOf41 O ?_
 clear hF; rintro b2 w hb2 hF -
 refine Ea (Fa (Ca (Yd O) (Ca (Ec Mw O) (Tc (Hl isAgg3 O hF.F 0 O O) (Ca (Ec Rr O) (Tc (Hl isAgg3 O hF.F 0 O O) (Ja (v:=.pointer (some ⟨b1,a,none⟩)) (Gb (i:=(((a:Int),(b:Int))).1) (a) Nd O O U U U) ?_)))))))
 refine Me 1 (l:=[.int .i64 ((((a:Int),(b:Int))).2)]) (cs':=Mb (n) (Pf (f) (a) ((((a:Int),(b:Int))).2))) hF sizeOf3 O (v:=.int .i64 ((((a:Int),(b:Int))).2)) O O Ed O (by rw [Xf]; simp only [List.length_singleton]; exact Nat.succ_le_of_lt U) (Bg _) ?_
 clear hF; rintro w hF -
 replace hF:FR w0 [] [_,(b1,.cells (Mb (n) (Pf (f) (a) ((((a:Int),(b:Int))).2))) 3)] w:=hF
 refine Xa (Eb (Ga (Fa (Ca (If (((t+1:Nat):Int)) O O) (Ca (Va O) (Xa ?_))))))
 refine Ib ⟨_,?_,t+1,Pf (f) (a) ((((a:Int),(b:Int))).2),O,U,(by rw [←hrun,List.drop_eq_getElem_cons (show t < mp.length by omega),Gx,hmt]),Gm,hF.drop 1⟩
 omega
 refine Dc (Cc O ?_)
 refine Ga (Ia (Ca (Yd O) (Ca (Sh O) (Ca (Hc O) (Ea ?_)))))
 refine Ub (Rb (Sa (Ld (v:=.slice _ _ _) (x:=.bool true) O O O) ?_))
 obtain rfl:t=mp.length:=by omega
 rw [List.drop_length,Gx] at hrun
 rw [hrun] at hF
 exact ⟨b1,O,HD (hF.heap (i:=0) O) (hF.ge (i:=0) O) U (fun k _=>by have:=UG (B:=9223372036854775807) mp (fun _=>-1) (fun z hz=>(hmp z hz).2) (fun _=>by omega) k; omega),hF.same⟩
end Go.Scarf
