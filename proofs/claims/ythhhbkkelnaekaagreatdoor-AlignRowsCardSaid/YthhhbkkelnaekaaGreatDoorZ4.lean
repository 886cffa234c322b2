/- A part of the proof. -/
import Derived.Test.YthhhbkkelnaekaaGreatDoorZ1
import Derived.Test.YthhhbkkelnaekaaGreatDoorMapI
import Derived.Sort.OwnSortedInts
import Derived.Test.YthhhbkkelnaekaaGreatDoorShelf
set_option linter.all false
set_option maxHeartbeats 8000000
set_option maxRecDepth 10000
namespace Go.Scarf
open Go.RowKit Go.Proofs Go.Proofs.Tryz
def WC (A B:Nodes) (u v p q:Nat):Int:=((fd A B u (u+p) v (v+q):Nat):Int)
theorem U9 (A B:Nodes) (u v p:Nat):WC A B u v p 0=(p:Int):=by unfold WC; rw [Mr U]; omega
theorem GG (A B:Nodes) (u v q:Nat):WC A B u v 0 q=(q:Int):=by unfold WC; rw [Oo U]; omega
theorem S2 {f:Nat→Int} {m p q p0 q0:Nat} {b:Int} (hq:q≤m) (h0:q0≤m) (h:¬(p=p0∧q=q0)):Pf f (gi m p0 q0) b (gi m p q)=f (gi m p q):=Sn fun e=>h (Y8 hq h0 e)
theorem PN {f:Nat→Int} {m x:Nat} (h:∀ p',p'≤x→f (gi m p' 0)=(p':Int)):∀ p',p'≤x+1→Pf f (gi m (x+1) 0) ((x+1:Nat):Int) (gi m p' 0)=(p':Int):=fun p' hp=>by
  by_cases e:p'=x+1
  · subst e; exact Ol _ _ _
  · rw [S2 U U U]; exact h p' U
theorem RL {f:Nat→Int} {m y:Nat} (hy:y+1≤m) (h:∀ q',q'≤y→f (gi m 0 q')=(q':Int)):∀ q',q'≤y+1→Pf f (gi m 0 (y+1)) ((y+1:Nat):Int) (gi m 0 q')=(q':Int):=fun q' hq=>by
  by_cases e:q'=y+1
  · subst e; exact Ol _ _ _
  · rw [S2 U U U]; exact h q' U
theorem RH {f:Nat→Int} {m n y:Nat} (hy:y+1≤m) (h:∀ p',p'≤n→f (gi m p' 0)=(p':Int)) {b:Int} {x:Nat}:∀ p',p'≤n→Pf f (gi m x (y+1)) b (gi m p' 0)=(p':Int):=fun p' hp=>by
  rw [S2 U U U]; exact h p' hp
def Rt (fa fb:List Int) (u n v m i j:Nat):Prop:=u≤i∧i < u+n∧v≤j∧j < v+m∧Li fa i=u∧Li fb j=v
def Fok (A B:Nodes) (fa fb:List Int) (u n v m x y:Nat) (P0 P:Nat→Nat→Int):Prop :=
  (∀ i j,Rt fa fb u n v m i j→(i < u+x∨(i=u+x∧j < v+y))→P i j=((td A B i j:Nat):Int))∧(∀ i j,¬Rt fa fb u n v m i j→P i j=P0 i j)
section
variable {A B:Nodes} {fa fb:List Int} {u n v m x y:Nat} {P0 P:Nat→Nat→Int}
theorem Fok.start:Fok A B fa fb u n v m 0 0 P0 P0:=⟨fun i j h h2=>by have:=h.1; have:=h.2.2.1; omega,fun _ _ _=>rfl⟩
theorem Fok.next (h:Fok A B fa fb u n v m x m P0 P):Fok A B fa fb u n v m (x+1) 0 P0 P:=⟨fun i j hr h2=>h.1 i j hr (by have:=hr.2.2.2.1; have:=hr.2.2.1; omega),h.2⟩
theorem Fok.skip (h:Fok A B fa fb u n v m x y P0 P) (hn:¬(Li fa (u+x)=u∧Li fb (v+y)=v)):Fok A B fa fb u n v m x (y+1) P0 P:=⟨fun i j hr h2=>by
  by_cases e:i=u+x∧j=v+y
  · obtain ⟨rfl,rfl⟩:=e; exact absurd hr.2.2.2.2 hn
  · exact h.1 i j hr U,h.2⟩
theorem Fok.put (h:Fok A B fa fb u n v m x y P0 P) (hr:Rt fa fb u n v m (u+x) (v+y)) {b:Int} (hb:b=((td A B (u+x) (v+y):Nat):Int)):Fok A B fa fb u n v m x (y+1) P0 (Hj P (u+x) (v+y) b):=by
  refine ⟨fun i j hri h2=>?_,fun i j hri=>?_⟩
  · by_cases e : i = u + x ∧ j = v + y
    · obtain ⟨rfl,rfl⟩:=e; rw [Fk]; exact hb
    · rw [Ns e]; exact h.1 i j hri U
  · rw [Ns (fun e=>by obtain ⟨rfl,rfl⟩:=e; exact hri hr)]; exact h.2 i j hri
def Gok (A B:Nodes) (u n v m x y:Nat) (f:Nat→Int):Prop :=
  (∀ p',p'≤n→f (gi m p' 0)=(p':Int))∧(∀ p' q',p'≤x→q'≤m→f (gi m p' q')=WC A B u v p' q')∧(∀ q',q'≤y→f (gi m (x+1) q')=WC A B u v (x+1) q')
theorem Gok.start {f:Nat→Int} (hc:∀ p',p'≤n→f (gi m p' 0)=(p':Int)) (hr:∀ q',q'≤m→f (gi m 0 q')=(q':Int)) (hn:0 < n):Gok A B u n v m 0 0 f:=by
  refine ⟨hc,fun p' q' hp hq=>?_,fun q' hq=>?_⟩
  · obtain rfl : p' = 0 := by omega
    rw [hr q' hq,GG]
  · obtain rfl : q' = 0 := by omega
    rw [hc _ U,U9]
theorem Gok.put {f:Nat→Int} (h:Gok A B u n v m x y f) (hy:y+1≤m) {b:Int} (hb:b=WC A B u v (x+1) (y+1)):Gok A B u n v m x (y+1) (Pf f (gi m (x+1) (y+1)) b):=by
  refine ⟨RH hy h.1,fun p' q' hp hq=>?_,fun q' hq=>?_⟩
  · rw [S2 hq hy U]; exact h.2.1 p' q' hp hq
  · by_cases e : q' = y + 1
    · subst e; rw [Ol]; exact hb
    · rw [S2 U hy U]; exact h.2.2 q' U
theorem Gok.next {f:Nat→Int} (h:Gok A B u n v m x m f) (hx:x+1 < n):Gok A B u n v m (x+1) 0 f:=by
  refine ⟨h.1,fun p' q' hp hq=>?_,fun q' hq=>?_⟩
  · by_cases e : p' = x + 1
    · subst e; exact h.2.2 q' hq
    · exact h.2.1 p' q' U hq
  · obtain rfl : q' = 0 := by omega
    rw [h.1 _ U,U9]
def Gdone (A B:Nodes) (u n v m x:Nat) (f:Nat→Int):Prop:=(∀ p',p'≤n→f (gi m p' 0)=(p':Int))∧(∀ p' q',p'≤x→q'≤m→f (gi m p' q')=WC A B u v p' q')
theorem Gdone.start {f:Nat→Int} (hc:∀ p',p'≤n→f (gi m p' 0)=(p':Int)) (hr:∀ q',q'≤m→f (gi m 0 q')=(q':Int)):Gdone A B u n v m 0 f:=by
  refine ⟨hc,fun p' q' hp hq=>?_⟩
  obtain rfl:p'=0:=by omega
  rw [hr q' hq,GG]
theorem Gdone.open_ {f:Nat→Int} (h:Gdone A B u n v m x f) (hx:x < n):Gok A B u n v m x 0 f:=⟨h.1,h.2,fun q' hq=>by
  obtain rfl:q'=0:=by omega
  rw [h.1 _ U,U9]⟩
theorem Gok.close {f:Nat→Int} (h:Gok A B u n v m x m f):Gdone A B u n v m (x+1) f:=⟨h.1,fun p' q' hp hq=>by
  by_cases e:p'=x+1
  · subst e; exact h.2.2 q' hq
  · exact h.2.1 p' q' U hq⟩
theorem ED (hk:u+x≤512) (hl:v+y≤512):fd A B u (u+x) v (v+y)≤1024:=by
  have:=(Dj A B _ u (u+x) v (v+y) (Nat.le_refl _)).1
  omega
theorem TK (h1:A.lf (u+x)=u) (h2:B.lf (v+y)=v):WC A B u v (x+1) (y+1)=min (1+min ((fd A B u (u+x) v (v+(y+1)):Nat):Int) ((fd A B u (u+(x+1)) v (v+y):Nat):Int)) (((fd A B u (u+x) v (v+y):Nat):Int)+((turn A B (u+x) (v+y):Nat):Int))∧td A B (u+x) (v+y)=fd A B u (u+(x+1)) v (v+(y+1)):=by
  have q:=JS A B (x:=u+x) (y:=v+y)
  rw [h1,h2] at q
  have q2:fd A B u (u+(x+1)) v (v+(y+1))=min (min (fd A B u (u+x) v (v+(y+1))) (fd A B u (u+(x+1)) v (v+y))+1) (fd A B u (u+x) v (v+y)+turn A B (u+x) (v+y)):=q
  refine ⟨by unfold WC; rw [q2]; omega,?_⟩
  unfold td
  rw [h1,h2]
  rfl
theorem F2 (h1:u≤A.lf (u+x)) (h2:v≤B.lf (v+y)):WC A B u v (x+1) (y+1)=min (1+min ((fd A B u (u+x) v (v+(y+1)):Nat):Int) ((fd A B u (u+(x+1)) v (v+y):Nat):Int)) (((fd A B u (A.lf (u+x)) v (B.lf (v+y)):Nat):Int)+((td A B (u+x) (v+y):Nat):Int)):=by
  have q:=GO A B (i:=u) (x:=u+x) (j:=v) (y:=v+y) h1 h2
  have q2:fd A B u (u+(x+1)) v (v+(y+1))=min (min (fd A B u (u+x) v (v+(y+1))) (fd A B u (u+(x+1)) v (v+y))+1) (fd A B u (A.lf (u+x)) v (B.lf (v+y))+td A B (u+x) (v+y)):=q
  unfold WC; rw [q2]; omega
end
def Rows (q:Nat→Nat) (n:Nat):List Nat:=(List.range n).map q
theorem Ml {q:Nat→Nat} {n b:Nat}:b∈Rows q n↔∃ i,i < n∧q i=b:=by simp [Rows]
theorem JB (w0:World) (N0 rb pb:Nat) (q:Nat→Nat) (la:List Str) (fa:List Int) (lb:List Str) (fb:List Int) (Aa Ba Ab Bb:Option Addr) (k1 k2 k3 k4:Nat) (P0:Nat→Nat→Int) (hK:Rk w0 N0 rb pb q la fa lb fb Aa Ba Ab Bb k1 k2 k3 k4 P0) (u n v m:Nat) (hN0:N0≤w0.heap.size) (hka:la.length=fa.length) (hkb:lb.length=fb.length) (hla5:la.length≤512) (hlb5:lb.length≤512) (hoa:lfOk fa fa.length) (hob:lfOk fb fb.length) (hun:u+n≤la.length) (hvm:v+m≤lb.length) (hca:∀ i,u≤i→i < u+n→u≤Li fa i) (hcb:∀ j,v≤j→j < v+m→v≤Li fb j) (hP0:∀ i j,u≤i→i < u+n→v≤j→j < v+m→¬(Li fa i=u∧Li fb j=v)→P0 i j=((td (Fb la fa) (Fb lb fb) i j:Nat):Int)):Calls prog 75 #[.pointer (some ⟨rb,0,none⟩),.int .i64 ((u:Nat):Int),.int .i64 ((u+n:Nat):Int),.int .i64 ((v:Nat):Int),.int .i64 ((v+m:Nat):Int)] w0 (De fun v_ w'=>∃ (gb cb':Nat) (f:Nat→Int) (P:Nat→Nat→Int),v_=.pointer (some ⟨gb,0,none⟩)∧w'.heap[gb]? = some (.cells #[.int .i64 ((m+1:Nat):Int),.slice (some ⟨cb',0,none⟩) ((n+1) * (m+1)) ((n+1) * (m+1))] 138)∧w'.heap[cb']? = some (.cells (Mb ((n+1) * (m+1)) f) 3)∧f (gi m n m)=WC (Fb la fa) (Fb lb fb) u v n m∧Rk w' N0 rb pb q la fa lb fb Aa Ba Ab Bb k1 k2 k3 k4 P∧(∀ i j,Rt fa fb u n v m i j→P i j=((td (Fb la fa) (Fb lb fb) i j:Nat):Int))∧(∀ i j,¬Rt fa fb u n v m i j→P i j=P0 i j)∧w0.heap.size≤gb∧w0.heap.size≤cb'∧Same (Rows q la.length) w0 w'):=by
 refine Ka func75 O ntmps75 Kb (Z8 _ _ _ _ _) ?_
 have hF:=FR.start w0 (Rows q la.length)
 refine Ia (Ca (I_ O) (Bc (Ca (Va O) (Ca (Va O) (Ca (Hw ((n:Nat)) O O) (Ca (Va O) (Ca (Va O) (Ca (Hw ((m:Nat)) O O) ?_))))))))
 refine Pb (LK _ n m U U) (Vb QW O O O) ?_
 rintro _ w ⟨gb,cb,rfl,hg_,hc_,hgN,hcN,hgc,hE⟩
 replace hF:=hF.ext hE
 replace hK:=hK.ext hE
 have hgs:=hgN
 have hcs:=hcN
 replace hF:=(hF.adopt hc_ hcN Ma).adopt hg_ hgN (by intro z hz; obtain rfl:=List.mem_singleton.1 hz; exact fun e=>hgc e.symm)
 have hcbN:N0≤cb:=by omega
 have hgbN:N0≤gb:=by omega
 clear hE hg_ hc_
 refine Ca (I_ O) (Ea (Ha (Ia (Ca (Va O) (Ca (Wb O) (Ea (Ta ?_)))))))
 refine Lc (fun μ σ w=>∃ (x:Nat),∃ (f:Nat→Int),μ=n - x∧(x≤n)∧(∀ p',p'≤x→f (gi m p' 0)=(p':Int))∧(Rk w N0 rb pb q la fa lb fb Aa Ba Ab Bb k1 k2 k3 k4 P0)∧AllEq σ [(0,.pointer (some ⟨rb,0,none⟩)),(1,.int .i64 ((u:Nat))),(2,.int .i64 (((u+n:Nat):Int))),(3,.int .i64 ((v:Nat))),(4,.int .i64 (((v+m:Nat):Int))),(11,.pointer (some ⟨gb,0,none⟩)),(12,.int .i64 (((u+x:Nat):Int)))]∧FR w0 (Rows q la.length) [(gb,.cells #[.int .i64 (((m+1:Nat):Int)),.slice (some ⟨cb,0,none⟩) (((n+1) * (m+1))) (((n+1) * (m+1)))] 138),(cb,.cells (Mb (((n+1) * (m+1))) (f)) 3)] w) _ ⟨0,(fun _=>0),rfl,(Nat.zero_le _),(fun p' hp=>by obtain rfl:p'=0:=U; rfl),(hK),BG,hF⟩ ?_
 clear hF; rintro μ σ w ⟨x,f,rfl,hx,hc_,hK,hs,hF⟩
 refine Cg.slots hs ?_
 clear hs; intro σ
 refine Ha (Ia (Ca (Va O) (Ca (Va O) (Ca (Yg O O) (Ea ?_)))))
 refine Yb O O (fun hc0=>?_) (fun hc0=>?_)
 refine Qa (Ga (Ha (Ta (Fa (Ca (Ue O) (Ca (Va O) (Ca (Va O) (Ca (Hw ((x:Nat)) O O) ?_))))))))
 refine Pb (It _ gb cb n m (x+1) (0) _ _ U U (hF.heap (i:=0) O) U U U U) (Gd Dt O O O O) ?_
 rintro _ w ⟨rfl,hE⟩
 replace hF:=hF.ext hE
 replace hK:=hK.ext hE
 clear hE
 refine Ca (Va O) (Ca (Va O) (Ca (Hw ((x:Nat)) O O) (Ca (If (((x+1:Nat):Int)) O O) (Ca (Gg O) ?_))))
 refine Me 1 (l:=[.int .i64 (((x+1:Nat):Int))]) (cs':=Mb (((n+1) * (m+1))) (Pf (f) (gi m (x+1) (0)) (((x+1:Nat):Int)))) hF sizeOf3 O (v:=.int .i64 (((x+1:Nat):Int))) O O Ed O (by rw [Xf]; simp only [List.length_singleton]; exact Nat.succ_le_of_lt (Rp U U)) (Bg _) ?_
 clear hF; intro w hF hE
 replace hK:=hK.step hE (by simpa using hcbN)
 clear hE
 replace hF:FR w0 (Rows q la.length) [_,(cb,.cells (Mb (((n+1) * (m+1))) (Pf (f) (gi m (x+1) (0)) (((x+1:Nat):Int)))) 3)] w:=hF
 refine Xa (Eb (Ga (Fa (Ca (Va O) (Ca (If (((u+(x+1):Nat):Int)) O O) (Ca (Wb O) (Xa ?_)))))))
 refine Ib ⟨_,?_,x+1,(Pf (f) (gi m (x+1) (0)) (((x+1:Nat):Int))),O,U,(PN hc_),(hK),BG,hF⟩
 omega
 refine Dc (Cc O ?_)
 refine Ga (Ha (Ia (Ca (Va O) (Ca (Wb O) (Ea (Ta ?_))))))
 refine Lc (fun μ σ w=>∃ (y:Nat),∃ (f:Nat→Int),μ=m - y∧(y≤m)∧(∀ p',p'≤n→f (gi m p' 0)=(p':Int))∧(∀ q',q'≤y→f (gi m 0 q')=(q':Int))∧(Rk w N0 rb pb q la fa lb fb Aa Ba Ab Bb k1 k2 k3 k4 P0)∧AllEq σ [(0,.pointer (some ⟨rb,0,none⟩)),(1,.int .i64 ((u:Nat))),(2,.int .i64 (((u+n:Nat):Int))),(3,.int .i64 ((v:Nat))),(4,.int .i64 (((v+m:Nat):Int))),(11,.pointer (some ⟨gb,0,none⟩)),(13,.int .i64 (((v+y:Nat):Int)))]∧FR w0 (Rows q la.length) [(gb,.cells #[.int .i64 (((m+1:Nat):Int)),.slice (some ⟨cb,0,none⟩) (((n+1) * (m+1))) (((n+1) * (m+1)))] 138),(cb,.cells (Mb (((n+1) * (m+1))) (f)) 3)] w) _ ⟨0,f,rfl,(Nat.zero_le _),(fun p' hp=>hc_ p' U),(fun q' hq=>by obtain rfl:q'=0:=U; exact hc_ 0 U),(hK),BG,hF⟩ ?_
 clear hF; rintro μ σ w ⟨y,f,rfl,hy,hc_,hr_,hK,hs,hF⟩
 refine Cg.slots hs ?_
 clear hs; intro σ
 refine Ha (Ia (Ca (Va O) (Ca (Va O) (Ca (Yg O O) (Ea ?_)))))
 refine Yb O O (fun hc1=>?_) (fun hc1=>?_)
 refine Qa (Ga (Ha (Ta (Fa (Ca (Ue O) (Ca (Va O) (Ca (Va O) (Ca (Hw ((y:Nat)) O O) ?_))))))))
 refine Pb (It _ gb cb n m (0) (y+1) _ _ U U (hF.heap (i:=0) O) U U U U) (Gd Dt O O O O) ?_
 rintro _ w ⟨rfl,hE⟩
 replace hF:=hF.ext hE
 replace hK:=hK.ext hE
 clear hE
 refine Ca (Va O) (Ca (Va O) (Ca (Hw ((y:Nat)) O O) (Ca (If (((y+1:Nat):Int)) O O) (Ca (Gg O) ?_))))
 refine Me 1 (l:=[.int .i64 (((y+1:Nat):Int))]) (cs':=Mb (((n+1) * (m+1))) (Pf (f) (gi m (0) (y+1)) (((y+1:Nat):Int)))) hF sizeOf3 O (v:=.int .i64 (((y+1:Nat):Int))) O O Ed O (by rw [Xf]; simp only [List.length_singleton]; exact Nat.succ_le_of_lt (Rp U U)) (Bg _) ?_
 clear hF; intro w hF hE
 replace hK:=hK.step hE (by simpa using hcbN)
 clear hE
 replace hF:FR w0 (Rows q la.length) [_,(cb,.cells (Mb (((n+1) * (m+1))) (Pf (f) (gi m (0) (y+1)) (((y+1:Nat):Int)))) 3)] w:=hF
 refine Xa (Eb (Ga (Fa (Ca (Va O) (Ca (If (((v+(y+1):Nat):Int)) O O) (Ca (Wb O) (Xa ?_)))))))
 refine Ib ⟨_,?_,y+1,(Pf (f) (gi m (0) (y+1)) (((y+1:Nat):Int))),O,U,(RH U hc_),(RL U hr_),(hK),BG,hF⟩
 omega
 refine Dc (Cc O ?_)
 refine Ga (Ha (Ia (Ca (Va O) (Ca (Wb O) (Ea (Ta ?_))))))
 refine Lc (fun μ σ w=>∃ (x:Nat),∃ (f:Nat→Int),∃ (P:Nat→Nat→Int),μ=n - x∧(x≤n)∧(Gdone (Fb la fa) (Fb lb fb) u n v m x f)∧(Fok (Fb la fa) (Fb lb fb) fa fb u n v m x 0 P0 P)∧(Rk w N0 rb pb q la fa lb fb Aa Ba Ab Bb k1 k2 k3 k4 P)∧AllEq σ [(0,.pointer (some ⟨rb,0,none⟩)),(1,.int .i64 ((u:Nat))),(2,.int .i64 (((u+n:Nat):Int))),(3,.int .i64 ((v:Nat))),(4,.int .i64 (((v+m:Nat):Int))),(11,.pointer (some ⟨gb,0,none⟩)),(14,.int .i64 (((u+x:Nat):Int)))]∧FR w0 (Rows q la.length) [(gb,.cells #[.int .i64 (((m+1:Nat):Int)),.slice (some ⟨cb,0,none⟩) (((n+1) * (m+1))) (((n+1) * (m+1)))] 138),(cb,.cells (Mb (((n+1) * (m+1))) (f)) 3)] w) _ ⟨0,f,P0,O,(Nat.zero_le _),(Gdone.start hc_ (fun q' hq=>hr_ q' U)),(Fok.start),(hK),BG,hF⟩ ?_
 clear hF; rintro μ σ w ⟨x,f,P,rfl,hx,hD_,hP,hK,hs,hF⟩
 refine Cg.slots hs ?_
 clear hs; intro σ
 refine Ha (Ia (Ca (Va O) (Ca (Va O) (Ca (Yg O O) (Ea ?_)))))
 refine Yb O O (fun hc2=>?_) (fun hc2=>?_)
 refine Qa (Ga (Ha (Ta (Ia (Ca (Va O) (Ca (Wb O) (Ea (Ta ?_))))))))
 refine Lc (fun μ σ w=>∃ (y:Nat),∃ (f:Nat→Int),∃ (P:Nat→Nat→Int),μ=m - y∧(y≤m)∧(Gok (Fb la fa) (Fb lb fb) u n v m x y f)∧(Fok (Fb la fa) (Fb lb fb) fa fb u n v m x y P0 P)∧(Rk w N0 rb pb q la fa lb fb Aa Ba Ab Bb k1 k2 k3 k4 P)∧AllEq σ [(0,.pointer (some ⟨rb,0,none⟩)),(1,.int .i64 ((u:Nat))),(2,.int .i64 (((u+n:Nat):Int))),(3,.int .i64 ((v:Nat))),(4,.int .i64 (((v+m:Nat):Int))),(11,.pointer (some ⟨gb,0,none⟩)),(14,.int .i64 (((u+x:Nat):Int))),(15,.int .i64 (((v+y:Nat):Int)))]∧FR w0 (Rows q la.length) [(gb,.cells #[.int .i64 (((m+1:Nat):Int)),.slice (some ⟨cb,0,none⟩) (((n+1) * (m+1))) (((n+1) * (m+1)))] 138),(cb,.cells (Mb (((n+1) * (m+1))) (f)) 3)] w) _ ⟨0,f,P,O,(Nat.zero_le _),(Gdone.open_ hD_ U),(hP),(hK),K5,hF⟩ ?_
 clear hF; rintro μ σ w ⟨y,f,P,rfl,hy,hG_,hP,hK,hs,hF⟩
 refine Cg.slots hs ?_
 clear hs; intro σ
 refine Ha (Ia (Ca (Va O) (Ca (Va O) (Ca (Yg O O) (Ea ?_)))))
 refine Yb O O (fun hc3=>?_) (fun hc3=>?_)
 refine Qa (Ga (Ha (Ta (Ia (Ca (Va O) (Ca (Va O) (Ca (Hw ((x:Nat)) O O) (Ca (Va O) (Ca (Va O) (Ca (Hw ((y:Nat)) O O) (Ca (Wb O) (Ca (Wb O) ?_))))))))))))
 refine Ea (Ha ?_)
 have hbx:u+x < fa.length∧v+y < fb.length:=by omega
 obtain ⟨d1,hd1⟩:∃ d,d=fd (Fb la fa) (Fb lb fb) u (u+x) v (v+(y+1)):=⟨_,rfl⟩
 obtain ⟨d2,hd2⟩:∃ d,d=fd (Fb la fa) (Fb lb fb) u (u+(x+1)) v (v+y):=⟨_,rfl⟩
 obtain ⟨d3,hd3⟩:∃ d,d=fd (Fb la fa) (Fb lb fb) u (u+x) v (v+y):=⟨_,rfl⟩
 have hv1:f (gi m x (y+1))=(d1:Int):=by rw [hd1]; exact hG_.2.1 _ _ (Nat.le_refl _) U
 have hv2:f (gi m (x+1) y)=(d2:Int):=by rw [hd2]; exact hG_.2.2 _ (Nat.le_refl _)
 have hv3:f (gi m x y)=(d3:Int):=by rw [hd3]; exact hG_.2.1 _ _ (Nat.le_refl _) U
 have hm1:d1≤1024:=by rw [hd1]; exact ED U U
 have hm2:d2≤1024:=by rw [hd2]; exact ED U U
 have hm3:d3≤1024:=by rw [hd3]; exact ED U U
 obtain ⟨lu,hlu⟩:∃ z,z=Li fa (u+x):=⟨_,rfl⟩
 obtain ⟨lv,hlv⟩:∃ z,z=Li fb (v+y):=⟨_,rfl⟩
 have hla:fa[u+x]=(lu:Int):=by rw [hlu]; exact (hoa.at U U).symm
 have hlb:fb[v+y]=(lv:Int):=by rw [hlv]; exact (hob.at U U).symm
 have hlu1:u≤lu∧lu≤u+x:=⟨by rw [hlu]; exact hca _ U U,by rw [hlu]; exact Nat.min_le_right _ _⟩
 have hlv1:v≤lv∧lv≤v+y:=⟨by rw [hlv]; exact hcb _ U U,by rw [hlv]; exact Nat.min_le_right _ _⟩
 obtain ⟨ada,hAda⟩:=T8 hK.Na U
 obtain ⟨adb,hAdb⟩:=T8 hK.Nb U
 refine Uc [] (.free 0 (.free 1 (.free 2 (.free 3 (.free 7 (.free 8 (.free 9 (.free 10 (.act 4 (.free 5 (.free 6 (.act 11 (.free 12 (.free 13 (.free 14 (.free 15 (.free 16 .nil))))))))))))))))) hF ?_
 clear hF; intro w hF hE
 replace hK:=hK.ext hE
 clear hE
 refine ⟨fun wq=>FR w0 (Rows q la.length) _ wq,hF,?_⟩
 refine Db O (Ue O) (Db O (Va O) (Db O (Fo O O) (Db O (Va O) (Db O (Ue O) (Db O (Va O) (Db O (Va O) (Db O (Fo O O) ?_)))))))
 refine Ye O (It _ gb cb n m (x) (y+1) _ _ U U (hF.heap (i:=0) O) U U U U) (Gd Dt O O O O) ?_
 rintro _ w ⟨rfl,hE⟩
 replace hF:=hF.ext hE
 replace hK:=hK.ext hE
 clear hE
 refine ⟨hF,?_⟩
 refine Db O (Gg O) ?_
 refine Oa O (v:=.int .i64 ((d1:Nat))) (fun w hC=>Ya isAgg3 O (by rw [←hv1]; exact hC.intCell 1 O (Rp U U))) ?_
 refine Ye O (It _ gb cb n m (x+1) (y) _ _ U U (hF.heap (i:=0) O) U U U U) (Gd Dt O O O O) ?_
 rintro _ w ⟨rfl,hE⟩
 replace hF:=hF.ext hE
 replace hK:=hK.ext hE
 clear hE
 refine ⟨hF,?_⟩
 refine Db O (Gg O) ?_
 refine Oa O (v:=.int .i64 ((d2:Nat))) (fun w hC=>Ya isAgg3 O (by rw [←hv2]; exact hC.intCell 1 O (Rp U U))) ?_
 refine Oa O (v:=.int .i64 (min ((d1:Nat):Int) ((d2:Nat):Int))) (fun w hC=>J4 O O) (Db O (Sl O O) (Db O (Wb O) (Mc (Ga (Ha ?_)))))
 refine Uc [] (.free 0 (.free 1 (.free 2 (.free 3 (.free 4 (.free 5 (.free 6 (.free 7 (.free 8 (.free 9 (.free 10 (.free 11 (.free 12 (.free 13 (.free 14 (.free 15 (.free 16 (.free 17 .nil)))))))))))))))))) hF ?_
 clear hF; intro w hF hE
 replace hK:=hK.ext hE
 clear hE
 refine ⟨fun wq=>FR w0 (Rows q la.length) _ wq∧Rk wq N0 rb pb q la fa lb fb Aa Ba Ab Bb k1 k2 k3 k4 P,⟨hF,hK⟩,?_⟩
 refine Db O (Ue O) (Db O (Gg O) (Db O (Ec VA O) (Db O (Ec Qd O) (Oa O (v:=.slice Ba fa.length k2) (fun w hC=>Ya isAgg42 O hC.2.c1) (Db O (Va O) (Oa O (v:=.pointer (some (ada.add ((u+x) * 1)))) (fun w hC=>Pa (i:=((u+x:Nat):Int)) Nd O hAda O U U) ?_))))))
 refine Oa O (v:=.int .i64 ((lu:Nat))) (fun w hC=>Ya isAgg3 O (by rw [←hla]; exact Qp hC.2.Na hAda U)) ?_
 refine Db O (Ue O) (Db O (Gg O) (Db O (Ec NA O) (Db O (Ec Qd O) (Oa O (v:=.slice Bb fb.length k4) (fun w hC=>Ya isAgg42 O hC.2.c3) (Db O (Va O) (Oa O (v:=.pointer (some (adb.add ((v+y) * 1)))) (fun w hC=>Pa (i:=((v+y:Nat):Int)) Nd O hAdb O U U) ?_))))))
 refine Oa O (v:=.int .i64 ((lv:Nat))) (fun w hC=>Ya isAgg3 O (by rw [←hlb]; exact Qp hC.2.Nb hAdb U)) ?_
 refine Db O (Wb O) (Db O (Wb O) (Mc (Ga (Ha (Ia (Ca (Va O) (Ca (Va O) (Ca (Th O O) (Ca (Jc O) ?_)))))))))
 refine Hb (d:=113) O (fun hg0=>?_) (fun hg0=>?_)
 refine Ca (Va O) (Ca (Va O) (Ca (Th O O) (Ca (Ic O O) (Ea ?_))))
 refine Yb O O (fun hc4=>?_) (fun hc4=>?_)
 refine Ha ?_
 obtain ⟨tt,htt⟩:∃ z,z=turn (Fb la fa) (Fb lb fb) (u+x) (v+y):=⟨_,rfl⟩
 have htt1:tt≤1:=by rw [htt]; unfold turn; split <;> omega
 have hr1:Li fa (u+x)=u∧Li fb (v+y)=v:=by omega
 have hbest:=TK (A:=Fb la fa) (B:=Fb lb fb) (u:=u) (v:=v) (x:=x) (y:=y) hr1.1 hr1.2
 rw [←hd1,←hd2,←hd3,←htt] at hbest
 refine Uc [] (.free 0 (.free 1 (.free 2 (.free 3 (.free 4 (.free 5 (.free 9 (.free 10 (.free 11 (.act 6 (.free 7 (.free 8 (.act 12 (.free 13 (.free 14 (.free 15 .nil)))))))))))))))) hF ?_
 clear hF; intro w hF hE
 replace hK:=hK.ext hE
 clear hE
 refine ⟨fun wq=>FR w0 (Rows q la.length) _ wq,hF,?_⟩
 refine Db O (Va O) (Db O (Ue O) (Db O (Va O) (Db O (Fo O O) (Db O (Va O) (Db O (Fo O O) (Db O (Ue O) (Db O (Va O) (Db O (Va O) ?_))))))))
 refine Ye O (It _ gb cb n m (x) (y) _ _ U U (hF.heap (i:=0) O) U U U U) (Gd Dt O O O O) ?_
 rintro _ w ⟨rfl,hE⟩
 replace hF:=hF.ext hE
 replace hK:=hK.ext hE
 clear hE
 refine ⟨hF,?_⟩
 refine Db O (Gg O) ?_
 refine Oa O (v:=.int .i64 ((d3:Nat))) (fun w hC=>Ya isAgg3 O (by rw [←hv3]; exact hC.intCell 1 O (Rp U U))) ?_
 refine Ye O (Ng (AV _ N0 rb pb q la fa lb fb Aa Ba Ab Bb k1 k2 k3 k4 P hK (u+x) (v+y) U U U U) (by rw [←htt])) (Gd QX O O O O) ?_
 rintro _ w ⟨rfl,hE⟩
 replace hF:=hF.ext hE
 replace hK:=hK.ext hE
 clear hE
 refine ⟨hF,?_⟩
 refine Db O (Sl O O) (Oa O (v:=.int .i64 (min ((1:Int)+min ((d1:Nat):Int) ((d2:Nat):Int):Int) (((d3:Nat):Int)+(tt:Nat):Int))) (fun w hC=>J4 O O) (Db O (Wb O) (Mc (Ga (Fa (Ca (Ue O) (Ca (Gg O) (Ca (Ec Vs O) (Ja (v:=.slice (some ⟨pb,0,none⟩) la.length la.length) (Ya isAgg37 O hK.c4) (Ca (Va O) (Ja (v:=.pointer (some ⟨pb,u+x,none⟩)) (Gb (i:=((u+x:Nat):Int)) (u+x) Vj O O U U U) (Ja (v:=.slice (some ⟨q (u+x),0,none⟩) (lb.length) (lb.length)) (Ya isAgg42 O (hK.grid.rowCell U)) (Ca (Va O) ?_)))))))))))))
 refine Ca (Va O) (Ja (v:=.pointer (some ⟨q (u+x),v+y,none⟩)) (Gb (i:=((v+y:Nat):Int)) (v+y) Nd O O U U U) ?_)
 refine Xt hF sizeOf3 rfl rfl (hK.grid.row (u+x) U) U (Ml.2 ⟨u+x,by omega,rfl⟩) (by intro z hz; have hqz:=hK.lt.2.2 (u+x) U; simp only [List.mem_cons,List.not_mem_nil,or_false] at hz; rcases hz with rfl | rfl <;> (simp only; omega)) ?_
 clear hF; intro w hF hE hnew
 replace hK:=hK.put U hE hnew
 clear hE hnew
 refine Ea (Fa (Ca (Ue O) (Ca (Va O) (Ca (Va O) ?_))))
 refine Pb (It _ gb cb n m (x+1) (y+1) _ _ U U (hF.heap (i:=0) O) U U U U) (Gd Dt O O O O) ?_
 rintro _ w ⟨rfl,hE⟩
 replace hF:=hF.ext hE
 replace hK:=hK.ext hE
 clear hE
 refine Ca (Va O) (Ca (Gg O) ?_)
 refine Me 1 (l:=[.int .i64 (min ((1:Int)+min ((d1:Nat):Int) ((d2:Nat):Int):Int) (((d3:Nat):Int)+(tt:Nat):Int))]) (cs':=Mb (((n+1) * (m+1))) (Pf (f) (gi m (x+1) (y+1)) (min ((1:Int)+min ((d1:Nat):Int) ((d2:Nat):Int):Int) (((d3:Nat):Int)+(tt:Nat):Int)))) hF sizeOf3 O (v:=.int .i64 (min ((1:Int)+min ((d1:Nat):Int) ((d2:Nat):Int):Int) (((d3:Nat):Int)+(tt:Nat):Int))) O O Ed O (by rw [Xf]; simp only [List.length_singleton]; exact Nat.succ_le_of_lt (Rp U U)) (Bg _) ?_
 clear hF; intro w hF hE
 replace hK:=hK.step hE (by simpa using hcbN)
 clear hE
 replace hF:FR w0 (Rows q la.length) [_,(cb,.cells (Mb (((n+1) * (m+1))) (Pf (f) (gi m (x+1) (y+1)) (min ((1:Int)+min ((d1:Nat):Int) ((d2:Nat):Int):Int) (((d3:Nat):Int)+(tt:Nat):Int)))) 3)] w:=hF
 refine Xa (Eb (Ga (Fa (Ca (Va O) (Ca (If (((v+(y+1):Nat):Int)) O O) (Ca (Wb O) (Xa ?_)))))))
 refine Ib ⟨_,?_,y+1,(Pf (f) (gi m (x+1) (y+1)) (min ((1:Int)+min ((d1:Nat):Int) ((d2:Nat):Int):Int) (((d3:Nat):Int)+(tt:Nat):Int))),Hj P (u+x) (v+y) (min ((1:Int)+min ((d1:Nat):Int) ((d2:Nat):Int):Int) (((d3:Nat):Int)+(tt:Nat):Int)),O,U,(Gok.put hG_ U (by rw [hbest.1])),(Fok.put hP ⟨by omega,by omega,by omega,by omega,hr1⟩ (by rw [hbest.2,←hbest.1]; rfl)),(hK),K5,hF⟩
 omega
 have hr1:¬(Li fa (u+x)=u∧Li fb (v+y)=v):=by omega
 obtain ⟨d4,hd4⟩:∃ d,d=fd (Fb la fa) (Fb lb fb) u (lu) v (lv):=⟨_,rfl⟩
 obtain ⟨d5,hd5⟩:∃ d,d=td (Fb la fa) (Fb lb fb) (u+x) (v+y):=⟨_,rfl⟩
 have hv4:f (gi m (lu - u) (lv - v))=(d4:Int):=by have h:=hG_.2.1 (lu - u) (lv - v) U U; rw [h,hd4,WC,show u+(lu - u)=lu by omega,show v+(lv - v)=lv by omega]
 have hv5:P (u+x) (v+y)=(d5:Int):=by rw [hP.2 _ _ (fun h=>hr1 h.2.2.2.2),hd5]; exact hP0 _ _ U U U U hr1
 have hm4:d4≤1024:=by rw [hd4]; have:=(Dj (Fb la fa) (Fb lb fb) _ u lu v lv (Nat.le_refl _)).1; omega
 have hm5:d5≤1024:=by rw [hd5]; unfold td; have:=(Dj (Fb la fa) (Fb lb fb) _ (Li fa (u+x)) (u+x+1) (Li fb (v+y)) (v+y+1) (Nat.le_refl _)).1; have e1:(Fb la fa).lf (u+x)=Li fa (u+x):=rfl; have e2:(Fb lb fb).lf (v+y)=Li fb (v+y):=rfl; rw [e1,e2]; omega
 have hbest:=F2 (A:=Fb la fa) (B:=Fb lb fb) (u:=u) (v:=v) (x:=x) (y:=y) (by show u≤Li fa (u+x); omega) (by show v≤Li fb (v+y); omega)
 have e1:(Fb la fa).lf (u+x)=lu:=hlu.symm
 have e2:(Fb lb fb).lf (v+y)=lv:=hlv.symm
 rw [e1,e2,←hd1,←hd2,←hd4,←hd5] at hbest
 refine Uc [] (.free 0 (.free 1 (.free 2 (.free 3 (.free 4 (.free 5 (.free 6 (.free 7 (.free 8 (.free 9 (.free 13 (.free 14 (.free 15 (.free 16 (.free 17 (.free 18 (.free 19 (.free 20 (.free 21 (.free 22 (.act 10 (.free 11 (.free 12 (.free 23 (.free 24 (.free 25 .nil)))))))))))))))))))))))))) hF ?_
 clear hF; intro w hF hE
 replace hK:=hK.ext hE
 clear hE
 refine ⟨fun wq=>FR w0 (Rows q la.length) _ wq∧Rk wq N0 rb pb q la fa lb fb Aa Ba Ab Bb k1 k2 k3 k4 P,⟨hF,hK⟩,?_⟩
 refine Db O (Va O) (Db O (Ue O) (Db O (Va O) (Db O (Va O) (Db O (Fo O O) (Db O (Fo O O) (Db O (Va O) (Db O (Va O) (Db O (Fo O O) (Db O (Fo O O) (Db O (Ue O) (Db O (Gg O) (Db O (Ec Vs O) (Oa O (v:=.slice (some ⟨pb,0,none⟩) la.length la.length) (fun w hC=>Ya isAgg37 O hC.2.c4) ?_)))))))))))))
 refine Db O (Va O) (Oa O (v:=.pointer (some ⟨pb,u+x,none⟩)) (fun w hC=>Gb (i:=((u+x:Nat):Int)) (u+x) Vj O O U U U) (Oa O (v:=.slice (some ⟨q (u+x),0,none⟩) (lb.length) (lb.length)) (fun w hC=>Ya isAgg42 O (hC.2.grid.rowCell U)) (Db O (Va O) (Oa O (v:=.pointer (some ⟨q (u+x),v+y,none⟩)) (fun w hC=>Gb (i:=((v+y:Nat):Int)) (v+y) Nd O O U U U) ?_))))
 refine Oa O (v:=.int .i64 ((d5:Nat))) (fun w hC=>Ya isAgg3 O (by rw [←hv5]; exact hC.2.grid.cell U U)) ?_
 refine Ye O (It _ gb cb n m (lu - u) (lv - v) _ _ U U (hF.heap (i:=0) O) U U U U) (Gd Dt O O O O) ?_
 rintro _ w ⟨rfl,hE⟩
 replace hF:=hF.ext hE
 replace hK:=hK.ext hE
 clear hE
 refine ⟨⟨hF,hK⟩,?_⟩
 refine Db O (Gg O) ?_
 refine Oa O (v:=.int .i64 ((d4:Nat))) (fun w hC=>Ya isAgg3 O (by rw [←hv4]; exact hC.1.intCell 1 O (Rp U U))) ?_
 refine Db O (Sl O O) (Oa O (v:=.int .i64 (min ((1:Int)+min ((d1:Nat):Int) ((d2:Nat):Int):Int) (((d4:Nat):Int)+(d5:Nat):Int))) (fun w hC=>J4 O O) (Db O (Wb O) (Mc (Ga (Fa (Ca (Ue O) (Ca (Va O) (Ca (Va O) ?_))))))))
 refine Pb (It _ gb cb n m (x+1) (y+1) _ _ U U (hF.heap (i:=0) O) U U U U) (Gd Dt O O O O) ?_
 rintro _ w ⟨rfl,hE⟩
 replace hF:=hF.ext hE
 replace hK:=hK.ext hE
 clear hE
 refine Ca (Va O) (Ca (Gg O) ?_)
 refine Me 1 (l:=[.int .i64 (min ((1:Int)+min ((d1:Nat):Int) ((d2:Nat):Int):Int) (((d4:Nat):Int)+(d5:Nat):Int))]) (cs':=Mb (((n+1) * (m+1))) (Pf (f) (gi m (x+1) (y+1)) (min ((1:Int)+min ((d1:Nat):Int) ((d2:Nat):Int):Int) (((d4:Nat):Int)+(d5:Nat):Int)))) hF sizeOf3 O (v:=.int .i64 (min ((1:Int)+min ((d1:Nat):Int) ((d2:Nat):Int):Int) (((d4:Nat):Int)+(d5:Nat):Int))) O O Ed O (by rw [Xf]; simp only [List.length_singleton]; exact Nat.succ_le_of_lt (Rp U U)) (Bg _) ?_
 clear hF; intro w hF hE
 replace hK:=hK.step hE (by simpa using hcbN)
 clear hE
 replace hF:FR w0 (Rows q la.length) [_,(cb,.cells (Mb (((n+1) * (m+1))) (Pf (f) (gi m (x+1) (y+1)) (min ((1:Int)+min ((d1:Nat):Int) ((d2:Nat):Int):Int) (((d4:Nat):Int)+(d5:Nat):Int)))) 3)] w:=hF
 refine Xa (Eb (Ga (Fa (Ca (Va O) (Ca (If (((v+(y+1):Nat):Int)) O O) (Ca (Wb O) (Xa ?_)))))))
 refine Ib ⟨_,?_,y+1,(Pf (f) (gi m (x+1) (y+1)) (min ((1:Int)+min ((d1:Nat):Int) ((d2:Nat):Int):Int) (((d4:Nat):Int)+(d5:Nat):Int))),P,O,U,(Gok.put hG_ U (by rw [hbest])),(Fok.skip hP hr1),(hK),K5,hF⟩
 omega
 refine Da (Da (Da (Ca (Gc O O) (Ea (Ie O ?_)))))
 have hr1:¬(Li fa (u+x)=u∧Li fb (v+y)=v):=by omega
 obtain ⟨d4,hd4⟩:∃ d,d=fd (Fb la fa) (Fb lb fb) u (lu) v (lv):=⟨_,rfl⟩
 obtain ⟨d5,hd5⟩:∃ d,d=td (Fb la fa) (Fb lb fb) (u+x) (v+y):=⟨_,rfl⟩
 have hv4:f (gi m (lu - u) (lv - v))=(d4:Int):=by have h:=hG_.2.1 (lu - u) (lv - v) U U; rw [h,hd4,WC,show u+(lu - u)=lu by omega,show v+(lv - v)=lv by omega]
 have hv5:P (u+x) (v+y)=(d5:Int):=by rw [hP.2 _ _ (fun h=>hr1 h.2.2.2.2),hd5]; exact hP0 _ _ U U U U hr1
 have hm4:d4≤1024:=by rw [hd4]; have:=(Dj (Fb la fa) (Fb lb fb) _ u lu v lv (Nat.le_refl _)).1; omega
 have hm5:d5≤1024:=by rw [hd5]; unfold td; have:=(Dj (Fb la fa) (Fb lb fb) _ (Li fa (u+x)) (u+x+1) (Li fb (v+y)) (v+y+1) (Nat.le_refl _)).1; have e1:(Fb la fa).lf (u+x)=Li fa (u+x):=rfl; have e2:(Fb lb fb).lf (v+y)=Li fb (v+y):=rfl; rw [e1,e2]; omega
 have hbest:=F2 (A:=Fb la fa) (B:=Fb lb fb) (u:=u) (v:=v) (x:=x) (y:=y) (by show u≤Li fa (u+x); omega) (by show v≤Li fb (v+y); omega)
 have e1:(Fb la fa).lf (u+x)=lu:=hlu.symm
 have e2:(Fb lb fb).lf (v+y)=lv:=hlv.symm
 rw [e1,e2,←hd1,←hd2,←hd4,←hd5] at hbest
 refine Uc [] (.free 0 (.free 1 (.free 2 (.free 3 (.free 4 (.free 5 (.free 6 (.free 7 (.free 8 (.free 9 (.free 13 (.free 14 (.free 15 (.free 16 (.free 17 (.free 18 (.free 19 (.free 20 (.free 21 (.free 22 (.act 10 (.free 11 (.free 12 (.free 23 (.free 24 (.free 25 .nil)))))))))))))))))))))))))) hF ?_
 clear hF; intro w hF hE
 replace hK:=hK.ext hE
 clear hE
 refine ⟨fun wq=>FR w0 (Rows q la.length) _ wq∧Rk wq N0 rb pb q la fa lb fb Aa Ba Ab Bb k1 k2 k3 k4 P,⟨hF,hK⟩,?_⟩
 refine Db O (Va O) (Db O (Ue O) (Db O (Va O) (Db O (Va O) (Db O (Fo O O) (Db O (Fo O O) (Db O (Va O) (Db O (Va O) (Db O (Fo O O) (Db O (Fo O O) (Db O (Ue O) (Db O (Gg O) (Db O (Ec Vs O) (Oa O (v:=.slice (some ⟨pb,0,none⟩) la.length la.length) (fun w hC=>Ya isAgg37 O hC.2.c4) ?_)))))))))))))
 refine Db O (Va O) (Oa O (v:=.pointer (some ⟨pb,u+x,none⟩)) (fun w hC=>Gb (i:=((u+x:Nat):Int)) (u+x) Vj O O U U U) (Oa O (v:=.slice (some ⟨q (u+x),0,none⟩) (lb.length) (lb.length)) (fun w hC=>Ya isAgg42 O (hC.2.grid.rowCell U)) (Db O (Va O) (Oa O (v:=.pointer (some ⟨q (u+x),v+y,none⟩)) (fun w hC=>Gb (i:=((v+y:Nat):Int)) (v+y) Nd O O U U U) ?_))))
 refine Oa O (v:=.int .i64 ((d5:Nat))) (fun w hC=>Ya isAgg3 O (by rw [←hv5]; exact hC.2.grid.cell U U)) ?_
 refine Ye O (It _ gb cb n m (lu - u) (lv - v) _ _ U U (hF.heap (i:=0) O) U U U U) (Gd Dt O O O O) ?_
 rintro _ w ⟨rfl,hE⟩
 replace hF:=hF.ext hE
 replace hK:=hK.ext hE
 clear hE
 refine ⟨⟨hF,hK⟩,?_⟩
 refine Db O (Gg O) ?_
 refine Oa O (v:=.int .i64 ((d4:Nat))) (fun w hC=>Ya isAgg3 O (by rw [←hv4]; exact hC.1.intCell 1 O (Rp U U))) ?_
 refine Db O (Sl O O) (Oa O (v:=.int .i64 (min ((1:Int)+min ((d1:Nat):Int) ((d2:Nat):Int):Int) (((d4:Nat):Int)+(d5:Nat):Int))) (fun w hC=>J4 O O) (Db O (Wb O) (Mc (Ga (Fa (Ca (Ue O) (Ca (Va O) (Ca (Va O) ?_))))))))
 refine Pb (It _ gb cb n m (x+1) (y+1) _ _ U U (hF.heap (i:=0) O) U U U U) (Gd Dt O O O O) ?_
 rintro _ w ⟨rfl,hE⟩
 replace hF:=hF.ext hE
 replace hK:=hK.ext hE
 clear hE
 refine Ca (Va O) (Ca (Gg O) ?_)
 refine Me 1 (l:=[.int .i64 (min ((1:Int)+min ((d1:Nat):Int) ((d2:Nat):Int):Int) (((d4:Nat):Int)+(d5:Nat):Int))]) (cs':=Mb (((n+1) * (m+1))) (Pf (f) (gi m (x+1) (y+1)) (min ((1:Int)+min ((d1:Nat):Int) ((d2:Nat):Int):Int) (((d4:Nat):Int)+(d5:Nat):Int)))) hF sizeOf3 O (v:=.int .i64 (min ((1:Int)+min ((d1:Nat):Int) ((d2:Nat):Int):Int) (((d4:Nat):Int)+(d5:Nat):Int))) O O Ed O (by rw [Xf]; simp only [List.length_singleton]; exact Nat.succ_le_of_lt (Rp U U)) (Bg _) ?_
 clear hF; intro w hF hE
 replace hK:=hK.step hE (by simpa using hcbN)
 clear hE
 replace hF:FR w0 (Rows q la.length) [_,(cb,.cells (Mb (((n+1) * (m+1))) (Pf (f) (gi m (x+1) (y+1)) (min ((1:Int)+min ((d1:Nat):Int) ((d2:Nat):Int):Int) (((d4:Nat):Int)+(d5:Nat):Int)))) 3)] w:=hF
 refine Xa (Eb (Ga (Fa (Ca (Va O) (Ca (If (((v+(y+1):Nat):Int)) O O) (Ca (Wb O) (Xa ?_)))))))
 refine Ib ⟨_,?_,y+1,(Pf (f) (gi m (x+1) (y+1)) (min ((1:Int)+min ((d1:Nat):Int) ((d2:Nat):Int):Int) (((d4:Nat):Int)+(d5:Nat):Int))),P,O,U,(Gok.put hG_ U (by rw [hbest])),(Fok.skip hP hr1),(hK),K5,hF⟩
 omega
 refine Dc (Cc O ?_)
 refine Eb (Ga (Fa (Ca (Va O) (Ca (If (((u+(x+1):Nat):Int)) O O) (Ca (Wb O) (Xa ?_))))))
 refine Ib ⟨_,?_,x+1,(f),P,rfl,U,((by obtain rfl:y=m:=U; exact Gok.close hG_)),((by obtain rfl:y=m:=U; exact Fok.next hP)),(hK),BG,hF⟩
 omega
 refine Dc (Cc O ?_)
 refine Ga (Ia (Ca (Ue O) (Ca (I_ O) (Ea ?_))))
 refine Td (v:=.pointer _) O O ?_
 obtain rfl:x=n:=by omega
 exact ⟨gb,cb,f,P,O,hF.heap (i:=0) O,hF.heap (i:=1) O,hD_.2 _ _ (Nat.le_refl _) (Nat.le_refl _),hK,fun i j h=>hP.1 i j h (.inl h.2.1),hP.2,hgs,hcs,hF.same⟩
end Go.Scarf
namespace Go.Scarf
open Go.RowKit Go.Proofs Go.Proofs.Tryz
def Kr (lm:LN) (seen:Array Nat):List Nat:=seen.toList.map fun i=>(lm.getD i (0,0)).2
theorem I2 (lm:LN) (seen:Array Nat) (j:Nat):Kr lm (seen.push j)=Kr lm seen++[(lm.getD j (0,0)).2]:=by simp [Kr]
theorem Yy (lm:LN) (seen:Array Nat):(Kr lm seen).length=seen.size:=by simp [Kr]
theorem AY (lm:LN) (j:Nat) (h:j < (Xm lm).length):(Xm lm)[j].2=.int .i64 (((lm.getD j (0,0)).2:Nat):Int):=by
  rw [Hs] at h
  simp [Xm,List.getD,h]
theorem On {S:Nat→Prop} {wx:World}:∀ {q:List Int},(∀ s∈q,-9223372036854775808≤s∧s≤9223372036854775807)→RepL S wx (q.map Ug) (q.map fun s=>Value.int .i64 s)
  | [],_=>RepL.nil_mk
  | s::q,h=>RepL.cons_mk (Rep.lit_mk (v:=.int .i64 s) (h s Ma)) (On fun x hx=>h x (by simp [hx]))
theorem QS {w0 w:World} {pre post sb:List (Nat × Obj)} {A:Option Addr} {n c:Nat} {zs:List Int} (hn0:n=zs.length) (hS:SlB 3 1 A n c (zs.map (Value.int .i64)) sb) (hF:FR w0 [] (pre++(sb++post)) w) (hl:n≤1000000) :
    Calls prog 129 #[.slice A n c] w (De fun v w'=>v=.tuple #[]∧∃ sb',SlB 3 1 A n c ((zs.mergeSort fun x y=>decide (x≤y)).map (Value.int .i64)) sb'∧FR w0 [] (pre++(sb'++post)) w'):=by
  subst hn0
  rcases hS.2 with ⟨hn,hc,rfl⟩ | ⟨g,cur,rfl,rfl,h1,h2,h3,h4⟩
  · obtain rfl : zs = [] := List.eq_nil_of_length_eq_zero hn
    refine (Go.Proofs.Tryz.slices_Sort_int_none A c w).mono ?_
    rintro e w' ⟨rfl,rfl⟩
    exact ⟨_,O,O,[],by simpa using hS,hF⟩
  · have hb := hF.memHeap (p := (g, .cells cur 3)) Ma
    rw [Nat.mul_one] at h4
    refine (Go.Proofs.Tryz.slices_Sort_int g 0 c zs w (holds_of_blockI hb h4) (Ra hb) U).mono ?_
    rintro e w' ⟨rfl,n,os,rfl⟩
    have hlm:(zs.mergeSort fun x y=>decide (x≤y)).length=zs.length:=List.length_mergeSort _
    have hnew:=heap_sortedI (n:=n) (os:=os) (zs.mergeSort fun x y=>decide (x≤y)).toArray hb
    have hg:=grownBy_sortedI (w:=w) (g:=g) (n:=n) (os:=os) (zs.mergeSort fun x y=>decide (x≤y)).toArray
    have hs:Same [g] w (Go.Sort.grow (Go.Sort.putRow (Value.int .i64) (Go.Sort.ahead w n) g 0 (zs.mergeSort fun x y=>decide (x≤y)).toArray) os):=⟨hg.os,hg.tape,hg.output,hg.size,fun b hb hn=>hg.block b hb (fun e=>hn (by simp at e; simp [e]))⟩
    refine ⟨_,O,O,_,?_,hF.changeMid hs hnew⟩
    refine ⟨by simp [hlm],.inr ⟨g,_,O,O,h1,h2,by simp [Go.Sort.putCells,h3],?_⟩⟩
    rw [Nat.mul_one,←hlm]
    exact take_putCellsI cur _ (by rw [hlm]; omega)
theorem SN (l:LN) (k:Int) (v:Nat):(X9 l k v).length≤l.length+1:=by
  unfold X9
  split
  · rw [List.length_set]; omega
  · simp
theorem Ly {lm:LN} {seen:Array Nat} (hn:seen.toList.Nodup) (hl:∀ i∈seen.toList,i < lm.length):seen.size≤lm.length:=by
  have hp:seen.toList.Perm ((List.range lm.length).filter fun i=>decide (i∈seen.toList)):=Ct hn (List.Pairwise.filter _ List.nodup_range) fun x=>by
    rw [List.mem_filter,List.mem_range,decide_eq_true_eq]
    exact ⟨fun h=>⟨hl x h,h⟩,fun h=>h.2⟩
  have h1:=hp.length_eq
  have h2:=List.length_filter_le (fun i=>decide (i∈seen.toList)) (List.range lm.length)
  rw [List.length_range] at h2
  simp only [Array.length_toList] at h1
  omega
theorem E4 (S:Nat→Prop) (w0:World) (la:List Str) (fa:List Int) (Aa Ba:Option Addr) (ca ea:Nat) (hLa:Rep S w0 (Hf la) [.slice Aa la.length ca]) (hNa:Rep S w0 (.slice (fa.map Ug)) [.slice Ba fa.length ea]) (hR:Xh la fa):Calls prog 101 #[.agg #[.slice Aa la.length ca,.slice Ba fa.length ea]] w0 (De fun v w'=>∃ A c,v=.slice A (Yc fa).length c∧Rep (Btw w0 w') w' (.slice (((Yc fa).map fun i:Nat=>(i:Int)).map Ug)) [.slice A (Yc fa).length c]∧Same [] w0 w'):=by
 have hLla:=hLa.slice_len
 have hNla:=hNa.slice_len
 rw [List.length_map] at hLla hNla
 have hR5:=hR.2.1
 have hRl:=hR.1
 refine Ka func101 O ntmps101 Kb (Sc _) ?_
 have hF:=FR.start w0 []
 refine Ia ?_
 refine Bh hF O ?_
 clear hF; rintro b1 w hb1 hF -
 refine Ca (Sh O) (Ea (Ha (Ia (Tc (Wj isAgg56 sizeOf56 O hF.F 0 O O) ?_))))
 refine Pb (W2 _ _ la fa Aa Ba ca ea (hF.rep hLa) (hF.rep hNa)) (Cb PE O O) ?_
 rintro _ w ⟨b,rfl,hb,hE⟩
 obtain rfl:b=true:=hb.2 hR
 replace hF:=hF.ext hE
 clear hE
 refine Ca (Pn (b:=true) O) (Ea (Qj O (Ia ?_)))
 refine St (v:=fun b=>.map (some b)) (o:=Jl (Xm [])) hF (OA underlying167) ?_
 clear hF; rintro b2 w hb2 hF -
 refine Ca (S1) (Ea (Ha (Ia (Ca (Ec Qd O) (Tc (Mf isAgg42 O hF.F 1 O O) (Ca (Df underlying42 O) (Ca (Va O) (Ea (Ta ?_)))))))))
 refine Lc (fun μ σ w=>∃ (j:Nat),∃ (lm:LN),μ=fa.length - j∧(j≤fa.length)∧(LastOk fa j lm∧lm.length≤j)∧AllEq σ [(3,.map (some b2)),(14,.slice Ba fa.length ea),(15,.int .i64 ((fa.length:Nat))),(16,.int .i64 ((j:Int)))]∧FR w0 [] [(b2,Jl (Xm lm)),(b1,.cells #[.slice Aa la.length ca,.slice Ba fa.length ea] 56)] w) _ ⟨0,[],O,(Nat.zero_le _),(⟨LastOk.nil fa,Nat.le_refl _⟩),Gm,hF⟩ ?_
 clear hF; rintro μ σ w ⟨j,lm,rfl,hj,hlm,hs,hF⟩
 refine Cg.slots hs ?_
 clear hs; intro σ
 refine Ia (Ca (Yg O O) (Ea (Ha ?_)))
 refine Yb O O (fun hc1=>?_) (fun hc1=>?_)
 refine Qa (Ga (Ha (Ta (Ia (Ca (Va O) ?_)))))
 obtain ⟨ad0,hA0,hk0,hx0⟩:=hNa.int_elem (i:=j) U
 refine Ja (v:=.pointer (some (ad0.add (j * 1)))) (Pa (i:=(j:Int)) Nd O hA0 O U U) (Ja (v:=.int .i64 (fa[j])) (Ya isAgg3 O (hF.cell0 hk0)) (Ca (Wb O) (Ca (Wb O) (Ea (Fa (Ca (XC) (Ca (Va O) (Ca (Va O) ?_))))))))
 refine SO 0 (l:=lm) (key:=fa[j]) (v:=j) hF underlying167 underlying3 O O O O ?_
 clear hF; rintro w hF -
 replace hF:FR w0 [] [(b2,Jl (Xm (X9 lm (fa[j]) (j)))),_] w:=hF
 refine Xa (Eb (Ga (Fa (Ca (If (((j+1:Nat):Int)) O O) (Ca (Va O) (Xa ?_))))))
 refine Ib ⟨_,?_,j+1,X9 lm fa[j] j,O,U,(⟨by have:=hlm.1.step; rwa [So U] at this,by have:=SN lm fa[j] j; omega⟩),Gm,hF⟩
 omega
 refine Dc (Cc O ?_)
 refine Ga (Ia (Ca (Sh O) (Ea (Ha (Ha ?_)))))
 have hjn:j=fa.length:=by omega
 rw [hjn] at hlm
 refine Fa (Ca (XC) ?_)
 refine St (v:=fun b=>.pointer (some ⟨b,0,none⟩)) (o:=.mapIter (some b2) ((Xm lm)).length #[] ((Xm lm)).length) hF (QL underlying167 O (hF.heap (i:=0) O)) ?_
 clear hF; rintro b3 w hb3 hF -
 refine Ea (Ta ?_)
 replace hF:FR w0 [] ([(b3,.mapIter (some b2) ((Xm lm)).length #[] ((Xm lm)).length),(b2,Jl (Xm lm)),(b1,.cells #[.slice Aa la.length ca,.slice Ba fa.length ea] 56)]++([]++[])) w:=hF
 refine Lc (fun μ σ w=>∃ (seen:Array Nat),∃ (A:Option Addr),∃ (c:Nat),∃ (sb:List (Nat × Obj)),μ=Y7 (Xm lm).length seen∧(seen.toList.Nodup)∧(∀ i∈seen.toList,i < lm.length)∧(SlB 3 1 A (Kr lm seen).length c (CK (Kr lm seen)) sb)∧AllEq σ [(6,.slice (A) ((Kr lm seen).length) (c)),(26,.pointer (some ⟨b3,0,none⟩))]∧FR w0 [] ([(b3,.mapIter (some b2) (Xm lm).length (seen) (Xm lm).length),(b2,Jl (Xm lm)),(b1,.cells #[.slice Aa la.length ca,.slice Ba fa.length ea] 56)]++(sb++[])) w) _ ⟨#[],none,0,[],O,Ma,Ma,(SlB.nil _ _),Iw,hF⟩ ?_
 clear hF; rintro μ σ w ⟨seen,A,c,sb,rfl,hsn,hsl,hS,hs,hF⟩
 refine Cg.slots hs ?_
 clear hs; intro σ
 refine Ia ?_
 refine ET 0 (b:=b2) (l:=(Xm lm)) (seen:=seen) hF O O (hF.heap (i:=1) O) (fun hall=>?_) (fun q w hq hn hF2 hE _=>?_)
 refine Ca (Ss O O) (Ea (Ha (Ie O ?_)))
 refine Dc (Cc O ?_)
 refine Ga (Ia (Ca (Yd O) ?_))
 refine Pb (QS (pre:=[(b3,.mapIter (some b2) (Xm lm).length (seen) (Xm lm).length),(b2,Jl (Xm lm)),(b1,.cells #[.slice Aa la.length ca,.slice Ba fa.length ea] 56)]) (post:=[]) (zs:=(Kr lm seen).map fun i:Nat=>(i:Int)) Ma (by have h:=hS; unfold CK at h; rw [List.map_map]; exact h) hF (by have:=Ly hsn hsl; have:=hlm.2; rw [Yy]; omega)) (Cb UV O O) ?_
 rintro _ w ⟨rfl,sb2,hS2,hF⟩
 refine Bc (Ca (Yd O) (Ca (Sh O) (Ea ?_)))
 refine Td (v:=.slice _ _ _) O O ?_
 have hp:=KK hsn hsl (fun i hi=>by have:=hall i (by rw [Hs]; exact hi); rw [←Array.contains_toList] at this; exact List.contains_iff_mem.1 this)
 have hk:=XA (hp.trans hlm.1.perm)
 have hk2:(((Kr lm seen).map fun i:Nat=>(i:Int)).mergeSort fun x y=>decide (x≤y))=(Yc fa).map fun i:Nat=>(i:Int):=hk
 rw [hk2] at hS2
 have hlen:(Kr lm seen).length=(Yc fa).length:=(hp.trans hlm.1.perm).length_eq
 rw [hlen] at hS2 ⊢
 refine ⟨_,_,O,?_,hF.same⟩
 have hK:RX w0 [] w (((Yc fa).map fun i:Nat=>(i:Int)).map Ug) _:=On (fun s hs=>by obtain ⟨i,hi,rfl⟩:=List.mem_map.1 hs; have:=(Pi.1 hi).1; have:=hR.1; have:=hR.2.1; omega)
 exact hS2.rep (pre:=[_,_,_]) (post:=[]) hF hK Ma
 clear hF
 have hF:FR w0 [] ([(b3,.mapIter (some b2) ((Xm lm)).length ((seen).push q) ((Xm lm)).length),(b2,Jl (Xm lm)),(b1,.cells #[.slice Aa la.length ca,.slice Ba fa.length ea] 56)]++(sb++[])) w:=hF2
 clear hE hF2
 refine Ca (Ss O O) (Ea (Ha (Ae O (Qa (Ga (Ta (Ia (Ja (v:=.tuple #[.int .i64 ((Xm lm)[q].1),.int .i64 (((lm.getD q (0,0)).2:Nat))]) (AM O hq (hF.heap (i:=0) O) (hF.heap (i:=1) O) (AY lm q hq)) (Ca (Fm O O) (Ca (Wb O) (Xa ?_)))))))))))
 refine Ga (Fa (Ca (Yd O) (Ca (Va O) ?_)))
 refine Pe 1 hF (Za (cs:=#[.int .i64 (((lm.getD q (0,0)).2:Nat))]) underlying42 sizeOf3 zeroValue3 Ua Ua Qb) ?_
 clear hF; rintro b4 w hb4 hF -
 refine Kf [(b4,.cells #[.int .i64 (((lm.getD q (0,0)).2:Nat))] 3),(b3,.mapIter (some b2) ((Xm lm)).length ((seen).push q) ((Xm lm)).length),(b2,Jl (Xm lm)),(b1,.cells #[.slice Aa la.length ca,.slice Ba fa.length ea] 56)] [] (news:=[.int .i64 (((lm.getD q (0,0)).2:Nat))]) (len':=(Kr lm (seen.push q)).length) (ys:=CK (Kr lm (seen.push q))) Wh hF hS O O (O) (fun _=>⟨_,O,Xb (hF.cellsAll 0 O)⟩) (by simp [Value.oneCell']) (by have:=Ly hsn hsl; simp only [maxLen,Yy]; omega) (by simp [I2]) (by simp [CK,I2]) (by have:=Ly hsn hsl; simp only [Yy]; omega) ?_
 clear hF; intro A1 c1 o_1 w hS1_o hF hE hnew
 clear hE hnew
 refine Ca (Sh O) (Xa (Eb ?_))
 refine Ib ⟨_,?_,seen.push q,A1,c1,o_1,rfl,(by rw [Array.toList_push,List.nodup_append]; exact ⟨hsn,by simp,fun a ha b hb e=>by simp only [List.mem_singleton] at hb; subst hb; subst e; rw [←Array.contains_toList] at hn; exact absurd (List.contains_iff_mem.2 ha) (by rw [hn]; simp)⟩),(by intro i hi; rw [Array.toList_push,List.mem_append,List.mem_singleton] at hi; rcases hi with hi | rfl; exact hsl i hi; rw [←Hs]; exact hq),(hS1_o),Iw,hF.drop 1⟩
 exact VB hq hn
end Go.Scarf
namespace Go.Scarf
open Go.RowKit Go.Proofs Go.Proofs.Tryz
def Xn (n m i:Nat) (q:Nat→Nat):Array Value:=((List.range n).map fun k=>if k < i then Value.slice (some ⟨q k,0,none⟩) m m else Value.slice none 0 0).toArray
theorem EE (n m i:Nat) (q:Nat→Nat):(Xn n m i q).size=n:=by simp [Xn]
theorem SD (n m:Nat) (q:Nat→Nat):(List.replicate n (Value.slice none 0 0)).toArray=Xn n m 0 q:=by
  apply Array.ext
  · simp [Xn]
  · intro i h1 h2; simp [Xn]
def Vg (q:Nat→Nat) (i b:Nat):Nat→Nat:=fun k=>if k=i then b else q k
theorem UI {n m i b:Nat} {q:Nat→Nat} (hi:i < n):Ok (Xn n m i q) i [.slice (some ⟨b,0,none⟩) m m]=Xn n m (i+1) (Vg q i b):=by
  rw [Ok,Ok]
  apply Array.ext
  · simp [Xn]
  · intro k h1 h2
    rw [Array.getElem_setIfInBounds (by simpa using h1)]
    by_cases e:i=k
    · subst e; simp [Xn,Vg]
    · have e' : ¬ k = i := fun h => e h.symm
      rw [if_neg e]
      by_cases hk:k < i
      · simp [Xn,Vg,hk,e',show k < i+1 by omega]
      · simp [Xn,Vg,hk,e',show ¬k < i+1 by omega]
theorem OE (n m:Nat) (q:Nat→Nat):Xn n m n q=((List.range n).map fun i=>Value.slice (some ⟨q i,0,none⟩) m m).toArray:=by
  unfold Xn
  congr 1
  exact List.map_congr_left fun k hk=>by rw [if_pos (List.mem_range.1 hk)]
theorem FR.new_ids {w0 w:World} {Ds:List Nat} {bs_:List (Nat × Obj)} {b:Nat} {o:Obj} (hF:FR w0 Ds ((b,o)::bs_) w):b∉bs_.map (·.1):=fun h=>by
  obtain ⟨z,hz,e⟩:=List.mem_map.1 h
  exact (List.pairwise_cons.1 hF.desc).1 z hz e
structure RowsOk (w0 w:World) (i m:Nat) (q:Nat→Nat) (ids:List Nat):Prop where
  row:∀ k,k < i→w.heap[q k]? = some (.cells (Mb m fun _=>0) 3)
  inj:∀ k l,k < i→l < i→q k=q l→k=l
  new:∀ k,k < i→w0.heap.size≤q k∧q k∉ids
theorem RowsOk.step {w0 w w':World} {i m:Nat} {q:Nat→Nat} {ids E:List Nat} (h:RowsOk w0 w i m q ids) (hs:Same E w w') (he:∀ b∈E,b∈ids):RowsOk w0 w' i m q ids :=
  ⟨fun k hk=>(hs.block _ (Ra (h.row k hk)) (fun hm=>(h.new k hk).2 (he _ hm))).trans (h.row k hk),h.inj,h.new⟩
theorem RowsOk.put {w0 w:World} {i m b:Nat} {q:Nat→Nat} {ids:List Nat} (h:RowsOk w0 w i m q ids) (hb:w.heap[b]? = some (.cells (Mb m fun _=>0) 3)) (h1:w0.heap.size≤b) (h2:b∉ids) (h3:∀ k,k < i→q k≠b):RowsOk w0 w (i+1) m (Vg q i b) ids:=by
  have e:∀ k,Vg q i b k=if k=i then b else q k:=fun _=>rfl
  refine ⟨fun k hk=>?_,fun k l hk hl he=>?_,fun k hk=>?_⟩
  · rw [e]; split
    · exact hb
    · exact h.row k U
  · rw [e, e] at he
    split at he <;> split at he
    · omega
    · exact absurd he.symm (h3 l U)
    · exact absurd he (h3 k U)
    · exact h.inj k l U U he
  · rw [e]; split
    · exact ⟨h1,h2⟩
    · exact h.new k U
theorem V2 (fs:List Int):(Yc fs).length≤fs.length:=by
  have:=List.length_filter_le (fun i=>QN fs i) (List.range fs.length)
  rwa [List.length_range] at this
theorem NC {fs:List Int} (h:lfOk fs fs.length) {k x:Nat} (hk:k∈Yc fs) (hx:x < fs.length) (e:Li fs x=Li fs k):Li fs k≤x∧x≤k:=by
  obtain ⟨h1,h2⟩:=Pi.1 hk
  have e1:=h.at h1 h1
  have e2:=h.at hx hx
  refine ⟨by rw [←e]; exact Nat.min_le_right _ _,?_⟩
  refine Classical.byContradiction fun hn=>h2 x hx U ?_
  rw [So hx,So h1]
  omega
theorem E8 (S S':Nat→Prop) (w0:World) (la:List Str) (fa:List Int) (Aa Ba:Option Addr) (ca ea:Nat) (hLa:Rep S w0 (Hf la) [.slice Aa la.length ca]) (hNa:Rep S w0 (.slice (fa.map Ug)) [.slice Ba fa.length ea]) (lb:List Str) (fb:List Int) (Ab Bb:Option Addr) (cb eb:Nat) (hLb:Rep S' w0 (Hf lb) [.slice Ab lb.length cb]) (hNb:Rep S' w0 (.slice (fb.map Ug)) [.slice Bb fb.length eb]) (hRa:Xh la fa) (hRb:Xh lb fb):Calls prog 74 #[.agg #[.slice Aa la.length ca,.slice Ba fa.length ea],.agg #[.slice Ab lb.length cb,.slice Bb fb.length eb]] w0 (De fun v w'=>∃ (N0 rb pb:Nat) (q:Nat→Nat) (P:Nat→Nat→Int),v=.tuple #[.pointer (some ⟨rb,0,none⟩),.bool true]∧Rk w' N0 rb pb q la fa lb fb Aa Ba Ab Bb ca ea cb eb P∧(∀ x y,x < la.length→y < lb.length→P x y=((td (Fb la fa) (Fb lb fb) x y:Nat):Int))∧N0≤w'.heap.size∧(∀ i,i < la.length→w0.heap.size≤q i)∧Same [] w0 w'):=by
 have hLla:=hLa.slice_len
 have hNla:=hNa.slice_len
 rw [List.length_map] at hLla hNla
 have hLlb:=hLb.slice_len
 have hNlb:=hNb.slice_len
 rw [List.length_map] at hLlb hNlb
 have hR1:=hRa.1
 have hR2:=hRa.2.1
 have hR3:=hRb.1
 have hR4:=hRb.2.1
 have hkl1:=V2 fa
 have hkl2:=V2 fb
 refine Ka func74 O ntmps74 Kb (Ee _ _) ?_
 have hF:=FR.start w0 []
 refine Ia ?_
 refine Bh hF O ?_
 clear hF; rintro b1 w hb1 hF -
 refine Bh hF O ?_
 clear hF; rintro b2 w hb2 hF -
 refine Ca (I_ O) (Ca (Hc O) (Ea (Ha (Ia (Tc (Wj isAgg56 sizeOf56 O hF.F 1 O O) ?_)))))
 refine Pb (W2 _ _ la fa Aa Ba ca ea (hF.rep hLa) (hF.rep hNa)) (Cb PE O O) ?_
 rintro _ w ⟨b,rfl,hb,hE⟩
 obtain rfl:b=true:=hb.2 hRa
 replace hF:=hF.ext hE
 clear hE
 refine Ca (Pn (b:=true) O) (Ca (Jc O) (Tc (Wj isAgg56 sizeOf56 O hF.F 0 O O) ?_))
 refine Pb (W2 _ _ lb fb Ab Bb cb eb (hF.rep hLb) (hF.rep hNb)) (Cb PE O O) ?_
 rintro _ w ⟨b,rfl,hb,hE⟩
 obtain rfl:b=true:=hb.2 hRb
 replace hF:=hF.ext hE
 clear hE
 refine Ca (Pn (b:=true) O) (Ca (Gc O O) (Ea (Qj O (Ha ?_))))
 refine Ff (zs:=[]) (.free 0 (.free 1 (.free 2 (.free 3 (.free 4 (.act 5 (.free 6 (.act 7 (.free 8 .nil))))))))) hF ?_
 clear hF; intro w hF
 refine Uk O (Wj isAgg56 sizeOf56 O C0 1 O O) (Uk O (Wj isAgg56 sizeOf56 O C0 0 O O) (Db O (Ec Xc O) (Uk O (Mf isAgg25 O C0 1 O O) (Db O (Df underlying25 O) ?_))))
 refine Cm O (v:=fun b=>.slice (some ⟨b,0,none⟩) la.length la.length) (o:=.cells (List.replicate (la.length) (.slice none 0 0)).toArray 42) hF (Qw (z:=.slice none 0 0) Zk Qb O O O U Ua) ?_
 clear hF; rintro b3 w hb3 hF -
 refine ⟨hF.drop 1,?_⟩
 refine Oa O (v:=.agg #[.slice Aa la.length ca,.slice Ba fa.length ea,.slice Ab lb.length cb,.slice Bb fb.length eb,.slice (some ⟨b3,0,none⟩) la.length la.length]) (fun w hC=>by kernel_rfl) ?_
 refine Cm O (v:=fun b=>.pointer (some ⟨b,0,none⟩)) (o:=.cells #[.slice Aa la.length ca,.slice Ba fa.length ea,.slice Ab lb.length cb,.slice Bb fb.length eb,.slice (some ⟨b3,0,none⟩) la.length la.length] 134) hF (BI (v:=.agg #[.slice Aa la.length ca,.slice Ba fa.length ea,.slice Ab lb.length cb,.slice Bb fb.length eb,.slice (some ⟨b3,0,none⟩) la.length la.length]) O) ?_
 clear hF; rintro b4 w hb4 hF -
 refine ⟨hF.drop 2,?_⟩
 refine Db O (I_ O) (Mc (Ga (Ha (Ha ?_))))
 rw [SD la.length lb.length (fun _=>0)] at hF
 have hW:RowsOk w0 w 0 lb.length (fun _=>0) [b4,b3,b2,b1]:=⟨fun k hk=>absurd hk U,fun k l hk=>absurd hk U,fun k hk=>absurd hk U⟩
 refine Fa (Ca (Ue O) (Ca (Gg O) (Ca (Ec Vs O) (Tc (Mf isAgg37 O hF.F 0 O O) (Ca (Df underlying37 O) (Ca (Va O) (Ea (Ta ?_))))))))
 refine Lc (fun μ σ w=>∃ (i:Nat),∃ (q:Nat→Nat),μ=la.length - i∧(i≤la.length)∧(RowsOk w0 w i lb.length q [b4,b3,b2,b1])∧AllEq σ [(2,.pointer (some ⟨b1,0,none⟩)),(3,.pointer (some ⟨b2,0,none⟩)),(6,.pointer (some ⟨b4,0,none⟩)),(32,.int .i64 ((la.length:Nat))),(33,.int .i64 ((i:Int)))]∧FR w0 [] [(b4,.cells #[.slice Aa la.length ca,.slice Ba fa.length ea,.slice Ab lb.length cb,.slice Bb fb.length eb,.slice (some ⟨b3,0,none⟩) la.length la.length] 134),(b3,.cells (Xn la.length lb.length (i) q) 42),(b2,.cells #[.slice Ab lb.length cb,.slice Bb fb.length eb] 56),(b1,.cells #[.slice Aa la.length ca,.slice Ba fa.length ea] 56)] w) _ ⟨0,fun _=>0,O,(Nat.zero_le _),(hW),Am,hF⟩ ?_
 clear hF; rintro μ σ w ⟨i,q,rfl,hi,hW,hs,hF⟩
 refine Cg.slots hs ?_
 clear hs; intro σ
 refine Ia (Ca (Yg O O) (Ea (Ha ?_)))
 refine Yb O O (fun hc1=>?_) (fun hc1=>?_)
 refine Qa (Ga (Ha (Ta (Ia (Ca (Va O) (Ca (Wb O) (Ea ?_)))))))
 refine Uc [10] (.free 0 (.free 1 (.free 2 (.free 3 (.free 4 (.free 5 (.free 6 (.free 7 (.act 8 (.free 9 (.act 10 .nil))))))))))) hF ?_
 clear hF; intro w hF hE
 replace hW:=hW.step hE Ma
 clear hE
 refine ⟨fun wq=>FR w0 [] [(b4,.cells #[.slice Aa la.length ca,.slice Ba fa.length ea,.slice Ab lb.length cb,.slice Bb fb.length eb,.slice (some ⟨b3,0,none⟩) la.length la.length] 134),(b2,.cells #[.slice Ab lb.length cb,.slice Bb fb.length eb] 56),(b1,.cells #[.slice Aa la.length ca,.slice Ba fa.length ea] 56)] wq,hF.sub (.cons_cons _ (.cons _ (.cons_cons _ (.cons_cons _ .slnil)))),?_⟩
 refine Db O (Ue O) (Db O (Gg O) (Db O (Ec Vs O) (Uk O (Mf isAgg37 O C0 0 O O) (Db O (Va O) (Db O (Ec Xc O) (Uk O (Mf isAgg25 O C0 1 O O) (Db O (Df underlying25 O) ?_)))))))
 refine Cm O (v:=fun b=>.slice (some ⟨b,0,none⟩) lb.length lb.length) (o:=.cells (Mb (lb.length) fun _=>0) 3) hF (Mj Wh Qb O O U) ?_
 clear hF; intro b5 w hb5 hF hE
 have hq5:∀ k,k < i→q k≠b5:=fun k hk e=>by have h1:=Ra (hW.row k hk); omega
 replace hW:=hW.step hE Ma
 clear hE
 refine ⟨hF.sub (.cons _ (.cons_cons _ (.cons _ (.cons_cons _ (.cons_cons _ .slnil))))),?_⟩
 refine Oa O (v:=.pointer (some ⟨b3,i,none⟩)) (fun w hC=>Gb (i:=((i:Nat):Int)) (i) Vj O O U U U) ?_
 refine Ad O 2 (l:=[.slice (some ⟨b5,0,none⟩) lb.length lb.length]) (cs':=Xn la.length lb.length (i+1) (Vg q i b5)) hF sizeOf42 O O O Ed O (by rw [EE]; simp only [List.length_singleton]; omega) (UI U) ?_
 clear hF; intro w hF hE
 replace hW:=hW.step hE Ma
 clear hE
 refine Mc (Eb (Ga (Fa (Ca (If (((i+1:Nat):Int)) O O) (Ca (Va O) (Xa ?_))))))
 refine Ib ⟨_,?_,i+1,Vg q i b5,O,U,(hW.put (hF.heap (i:=0) O) (hF.ge (i:=0) O) (show b5∉[b4,b3,b2,b1] from FR.new_ids hF) (fun k hk e=>hq5 k hk e)),Am,hF.drop 1⟩
 omega
 refine Dc (Cc O ?_)
 refine Ga (Ha (Ha ?_))
 obtain rfl:i=la.length:=by omega
 obtain ⟨N0,hN0⟩:∃ N,N=w.heap.size:=⟨_,rfl⟩
 have hNw:N0≤w.heap.size:=Nat.le_of_eq hN0
 have hb34:b4≠b3:=by have:=(List.pairwise_cons.1 hF.desc).1 _ (List.mem_cons_self ..); exact fun e=>this e.symm
 have hsk:∀ b,b < w0.heap.size→Sk N0 la.length q b:=fun b hb=>⟨by have:=hF.same.size; omega,fun i hi e=>by have:=(hW.new i hi).1; omega⟩
 have hlt3:=hF.lt (i:=1) rfl
 have hlt4:=hF.lt (i:=0) rfl
 have hK:Rk w N0 b4 b3 q la fa lb fb Aa Ba Ab Bb ca ea cb eb (fun _ _=>0):=⟨hF.heap (i:=0) rfl,(hF.rep hLa.old).weaken (fun b hb _=>hsk b hb.2),(hF.rep hNa.old).weaken (fun b hb _=>hsk b hb.2),(hF.rep hLb.old).weaken (fun b hb _=>hsk b hb.2),(hF.rep hNb.old).weaken (fun b hb _=>hsk b hb.2),⟨by rw [←OE]; exact hF.heap (i:=1) rfl,hW.row,hW.inj,fun i hi e=>(hW.new i hi).2 (by simp [e])⟩,⟨by omega,by omega,fun i hi=>by rw [hN0]; exact Ra (hW.row i hi)⟩,fun i hi e=>(hW.new i hi).2 (by simp [e])⟩
 have hqn:=hW.new
 refine Fa (Tc (Wj isAgg56 sizeOf56 O hF.F 3 O O) ?_)
 refine Pb (E4 _ _ la fa Aa Ba ca ea (hF.rep hLa) (hF.rep hNa) hRa) (Cb UL O O) ?_
 rintro _ w ⟨Ak,ck,rfl,hk_,hE⟩
 have hKa:Rep (fun b=>N0≤b) w (.slice (((Yc fa).map fun i:Nat=>(i:Int)).map Ug)) [.slice Ak (Yc fa).length ck]:=hk_.weaken fun b hb _=>Nat.le_trans hNw hb.1
 replace hF:=hF.ext hE
 replace hK:=hK.ext hE
 replace hNw:=Nat.le_trans hNw hE.size
 clear hE hk_
 refine Ca (Df underlying42 O) (Ca (Va O) (Ea (Ta ?_)))
 refine Lc (fun μ σ w=>∃ (s:Nat),∃ (P:Nat→Nat→Int),μ=(Yc fa).length - s∧(s≤(Yc fa).length)∧(Rk w N0 b4 b3 q la fa lb fb Aa Ba Ab Bb ca ea cb eb P)∧(∀ x y,x < fa.length→y < fb.length→Zw fa fb (s) (0) x y→P x y=((td (Fb la fa) (Fb lb fb) x y:Nat):Int))∧(Rep (fun b=>N0≤b) w (.slice (((Yc fa).map fun i:Nat=>(i:Int)).map Ug)) [.slice Ak (Yc fa).length ck])∧(N0≤w.heap.size)∧AllEq σ [(2,.pointer (some ⟨b1,0,none⟩)),(3,.pointer (some ⟨b2,0,none⟩)),(6,.pointer (some ⟨b4,0,none⟩)),(48,.slice (Ak) ((Yc fa).length) (ck)),(49,.int .i64 (((Yc fa).length:Nat))),(50,.int .i64 ((s:Int)))]∧FR w0 [] [(b4,.cells #[.slice Aa la.length ca,.slice Ba fa.length ea,.slice Ab lb.length cb,.slice Bb fb.length eb,.slice (some ⟨b3,0,none⟩) la.length la.length] 134),(b3,.cells (Xn la.length lb.length (la.length) q) 42),(b2,.cells #[.slice Ab lb.length cb,.slice Bb fb.length eb] 56),(b1,.cells #[.slice Aa la.length ca,.slice Ba fa.length ea] 56)] w) _ ⟨0,fun _ _=>0,O,(Nat.zero_le _),(hK),(fun x y hx hy h=>absurd h WD),(hKa),(hNw),Iu,hF⟩ ?_
 clear hF; rintro μ σ w ⟨s,P,rfl,hs_,hK,hkn,hKa,hNw,hs,hF⟩
 refine Cg.slots hs ?_
 clear hs; intro σ
 refine Ia (Ca (Yg O O) (Ea (Ha ?_)))
 refine Yb O O (fun hc2=>?_) (fun hc2=>?_)
 refine Qa (Ga (Ha (Ta (Ha ?_))))
 obtain ⟨k,hkk⟩:∃ z,z=(Yc fa)[s]:=⟨_,rfl⟩
 refine Fa ?_
 obtain ⟨ad0,hA0,hk0,hx0⟩:=hKa.int_elem (i:=s) (by simp only [List.length_map]; omega)
 rw [List.getElem_map,←hkk] at hk0
 refine Ja (v:=.pointer (some (ad0.add (s * 1)))) (Pa (i:=(s:Int)) Nd O hA0 O U U) (Ja (v:=.int .i64 ((k:Nat))) (Ya isAgg3 O hk0) (Ca (Wb O) (Bc (Tc (Wj isAgg56 sizeOf56 O hF.F 2 O O) ?_))))
 refine Pb (E4 _ _ lb fb Ab Bb cb eb (hF.rep hLb) (hF.rep hNb) hRb) (Cb UL O O) ?_
 rintro _ w ⟨Al,cl,rfl,hk_,hE⟩
 have hKb:Rep (fun b=>N0≤b) w (.slice (((Yc fb).map fun i:Nat=>(i:Int)).map Ug)) [.slice Al (Yc fb).length cl]:=hk_.weaken fun b hb _=>Nat.le_trans hNw hb.1
 replace hF:=hF.ext hE
 replace hK:=hK.ext hE
 replace hKa:=hKa.ext hE
 replace hNw:=Nat.le_trans hNw hE.size
 clear hE hk_
 refine Ca (Df underlying42 O) (Ca (Va O) (Ea (Ta ?_)))
 refine Lc (fun μ σ w=>∃ (t:Nat),∃ (P:Nat→Nat→Int),μ=(Yc fb).length - t∧(t≤(Yc fb).length)∧(Rk w N0 b4 b3 q la fa lb fb Aa Ba Ab Bb ca ea cb eb P)∧(∀ x y,x < fa.length→y < fb.length→Zw fa fb (s) (t) x y→P x y=((td (Fb la fa) (Fb lb fb) x y:Nat):Int))∧(Rep (fun b=>N0≤b) w (.slice (((Yc fa).map fun i:Nat=>(i:Int)).map Ug)) [.slice Ak (Yc fa).length ck])∧(Rep (fun b=>N0≤b) w (.slice (((Yc fb).map fun i:Nat=>(i:Int)).map Ug)) [.slice Al (Yc fb).length cl])∧(N0≤w.heap.size)∧AllEq σ [(2,.pointer (some ⟨b1,0,none⟩)),(3,.pointer (some ⟨b2,0,none⟩)),(6,.pointer (some ⟨b4,0,none⟩)),(9,.int .i64 ((k:Nat))),(48,.slice (Ak) ((Yc fa).length) (ck)),(49,.int .i64 (((Yc fa).length:Nat))),(50,.int .i64 ((s:Int))),(55,.slice (Al) ((Yc fb).length) (cl)),(56,.int .i64 (((Yc fb).length:Nat))),(57,.int .i64 ((t:Int)))]∧FR w0 [] [(b4,.cells #[.slice Aa la.length ca,.slice Ba fa.length ea,.slice Ab lb.length cb,.slice Bb fb.length eb,.slice (some ⟨b3,0,none⟩) la.length la.length] 134),(b3,.cells (Xn la.length lb.length (la.length) q) 42),(b2,.cells #[.slice Ab lb.length cb,.slice Bb fb.length eb] 56),(b1,.cells #[.slice Aa la.length ca,.slice Ba fa.length ea] 56)] w) _ ⟨0,P,O,(Nat.zero_le _),(hK),(hkn),(hKa),(hKb),(hNw),⟨O,O,O,O,O,O,O,O,O,O,trivial⟩,hF⟩ ?_
 clear hF; rintro μ σ w ⟨t,P,rfl,ht_,hK,hkn,hKa,hKb,hNw,hs,hF⟩
 refine Cg.slots hs ?_
 clear hs; intro σ
 refine Ia (Ca (Yg O O) (Ea (Ha ?_)))
 refine Yb O O (fun hc3=>?_) (fun hc3=>?_)
 refine Qa (Ga (Ha (Ta (Ha ?_))))
 obtain ⟨l,hll⟩:∃ z,z=(Yc fb)[t]:=⟨_,rfl⟩
 refine Fa ?_
 obtain ⟨ad1,hA1,hk1,hx1⟩:=hKb.int_elem (i:=t) (by simp only [List.length_map]; omega)
 rw [List.getElem_map,←hll] at hk1
 refine Ja (v:=.pointer (some (ad1.add (t * 1)))) (Pa (i:=(t:Int)) Nd O hA1 O U U) (Ja (v:=.int .i64 ((l:Nat))) (Ya isAgg3 O hk1) (Ca (Wb O) (Ea ?_)))
 have hk_lt:=(Pi.1 (List.getElem_mem (l:=Yc fa) (n:=s) U)).1
 have hl_lt:=(Pi.1 (List.getElem_mem (l:=Yc fb) (n:=t) U)).1
 rw [←hkk] at hk_lt
 rw [←hll] at hl_lt
 obtain ⟨u,hu⟩:∃ z,z=Li fa k:=⟨_,rfl⟩
 obtain ⟨v,hv⟩:∃ z,z=Li fb l:=⟨_,rfl⟩
 have hfu:(u:Int)=fa[k]:=by rw [hu]; exact hRa.2.2.at hk_lt hk_lt
 have hfv:(v:Int)=fb[l]:=by rw [hv]; exact hRb.2.2.at hl_lt hl_lt
 have huk:u≤k:=by rw [hu]; exact Nat.min_le_right _ _
 have hvl:v≤l:=by rw [hv]; exact Nat.min_le_right _ _
 obtain ⟨n,hn⟩:∃ z,z=k+1 - u:=⟨_,rfl⟩
 obtain ⟨m,hm⟩:∃ z,z=l+1 - v:=⟨_,rfl⟩
 have hca:∀ i,u≤i→i < u+n→u≤Li fa i:=fun i h1 h2=>by by_cases e:i=k; (subst e; omega); (have:=hRa.2.2.nest (Nat.le_refl _) la k hk_lt i (by show Li fa k≤i; omega) U; have e1:(Fb la fa).lf k=Li fa k:=rfl; have e2:(Fb la fa).lf i=Li fa i:=rfl; omega)
 have hcb:∀ j,v≤j→j < v+m→v≤Li fb j:=fun i h1 h2=>by by_cases e:i=l; (subst e; omega); (have:=hRb.2.2.nest (Nat.le_refl _) lb l hl_lt i (by show Li fb l≤i; omega) U; have e1:(Fb lb fb).lf l=Li fb l:=rfl; have e2:(Fb lb fb).lf i=Li fb i:=rfl; omega)
 have hP0:∀ i j,u≤i→i < u+n→v≤j→j < v+m→¬(Li fa i=u∧Li fb j=v)→P i j=((td (Fb la fa) (Fb lb fb) i j:Nat):Int):=fun i j h1 h2 h3 h4 hne=>hkn i j U U (GB hRa.2.2 hRb.2.2 (u:=s) (v:=t) U U (by rw [←hkk,←hu]; exact h1) (by rw [←hkk]; omega) (by rw [←hll,←hv]; exact h3) (by rw [←hll]; omega) (by rw [←hkk,←hll,←hu,←hv]; exact hne))
 refine Uc [] (.free 0 (.free 1 (.free 2 (.free 3 (.free 4 (.free 5 (.free 6 (.free 7 (.free 8 (.free 9 (.free 10 (.free 11 (.free 12 (.free 13 (.free 14 (.act 15 .nil)))))))))))))))) hF ?_
 clear hF; intro w hF hE
 replace hK:=hK.ext hE
 replace hKa:=hKa.ext hE
 replace hKb:=hKb.ext hE
 replace hNw:=Nat.le_trans hNw hE.size
 clear hE
 refine ⟨fun wq=>FR w0 [] _ wq,hF,?_⟩
 refine Db O (Ue O) (Db O (Ec Qd O) (Uk O (Mf isAgg42 O C0 3 O O) (Db O (Va O) ?_)))
 obtain ⟨ad2,hA2,hk2,hx2⟩:=hNa.int_elem (i:=k) U
 rw [←hfu] at hk2
 refine Oa O (v:=.pointer (some (ad2.add (k * 1)))) (fun w hC=>Pa (i:=(k:Nat)) Nd O hA2 O U U) (Oa O (v:=.int .i64 ((u:Nat))) (fun w hC=>Ya isAgg3 O (hC.cell0 hk2)) (Db O (Va O) (Db O (If (((u+n:Nat):Int)) O O) (Db O (Ec Qd O) (Uk O (Mf isAgg42 O C0 2 O O) (Db O (Va O) ?_))))))
 obtain ⟨ad3,hA3,hk3,hx3⟩:=hNb.int_elem (i:=l) U
 rw [←hfv] at hk3
 refine Oa O (v:=.pointer (some (ad3.add (l * 1)))) (fun w hC=>Pa (i:=(l:Nat)) Nd O hA3 O U U) (Oa O (v:=.int .i64 ((v:Nat))) (fun w hC=>Ya isAgg3 O (hC.cell0 hk3)) (Db O (Va O) (Db O (If (((v+m:Nat):Int)) O O) ?_)))
 refine Ye O (JB _ N0 b4 b3 q la fa lb fb Aa Ba Ab Bb ca ea cb eb P hK u n v m hNw U U U U hRa.2.2 hRb.2.2 U U hca hcb hP0) (Tn TU O O O O O O) ?_
 rintro _ w ⟨gb,gc,f,P',rfl,-,-,-,hK',hPr,hPo,-,-,hE⟩
 have hrw:∀ b∈Rows q la.length,¬N0≤b:=fun b hb h=>by obtain ⟨i,hi,rfl⟩:=Ml.1 hb; have:=hK.lt.2.2 i hi; omega
 replace hF:=hF.touch hE (fun b hb=>by obtain ⟨i,hi,rfl⟩:=Ml.1 hb; refine ⟨fun h=>absurd (hqn i hi).1 U,fun z hz e=>(hqn i hi).2 ?_⟩; rw [←e]; simp only [List.mem_cons,List.not_mem_nil,or_false] at hz; rcases hz with rfl | rfl | rfl | rfl <;> simp)
 replace hKa:=hKa.same hE hrw
 replace hKb:=hKb.same hE hrw
 replace hNw:=Nat.le_trans hNw hE.size
 clear hK
 have hK:=hK'
 clear hE hK'
 refine ⟨hF,?_⟩
 refine Mc (Eb (Ga (Fa (Ca (If (((t+1:Nat):Int)) O O) (Ca (Va O) (Xa ?_))))))
 refine Ib ⟨_,?_,t+1,P',rfl,U,(hK),(fun x y hx hy hxy=>by (by_cases hr:Rt fa fb u n v m x y); (exact hPr x y hr); (rw [hPo x y hr]; rcases VD U U hxy with h1 | ⟨h1,h2⟩; (exact hkn x y hx hy h1); (exfalso; rw [←hkk,←hu] at h1; rw [←hll,←hv] at h2; have q1:=NC hRa.2.2 (k:=k) (by rw [hkk]; exact List.getElem_mem _) hx (by rw [h1,hu]); have q2:=NC hRb.2.2 (k:=l) (by rw [hll]; exact List.getElem_mem _) hy (by rw [h2,hv]); exact hr ⟨by omega,by omega,by omega,by omega,h1,h2⟩))),(hKa),(hKb),(hNw),⟨rfl,rfl,rfl,rfl,rfl,rfl,rfl,rfl,rfl,rfl,trivial⟩,hF⟩
 omega
 refine Dc (Cc O ?_)
 refine Eb (Ga (Fa (Ca (If (((s+1:Nat):Int)) O O) (Ca (Va O) (Xa ?_)))))
 refine Ib ⟨_,?_,s+1,P,rfl,U,(hK),(fun x y hx hy h=>hkn x y hx hy (by obtain rfl:t=(Yc fb).length:=U; exact ZI U hy hRb.2.2 h)),(hKa),(hNw),Iu,hF⟩
 omega
 refine Dc (Cc O ?_)
 refine Ga (Ia (Ca (Ue O) (Ca (I_ O) (Ca (Hc O) (Ea ?_)))))
 refine Ub (Rb (Sa (Ld (v:=.pointer _) (x:=.bool true) O O O) ?_))
 obtain rfl:s=(Yc fa).length:=by omega
 exact ⟨N0,b4,b3,q,P,O,hK,fun x y hx hy=>hkn x y U U (KJ hRa.2.2 U),hNw,fun i hi=>(hqn i hi).1,hF.same⟩
end Go.Scarf
namespace Go.Scarf
open Go.RowKit Go.Proofs Go.Proofs.Tryz
theorem TF (w0:World) (N0 rb pb:Nat) (q:Nat→Nat) (la:List Str) (fa:List Int) (lb:List Str) (fb:List Int) (Aa Ba Ab Bb:Option Addr) (k1 k2 k3 k4:Nat) (P0:Nat→Nat→Int) (hK:Rk w0 N0 rb pb q la fa lb fb Aa Ba Ab Bb k1 k2 k3 k4 P0) (hN0:N0≤w0.heap.size) (hRa:Xh la fa) (hRb:Xh lb fb) (hP:∀ x y,x < la.length→y < lb.length→P0 x y=((td (Fb la fa) (Fb lb fb) x y:Nat):Int)) :
    Calls prog 75 #[.pointer (some ⟨rb,0,none⟩),.int .i64 0,.int .i64 (la.length:Nat),.int .i64 0,.int .i64 (lb.length:Nat)] w0 (De fun v w'=>∃ (gb gc:Nat) (f:Nat→Int),v=.pointer (some ⟨gb,0,none⟩)∧w'.heap[gb]? = some (.cells #[.int .i64 ((lb.length+1:Nat):Int),.slice (some ⟨gc,0,none⟩) ((la.length+1) * (lb.length+1)) ((la.length+1) * (lb.length+1))] 138)∧w'.heap[gc]? = some (.cells (Mb ((la.length+1) * (lb.length+1)) f) 3)∧f (gi lb.length la.length lb.length)=((Ts la fa lb fb:Nat):Int)∧Same (Rows q la.length) w0 w'):=by
  have h:=JB w0 N0 rb pb q la fa lb fb Aa Ba Ab Bb k1 k2 k3 k4 P0 hK 0 la.length 0 lb.length hN0 hRa.1 hRb.1 hRa.2.1 hRb.2.1 hRa.2.2 hRb.2.2 U U (fun i _ _=>Nat.zero_le _) (fun j _ _=>Nat.zero_le _) (fun i j _ h1 _ h2 _=>hP i j U U)
  simp only [Nat.zero_add] at h
  refine h.mono ?_
  rintro e w' ⟨v,he,gb,gc,f,P,hv,hg,hc,hf,-,-,-,-,-,hs⟩
  refine ⟨v,he,gb,gc,f,hv,hg,hc,?_,hs⟩
  rw [hf]
  unfold WC Ts
  rw [Nat.zero_add,Nat.zero_add]
theorem CB (S S':Nat→Prop) (w0:World) (la:List Str) (fa:List Int) (Aa Ba:Option Addr) (ca ea:Nat) (hLa:Rep S w0 (Hf la) [.slice Aa la.length ca]) (hNa:Rep S w0 (.slice (fa.map Ug)) [.slice Ba fa.length ea]) (lb:List Str) (fb:List Int) (Ab Bb:Option Addr) (cb eb:Nat) (hLb:Rep S' w0 (Hf lb) [.slice Ab lb.length cb]) (hNb:Rep S' w0 (.slice (fb.map Ug)) [.slice Bb fb.length eb]) (hRa:Xh la fa) (hRb:Xh lb fb):Calls prog 46 #[.agg #[.slice Aa la.length ca,.slice Ba fa.length ea],.agg #[.slice Ab lb.length cb,.slice Bb fb.length eb]] w0 (De fun v w'=>v=.tuple #[.int .i64 ((Ts la fa lb fb:Nat):Int),.int .i64 0]∧Same [] w0 w'):=by
 have hLla:=hLa.slice_len
 have hNla:=hNa.slice_len
 rw [List.length_map] at hLla hNla
 have hLlb:=hLb.slice_len
 have hNlb:=hNb.slice_len
 rw [List.length_map] at hLlb hNlb
 have hR1:=hRa.1
 have hR2:=hRa.2.1
 have hR3:=hRb.1
 have hR4:=hRb.2.1
 refine Ka func46 O ntmps46 Kb (Ee _ _) ?_
 have hF:=FR.start w0 []
 refine Ia ?_
 refine Bh hF O ?_
 clear hF; rintro b1 w hb1 hF -
 refine Bh hF O ?_
 clear hF; rintro b2 w hb2 hF -
 refine Ca (Wb O) (Ca (Wb O) (Bc (Tc (Wj isAgg56 sizeOf56 O hF.F 1 O O) (Tc (Wj isAgg56 sizeOf56 O hF.F 0 O O) ?_))))
 refine Pb (E8 _ _ _ la fa Aa Ba ca ea (hF.rep hLa) (hF.rep hNa) lb fb Ab Bb cb eb (hF.rep hLb) (hF.rep hNb) hRa hRb) (Vb KY O O O) ?_
 rintro _ w ⟨N0,rb,pb,q,P,rfl,hK,hP,hNw,hqn,hE⟩
 have hqn0:∀ i,i < la.length→w0.heap.size≤q i:=fun i hi=>Nat.le_trans hF.same.size (hqn i hi)
 have hqn1:∀ i,i < la.length→∀ z∈[b2,b1],q i≠z:=fun i hi z hz e=>by have:=hqn i hi; simp only [List.mem_cons,List.not_mem_nil,or_false] at hz; rcases hz with rfl | rfl; (have:=hF.lt (i:=0) rfl; omega); (have:=hF.lt (i:=1) rfl; omega)
 replace hF:=hF.ext hE
 clear hE hqn
 refine Ca (Ul O) (Ca (yxp O O) (Ca (Ss O O) (Ca (I_ O) (Ca (Hc O) (Ea (Ha (Ia (Ca (Jc O) (Ca (Pn (b:=true) O) (Ea ?_))))))))))
 refine Qj O (Ha ?_)
 refine Uc [] (.free 0 (.free 1 (.free 2 (.free 3 (.free 4 (.free 5 (.free 6 (.free 7 .nil)))))))) hF ?_
 clear hF; intro w hF hE
 replace hK:=hK.ext hE
 replace hNw:=Nat.le_trans hNw hE.size
 clear hE
 refine ⟨fun wq=>FR w0 [] _ wq,hF,?_⟩
 refine Db O (Ec Xc O) (Uk O (Mf isAgg25 O C0 1 O O) (Db O (Df underlying25 O) (Db O (Ec Xc O) (Uk O (Mf isAgg25 O C0 0 O O) (Db O (Df underlying25 O) (Db O (Wb O) (Db O (Wb O) (Mc (Ga (Ia (Ca (Ue O) (Ca (Va O) ?_))))))))))))
 refine Ca (Va O) ?_
 refine Pb (TF _ N0 rb pb q la fa lb fb Aa Ba Ab Bb ca ea cb eb P hK hNw hRa hRb hP) (Tn TU O O O O O O) ?_
 rintro _ w ⟨gb,gc,f,rfl,hg,hc,hfv,hE⟩
 replace hF:=hF.touch hE (fun b hb=>by obtain ⟨i,hi,rfl⟩:=Ml.1 hb; refine ⟨fun h=>absurd (hqn0 i hi) U,fun z hz e=>hqn1 i hi z.1 ?_ e.symm⟩; simp only [List.mem_cons,List.not_mem_nil,or_false] at hz; rcases hz with rfl | rfl <;> simp)
 clear hE
 refine Ca (Va O) (Ca (Hw ((la.length:Int) - 1) O O) (Ca (Va O) (Ca (Hw ((lb.length:Int) - 1) O O) ?_)))
 refine Pb (It _ gb gc la.length lb.length la.length lb.length _ _ U U hg (Nat.le_refl _) (Nat.le_refl _) U U) (Gd Dt O O O O) ?_
 rintro _ w ⟨rfl,hE⟩
 replace hF:=hF.ext hE
 replace hg:=(hE.block gb (Ra hg) Ma).trans hg
 replace hc:=(hE.block gc (Ra hc) Ma).trans hc
 clear hE
 refine Ca (Gg O) ?_
 refine Ja (v:=.int .i64 ((Ts la fa lb fb:Nat))) (Ya isAgg3 O (by rw [Ac hc,Wl (Rp (Nat.le_refl _) (Nat.le_refl _)),hfv])) ?_
 refine Ca (Wb O) (Ca (Wb O) (Ea ?_))
 refine Ub (Rb (Sa (Ld (v:=.int .i64 ((Ts la fa lb fb:Nat))) (x:=.int .i64 0) O O O) ?_))
 exact ⟨O,hF.same⟩
end Go.Scarf
