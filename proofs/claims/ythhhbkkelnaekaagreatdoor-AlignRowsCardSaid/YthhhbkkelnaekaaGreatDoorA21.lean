/- A part of the proof. -/
import Derived.Test.YthhhbkkelnaekaaGreatDoorA20
import Derived.Test.YthhhbkkelnaekaaGreatDoorA11
import Derived.Test.YthhhbkkelnaekaaGreatDoorZ15
set_option linter.all false
set_option maxHeartbeats 8000000
set_option maxRecDepth 10000
namespace Go.Scarf
open Go.RowKit Go.Proofs Go.Proofs.Tryz
def IX (m i j:Nat):Nat:=i * (m+1)+j
theorem Lz {n m i j:Nat} (hi:i≤n) (hj:j≤m):IX m i j < (n+1) * (m+1):=by
  have:=Nat.mul_le_mul_right (m+1) hi
  unfold IX
  rw [Nat.add_mul n,Nat.one_mul]
  omega
theorem Zt (m i j:Nat):IX m (i+1) j=IX m i j+m+1:=by unfold IX; rw [Nat.add_mul,Nat.one_mul]; omega
theorem Ws (m i j:Nat):IX m i (j+1)=IX m i j+1:=by unfold IX; omega
theorem CG {m a b a' b':Nat} (hb:b≤m) (hb':b'≤m) (h:IX m a b=IX m a' b'):a=a'∧b=b':=by
  unfold IX at h
  have h1:a=a':=by
    rcases Nat.lt_trichotomy a a' with hl | e | hl
    · have:=Nat.mul_le_mul_right (m+1) (show a+1≤a' from hl); rw [Nat.add_mul a,Nat.one_mul] at this; omega
    · exact e
    · have:=Nat.mul_le_mul_right (m+1) (show a'+1≤a from hl); rw [Nat.add_mul a',Nat.one_mul] at this; omega
  subst h1
  omega
theorem EF {n m i j:Nat} (hi:i≤n) (hj:j≤m) (hn:n≤64) (hm:m≤64):IX m i j≤4300∧i * (m+1)≤4300:=by
  have:=Nat.mul_le_mul (show i≤64 by omega) (show m+1≤65 by omega)
  unfold IX
  omega
structure Cl (la lb:List TreeN) (i j si sj p v10 v01 v11 v:Nat):Prop where
  hs:∀ h:i < la.length,si=la[i].1.length
  ht:∀ h:j < lb.length,sj=lb[j].1.length
  hp:∀ (h:i < la.length) (h2:j < lb.length),p=pN la[i] lb[j]
  e10:v10=al Tl pN (la.drop (i+1)) (lb.drop j)
  e01:v01=al Tl pN (la.drop i) (lb.drop (j+1))
  e11:v11=al Tl pN (la.drop (i+1)) (lb.drop (j+1))
  e:v=al Tl pN (la.drop i) (lb.drop j)
  cc:i < la.length→j < lb.length→v=min (p+v11) (min (si+v10) (sj+v01))
  cn:i < la.length→¬j < lb.length→v=si+v10
  nc:¬i < la.length→j < lb.length→v=sj+v01
  nn:¬i < la.length→¬j < lb.length→v=0
  lim:si≤512∧sj≤512∧p≤1024∧v10≤65536∧v01≤65536∧v11≤65536∧v≤65536
theorem M_ {la lb:List TreeN} (hla:∀ x∈la,Tl x≤512) (hlb:∀ x∈lb,Tl x≤512) (hmx:∀ x y,al Tl pN (la.drop x) (lb.drop y)≤65536) (i j:Nat):∃ si sj p v10 v01 v11 v,Cl la lb i j si sj p v10 v01 v11 v:=by
  refine ⟨if h:i < la.length then la[i].1.length else 0,if h:j < lb.length then lb[j].1.length else 0,if h:i < la.length∧j < lb.length then pN la[i] lb[j] else 0,_,_,_,_,fun h=>by rw [dif_pos h],fun h=>by rw [dif_pos h],fun h h2=>by rw [dif_pos ⟨h,h2⟩],O,O,O,O,fun h h2=>?_,fun h h2=>?_,fun h h2=>?_,fun h h2=>?_,?_⟩
  · rw [dif_pos h, dif_pos h2, dif_pos ⟨h, h2⟩]
    have hc:=T6 (sz:=Tl) (p:=pN) la[i] lb[j] (la.drop (i+1)) (lb.drop (j+1))
    rw [←List.drop_eq_getElem_cons h,←List.drop_eq_getElem_cons h2] at hc
    exact hc
  · rw [dif_pos h,List.drop_eq_nil_of_le (show lb.length≤j by omega),List.drop_eq_getElem_cons h,FN]
  · rw [dif_pos h2,List.drop_eq_nil_of_le (show la.length≤i by omega),List.drop_eq_getElem_cons h2,VG]
  · rw [List.drop_eq_nil_of_le (show lb.length≤j by omega),List.drop_eq_nil_of_le (show la.length≤i by omega)]; rfl
  · have h1 : ∀ h : i < la.length, la[i].1.length ≤ 512 := fun h => hla _ (List.getElem_mem h)
    have h2:∀ h:j < lb.length,lb[j].1.length≤512:=fun h=>hlb _ (List.getElem_mem h)
    refine ⟨?_,?_,?_,hmx _ _,hmx _ _,hmx _ _,hmx _ _⟩
    · split
      · exact h1 (by assumption)
      · omega
    · split
      · exact h2 (by assumption)
      · omega
    · split
      · rename_i hh
        have h3:pN la[i] lb[j]≤la[i].1.length+lb[j].1.length:=(Yp (ls:=la[i].1) (fs:=la[i].2) (gs:=lb[j].1) (hs:=lb[j].2)).1
        have:=h1 hh.1
        have:=h2 hh.2
        omega
      · omega
def RF (la lb:List TreeN) (f:Nat→Int) (i l:Nat):Prop:=∀ a b,a≤la.length→b≤lb.length→(i < a∨(a=i∧l≤b))→f (IX lb.length a b)=((al Tl pN (la.drop a) (lb.drop b):Nat):Int)
def PF (la lb:List TreeN) (g:Nat→Int) (i l:Nat):Prop:=∀ a b (h1:a < la.length) (h2:b < lb.length),(i < a∨(a=i∧l≤b))→g (IX lb.length a b)=((pN la[a] lb[b]:Nat):Int)
section
variable {la lb:List TreeN} {f f' g g':Nat→Int} {i j t:Nat}
theorem RF.step (h:RF la lb f i (j+1)) (hj:j≤lb.length) (ht:IX lb.length i j=t) (ho:∀ q,q≠t→f' q=f q) (hn:f' t=((al Tl pN (la.drop i) (lb.drop j):Nat):Int)):RF la lb f' i j:=fun a b ha hb hc=>by
  by_cases e:a=i∧b=j
  · obtain ⟨rfl,rfl⟩:=e; rw [ht]; exact hn
  · rw [ho _ (fun q=>e (CG hb hj (q.trans ht.symm)))]; exact h a b ha hb U
theorem RF.row (h:RF la lb f i 0):RF la lb f (i - 1) (if i=0 then 0 else lb.length+1):=fun a b ha hb hc=>by
  split at hc
  · exact h a b ha hb U
  · exact h a b ha hb U
theorem PF.step (h:PF la lb g i (j+1)) (hj:j≤lb.length) (ht:IX lb.length i j=t) (ho:∀ q,q≠t→g' q=g q) (hn:∀ (h1:i < la.length) (h2:j < lb.length),g' t=((pN la[i] lb[j]:Nat):Int)):PF la lb g' i j:=fun a b ha hb hc=>by
  by_cases e:a=i∧b=j
  · obtain ⟨rfl,rfl⟩:=e; rw [ht]; exact hn ha hb
  · rw [ho _ (fun q=>e (CG U hj (q.trans ht.symm)))]; exact h a b ha hb U
end
theorem PL (S S':Nat→Prop) (w0:World) (hG:Gl w0) (x y:List Tree) (A B:Option Addr) (c e:Nat) (hX:Rep S w0 (.slice (Wc x)) [.slice A x.length c]) (hY:Rep S' w0 (.slice (Wc y)) [.slice B y.length e]) (hokx:∀ z∈x,Yj z) (hoky:∀ z∈y,Yj z) (hne:¬(Zg x=0∧Zg y=0)):Calls prog 8 #[.slice A x.length c,.slice B y.length e] w0 (De fun v w'=>v=.tuple #[.slice none 0 0,.int .i64 0,.int .i64 (Dr x y)]∧Same [] w0 w'):=by
 refine Ka func8 O ntmps8 Kb (Ee _ _) ?_
 have hF:=FR.start w0 []
 refine Ia (Ca (Sh O) (Ca (Wb O) (Ca (Wb O) (Bc (Ca (Yd O) ?_)))))
 refine Pb (U2 x _ _ _ _ (hG.ext hF.same) (hF.rep hX) hokx) (Cb SH O O) ?_
 rintro _ w ⟨V0,rfl,hE⟩
 replace hF:=hF.ext hE
 clear hE
 refine Ca (Ul O) (Ca (MY O O) (Ca (Fm O O) (Ca (S1) (Ca (Wb O) (Bc (Ca (Yd O) ?_))))))
 refine Pb (U2 y _ _ _ _ (hG.ext hF.same) (hF.rep hY) hoky) (Cb SH O O) ?_
 rintro _ w ⟨V1,rfl,hE⟩
 replace hF:=hF.ext hE
 clear hE
 refine Ca (Ul O) (Ca (MY O O) (Ca (Fm O O) (Ca (S1) (Ca (Wb O) (Ea (Ha (Ia (Ca (Va O) (Ca (Th O O) (Ca (Jc O) ?_))))))))))
 refine Hb (d:=34) O (fun hg0=>?_) (fun hg0=>?_)
 refine Da (Da (Ca (Ic O O) (Ea (Ae O (Ia (Ca (Sh O) (Ca (Wb O) (Ca (Wb O) (Ea ?_)))))))))
 refine Ub (Rb (Sa (Bq (v:=.slice _ _ _) (x:=.int .i64 0) (y:=.int .i64 1) O O O O) ?_))
 exact ⟨by rw [Dr,if_pos (by simp_all)],hF.same⟩
 refine Ca (Va O) (Ca (Th O O) (Ca (Gc O O) (Ea ?_)))
 refine Yb O O (fun hc0=>?_) (fun hc0=>?_)
 refine Ia (Ca (Sh O) (Ca (Wb O) (Ca (Wb O) (Ea ?_))))
 refine Ub (Rb (Sa (Bq (v:=.slice _ _ _) (x:=.int .i64 0) (y:=.int .i64 1) O O O O) ?_))
 exact ⟨by rw [Dr,if_pos (by simp_all)],hF.same⟩
 refine Qa (Ga (Ha (Ia (Ca (Va O) (Ca (Sq O O) (Ca (Jc O) ?_))))))
 refine Hb (d:=40) O (fun hg1=>?_) (fun hg1=>?_)
 refine Da (Da (Ca (Ic O O) (Ea (Ae O (Ia (Ca (Sh O) (Ca (Wb O) (Ca (Wb O) (Ea ?_)))))))))
 refine Ub (Rb (Sa (Bq (v:=.slice _ _ _) (x:=.int .i64 0) (y:=.int .i64 6) O O O O) ?_))
 exact ⟨by rw [Dr,if_neg (by simp_all),if_neg (by simp_all)],hF.same⟩
 refine Ca (Va O) (Ca (Sq O O) (Ca (Gc O O) (Ea ?_)))
 refine Yb O O (fun hc1=>?_) (fun hc1=>?_)
 refine Ia (Ca (Sh O) (Ca (Wb O) (Ca (Wb O) (Ea ?_))))
 refine Ub (Rb (Sa (Bq (v:=.slice _ _ _) (x:=.int .i64 0) (y:=.int .i64 6) O O O O) ?_))
 exact ⟨by rw [Dr,if_neg (by simp_all),if_neg (by simp_all)],hF.same⟩
 exact absurd hne (by simp_all)
theorem ZJ (S S':Nat→Prop) (w0:World) (hG:Gl w0) (x y:List Tree) (A B:Option Addr) (c e:Nat) (hX:Rep S w0 (.slice (Wc x)) [.slice A x.length c]) (hY:Rep S' w0 (.slice (Wc y)) [.slice B y.length e]) (hokx:∀ z∈x,Yj z) (hoky:∀ z∈y,Yj z) (la lb:List TreeN) (hla:la=x.map We) (hlb:lb=y.map We) (hex:Zg x=0) (hey:Zg y=0) (h80a:∀ z∈la,z.1.length≤80) (h80b:∀ z∈lb,z.1.length≤80):Calls prog 8 #[.slice A x.length c,.slice B y.length e] w0 (De fun v w'=>∃ (Az:Option Addr) (cz:Nat),v=.tuple #[.slice Az (Yw 0 0 la lb).length cz,.int .i64 ((al Tl pN la lb:Nat):Int),.int .i64 0]∧Rep (fun _=>True) w' (Lj (Yw 0 0 la lb)) [.slice Az (Yw 0 0 la lb).length cz]∧Same [] w0 w'):=by
 have hRa:(∀ x∈la,Xh x.1 x.2)∧∀ x∈la,Tl x≤512:=by rw [hla]; exact Uw hex hokx
 have hRb:(∀ x∈lb,Xh x.1 x.2)∧∀ x∈lb,Tl x≤512:=by rw [hlb]; exact Uw hey hoky
 have hll:la.length≤64∧lb.length≤64:=by rw [hla,hlb,List.length_map,List.length_map]; exact ⟨(Br hex).2.1,(Br hey).2.1⟩
 refine Ka func8 O ntmps8 Kb (Ee _ _) ?_
 have hF:=FR.start w0 []
 refine Ia (Ca (Sh O) (Ca (Wb O) (Ca (Wb O) (Bc (Ca (Yd O) ?_)))))
 refine Pb (E2 x la hla hex _ _ _ _ (hG.ext hF.same) (hF.rep hX) hokx) (Cb SH O O) ?_
 rintro _ w ⟨T0,t0,rfl,hT0,hE⟩
 replace hF:=hF.ext hE
 clear hE
 refine Ca (Ul O) (Ca (W4 O O) (Ca (Fm O O) (Ca (Sh O) (Ca (Wb O) (Bc (Ca (Yd O) ?_))))))
 refine Pb (E2 y lb hlb hey _ _ _ _ (hG.ext hF.same) (hF.rep hY) hoky) (Cb SH O O) ?_
 rintro _ w ⟨T1,t1,rfl,hT1,hE⟩
 replace hF:=hF.ext hE
 replace hT0:=hT0.ext hE
 clear hE
 refine Ca (Ul O) (Ca (W4 O O) (Ca (Fm O O) (Ca (Sh O) (Ca (Wb O) (Ea (Ha (Ia (Ca (Va O) (Ja (v:=.bool false) (Zc (Ig O O) Ua) (Ca (Jc O) (Ca (Va O) ?_)))))))))))
 refine Ja (v:=.bool false) (Zc (Ig O O) Ua) (Ca (Gc O O) (Ea (Qj O (Ha (Ia (Ca (Va O) (Ja (v:=.bool false) (Zc (Ir O O) Ua) (Ca (Jc O) (Ca (Va O) ?_)))))))))
 refine Ja (v:=.bool false) (Zc (Ir O O) Ua) (Ca (Gc O O) (Ea (Qj O (Ha ?_))))
 have hs01:=hF.same
 replace hG:=hG.ext hF.same
 obtain ⟨w0,hw0⟩:∃ u,u=w:=⟨_,rfl⟩
 replace hF:FR w0 [] [] w:=by rw [hw0]; exact FR.start w []
 rw [←hw0] at hT0 hT1 hs01 hG
 clear hw0
 have hmx:∀ x y,al Tl pN (la.drop x) (lb.drop y)≤65536:=fun x y=>Nat.le_trans (IF (fun z hz=>hRa.2 z (List.mem_of_mem_drop hz)) (fun z hz=>hRb.2 z (List.mem_of_mem_drop hz))) (by simp only [List.length_drop]; omega)
 have hmul:=EF (Nat.le_refl la.length) (Nat.le_refl lb.length) hll.1 hll.2
 obtain ⟨N,hN⟩:∃ N,N=(la.length+1) * (lb.length+1):=⟨_,rfl⟩
 have hN2:N≤4300∧0 < N:=by rw [hN]; have:=Nat.mul_le_mul (show la.length+1≤65 by omega) (show lb.length+1≤65 by omega); exact ⟨by omega,Nat.mul_pos U U⟩
 refine Fa (Ca (Yd O) (Ca (Df underlying47 O) (Ca (Wb O) (Bc (Ca (Yd O) (Ca (Df underlying47 O) (Ca (Wb O) (Ea (Ha ?_)))))))))
 refine Fa (Ca (Va O) (Ca (If (((la.length+1:Nat):Int)) O O) (Ca (Va O) (Ca (If (((lb.length+1:Nat):Int)) O O) ?_))))
 refine Ja (v:=.int .i64 (((N:Nat):Int))) (Fl O O (Id (by rw [hN,Int.natCast_mul]) U U)) ?_
 refine St (v:=fun b=>.slice (some ⟨b,0,none⟩) N N) (o:=.cells (Mb (N) fun _=>0) 3) hF (Mj Wh Qb O O U) ?_
 clear hF; rintro b1 w hb1 hF -
 refine Ca (Sh O) (Bc (Ca (Va O) (Ca (If (((la.length+1:Nat):Int)) O O) (Ca (Va O) (Ca (If (((lb.length+1:Nat):Int)) O O) ?_)))))
 refine Ja (v:=.int .i64 (((N:Nat):Int))) (Fl O O (Id (by rw [hN,Int.natCast_mul]) U U)) ?_
 refine St (v:=fun b=>.slice (some ⟨b,0,none⟩) N N) (o:=.cells (Mb (N) fun _=>0) 3) hF (Mj Wh Qb O O U) ?_
 clear hF; rintro b2 w hb2 hF -
 refine Ca (Sh O) (Ea (Ha (Ia (Ca (Va O) (Ca (Wb O) (Ea (Ta ?_)))))))
 refine Lc (fun μ σ w=>∃ (k:Nat),∃ (z:Int),∃ (f:Nat→Int),∃ (g:Nat→Int),μ=0+k∧(k≤la.length+1)∧(z=(k:Int) - 1)∧(RF la lb f k 0)∧(PF la lb g k 0)∧(f (IX lb.length la.length lb.length)=0)∧AllEq σ [(7,.slice T0 la.length t0),(9,.slice T1 lb.length t1),(11,.int .i64 ((la.length:Nat))),(12,.int .i64 ((lb.length:Nat))),(13,.slice (some ⟨b1,0,none⟩) N N),(14,.slice (some ⟨b2,0,none⟩) N N),(15,.int .i64 z)]∧FR w0 [] [(b2,.cells (Mb (N) (g)) 3),(b1,.cells (Mb (N) (f)) 3)] w) _ ⟨la.length+1,(la.length:Int),fun _=>0,fun _=>0,O,(Nat.le_refl _),U,(fun a b ha hb hc=>by omega),(fun a b ha hb hc=>by omega),(O),BG,hF⟩ ?_
 clear hF; rintro μ σ w ⟨k,z,f,g,rfl,hk,hz,hRF,hPF,hf0,hs,hF⟩
 refine Cg.slots hs ?_
 clear hs; intro σ
 refine Ha (Ia (Ca (Va O) (Ca (Rv O O) (Ea ?_))))
 refine Yb O O (fun hc2=>?_) (fun hc2=>?_)
 refine Qa (Ga (Ha (Ta (Ha ?_))))
 obtain ⟨i,rfl⟩:∃ i,k=i+1:=⟨k - 1,by omega⟩
 obtain rfl:z=(i:Int):=by omega
 refine Fa (Ca (Va O) (Ca (Wb O) (Ea (Ta ?_))))
 refine Lc (fun μ σ w=>∃ (l:Nat),∃ (y:Int),∃ (f:Nat→Int),∃ (g:Nat→Int),μ=0+l∧(l≤lb.length+1)∧(y=(l:Int) - 1)∧(RF la lb f i l)∧(PF la lb g i l)∧(f (IX lb.length la.length lb.length)=0)∧AllEq σ [(7,.slice T0 la.length t0),(9,.slice T1 lb.length t1),(11,.int .i64 ((la.length:Nat))),(12,.int .i64 ((lb.length:Nat))),(13,.slice (some ⟨b1,0,none⟩) N N),(14,.slice (some ⟨b2,0,none⟩) N N),(15,.int .i64 ((i:Int))),(16,.int .i64 y)]∧FR w0 [] [(b2,.cells (Mb (N) (g)) 3),(b1,.cells (Mb (N) (f)) 3)] w) _ ⟨lb.length+1,(lb.length:Int),f,g,O,(Nat.le_refl _),U,(fun a b ha hb hc=>hRF a b ha hb U),(fun a b h1 h2 hc=>hPF a b h1 h2 U),(hf0),K5,hF⟩ ?_
 clear hF; rintro μ σ w ⟨l,y,f,g,rfl,hl,hy,hRF,hPF,hf0,hs,hF⟩
 refine Cg.slots hs ?_
 clear hs; intro σ
 refine Ha (Ia (Ca (Va O) (Ca (Rv O O) (Ea ?_))))
 refine Yb O O (fun hc3=>?_) (fun hc3=>?_)
 refine Qa (Ga ?_)
 obtain ⟨j,rfl⟩:∃ j,l=j+1:=⟨l - 1,by omega⟩
 obtain rfl:y=(j:Int):=by omega
 obtain ⟨si,sj,pp,v10,v01,v11,vv,hC_⟩:=M_ hRa.2 hRb.2 hmx i j
 have hlm:=hC_.lim
 obtain ⟨t,hIX⟩:∃ t,IX lb.length i j=t:=⟨_,rfl⟩
 obtain ⟨r,hr⟩:∃ r,r=i * (lb.length+1):=⟨_,rfl⟩
 have htr:t=r+j:=by rw [←hIX,hr]; rfl
 have hmi:=EF (n:=la.length) (i:=i) (j:=j) U U hll.1 hll.2
 rw [hIX,←hr] at hmi
 have h00:t < N:=by rw [←hIX,hN]; exact Lz U U
 have h10:i < la.length→t+lb.length+1 < N:=fun h=>by rw [←hIX,←Zt,hN]; exact Lz U U
 have h01:j < lb.length→t+1 < N:=fun h=>by rw [←hIX,←Ws,hN]; exact Lz U U
 have h11:i < la.length→j < lb.length→t+lb.length+2 < N:=fun h h2=>by have h3:t+lb.length+2=IX lb.length (i+1) (j+1):=(by rw [Zt,Ws,hIX]; omega); rw [h3,hN]; exact Lz U U
 have e10:i < la.length→f (t+lb.length+1)=(v10:Int):=fun h=>by rw [←hIX,←Zt,hC_.e10]; exact hRF _ _ U U U
 have e01:j < lb.length→f (t+1)=(v01:Int):=fun h=>by rw [←hIX,←Ws,hC_.e01]; exact hRF _ _ U U U
 have e11:i < la.length→j < lb.length→f (t+lb.length+2)=(v11:Int):=fun h h2=>by have h3:t+lb.length+2=IX lb.length (i+1) (j+1):=(by rw [Zt,Ws,hIX]; omega); rw [h3,hC_.e11]; exact hRF _ _ U U U
 have h0_:¬i < la.length→¬j < lb.length→f t=0:=fun h h2=>by rw [←hIX,show i=la.length by omega,show j=lb.length by omega]; exact hf0
 refine Ha ?_
 refine Qf (fun σ w=>∃ (f3:Nat→Int),∃ (g3:Nat→Int),(∀ q,q≠t→f3 q=f q)∧(f3 t=(vv:Int))∧(∀ q,q≠t→g3 q=g q)∧(∀ (h1:i < la.length) (h2:j < lb.length),g3 t=((pN la[i] lb[j]:Nat):Int))∧AllEq σ [(7,.slice T0 la.length t0),(9,.slice T1 lb.length t1),(11,.int .i64 ((la.length:Nat))),(12,.int .i64 ((lb.length:Nat))),(13,.slice (some ⟨b1,0,none⟩) N N),(14,.slice (some ⟨b2,0,none⟩) N N),(15,.int .i64 ((i:Int))),(16,.int .i64 ((j:Int)))]∧FR w0 [] [(b2,.cells (Mb (N) (g3)) 3),(b1,.cells (Mb (N) (f3)) 3)] w) ?_ ?_
 refine Ta (Ia (Ca (Va O) (Ca (Va O) (Ca (If (((lb.length+1:Nat):Int)) O O) ?_))))
 refine Ja (v:=.int .i64 (((r:Nat):Int))) (Fl O O (Id (by rw [hr,Int.natCast_mul]) U U)) ?_
 refine Ca (Va O) (Ca (If (((t:Nat):Int)) O O) (Ca (Wb O) (Ea (Ha ?_))))
 refine Qf (fun σ w=>∃ (f1:Nat→Int),(∀ q,q≠t→f1 q=f q)∧((i < la.length→f1 t=((si+v10:Nat):Int))∧(¬i < la.length→f1 t=f t))∧AllEq σ [(7,.slice T0 la.length t0),(9,.slice T1 lb.length t1),(11,.int .i64 ((la.length:Nat))),(12,.int .i64 ((lb.length:Nat))),(13,.slice (some ⟨b1,0,none⟩) N N),(14,.slice (some ⟨b2,0,none⟩) N N),(15,.int .i64 ((i:Int))),(16,.int .i64 ((j:Int))),(17,.int .i64 (((t:Nat):Int)))]∧FR w0 [] [(b2,.cells (Mb (N) (g)) 3),(b1,.cells (Mb (N) (f1)) 3)] w) ?_ ?_
 refine Ia (Ca (Va O) (Ca (Va O) (Ca (Yg O O) (Ea ?_))))
 refine Yb O O (fun hc4=>?_) (fun hc4=>?_)
 refine Ff (zs:=[17]) (.free 0 (.free 1 (.free 2 (.free 3 (.free 4 (.free 5 (.free 6 (.free 7 (.free 8 (.free 9 (.free 10 (.free 11 (.free 12 (.free 13 (.free 14 (.free 15 (.free 16 (.act 17 .nil)))))))))))))))))) hF ?_
 clear hF; intro w hF
 refine Db O (Yd O) (Db O (Va O) (Db O (Yd O) (Db O (Va O) ?_)))
 obtain ⟨ad0,P0,p0,Q0,q0,hA0,hk0,hx0,hy0⟩:=hT0.node_elem (i:=i) U
 refine Oa O (v:=.pointer (some (ad0.add (i * 2)))) (fun w hC=>Pa (i:=(i:Int)) Pr O hA0 O U U) (Oa O (v:=.pointer (some ((ad0.add (i * 2)).add 0))) (fun w hC=>Ph (a:=ad0.add (i * 2)) Xc O) (Oa O (v:=.slice (P0) ((la[i]).1.length) (p0)) (fun w hC=>Ya isAgg25 O (hC.cell0 (hk0 0 Kb))) (Db O (Df underlying25 O) (Db O (Yd O) (Db O (Va O) (Db O (Va O) (Db O (If (((t+lb.length:Nat):Int)) O O) (Db O (If (((t+lb.length+1:Nat):Int)) O O) (Oa O (v:=.pointer (some ⟨b1,(t+lb.length+1),none⟩)) (fun w hC=>Gb (i:=((t+lb.length+1:Nat):Int)) ((t+lb.length+1)) Nd O O U U U) ?_)))))))))
 refine Oa rfl (v:=.int .i64 ((f) ((t+lb.length+1)))) (fun w hC=>Ya isAgg3 rfl (hC.intCell 1 rfl (by first | omega | (have:=h10 U; omega) | (have:=h01 U; omega) | (have:=h11 U U; omega)))) ?_
 refine Oa O (v:=.int .i64 (((si+v10:Nat):Int))) (fun w hC=>Il O O (Id (by rw [e10 U,hC_.hs U]; omega) U U)) ?_
 refine Oa O (v:=.pointer (some ⟨b1,t,none⟩)) (fun w hC=>Gb (i:=((t:Nat):Int)) (t) Nd O O U U U) ?_
 refine Ad rfl 1 (l:=[.int .i64 (((si+v10:Nat):Int))]) (cs':=Mb (N) (Pf (f) (t) (((si+v10:Nat):Int)))) hF sizeOf3 rfl (v:=.int .i64 (((si+v10:Nat):Int))) rfl rfl Ed rfl (by rw [Xf]; simp only [List.length_singleton]; exact Nat.succ_le_of_lt (by first | omega | (have:=h10 U; omega) | (have:=h01 U; omega) | (have:=h11 U U; omega))) (Bg _) ?_
 clear hF; rintro w hF -
 replace hF:FR w0 [] [_,(b1,.cells (Mb (N) (Pf (f) (t) (((si+v10:Nat):Int)))) 3)] w:=hF
 refine Mc ?_
 exact Ib ⟨(Pf (f) (t) (((si+v10:Nat):Int))),(fun q hq=>Sn hq),(⟨fun _=>Ol _ _ _,fun h=>absurd h U⟩),YT,((hF.front 1 O).front 1 O)⟩
 refine Qa ?_
 exact Ib ⟨(f),(fun q hq=>rfl),(⟨fun h=>absurd h U,fun _=>rfl⟩),YT,((hF.front 1 O).front 1 O)⟩
 clear hF; rintro σ w ⟨f1,hf1,hv1,hs,hF⟩
 refine Eg.slots hs ?_
 clear hs; intro σ
 refine Ga (Ha ?_)
 refine Qf (fun σ w=>∃ (f2:Nat→Int),(∀ q,q≠t→f2 q=f q)∧((i < la.length→j < lb.length→f2 t=((min (si+v10) (sj+v01):Nat):Int))∧(i < la.length→¬j < lb.length→f2 t=((si+v10:Nat):Int))∧(¬i < la.length→j < lb.length→f2 t=((sj+v01:Nat):Int))∧(¬i < la.length→¬j < lb.length→f2 t=f t))∧AllEq σ [(7,.slice T0 la.length t0),(9,.slice T1 lb.length t1),(11,.int .i64 ((la.length:Nat))),(12,.int .i64 ((lb.length:Nat))),(13,.slice (some ⟨b1,0,none⟩) N N),(14,.slice (some ⟨b2,0,none⟩) N N),(15,.int .i64 ((i:Int))),(16,.int .i64 ((j:Int))),(17,.int .i64 (((t:Nat):Int)))]∧FR w0 [] [(b2,.cells (Mb (N) (g)) 3),(b1,.cells (Mb (N) (f2)) 3)] w) ?_ ?_
 refine Ha ?_
 refine Ff (zs:=[]) (.free 0 (.free 1 (.free 2 (.free 3 (.free 4 (.free 5 (.free 6 (.free 7 (.free 8 (.free 9 (.free 10 (.free 11 (.free 12 (.free 13 (.free 14 (.free 15 (.free 16 (.free 17 (.free 18 (.free 19 (.free 20 (.free 21 (.free 22 (.free 23 (.free 24 (.free 25 (.free 26 .nil))))))))))))))))))))))))))) hF ?_
 clear hF; intro w hF
 refine Db O (Va O) (Db O (Va O) (Db O (Yg O O) (Db O (Jc O) ?_)))
 refine Ik (d:=99) O (fun hg1=>?_) (fun hg1=>?_)
 refine Db O (Va O) (Db O (Va O) (Db O (Th O O) (Db O (Jc O) ?_)))
 refine Ik (d:=103) O (fun hg2=>?_) (fun hg2=>?_)
 refine Jd O ?_
 refine Jd O ?_
 refine Jd O ?_
 refine Jd O ?_
 refine Jd O ?_
 refine Jd O ?_
 refine Jd O ?_
 refine Jd O ?_
 refine Jd O ?_
 refine Jd O ?_
 refine Jd O ?_
 refine Jd O ?_
 refine Jd O ?_
 refine Jd O ?_
 refine Jd O ?_
 refine Jd O ?_
 refine Jd O ?_
 refine Db O (Ic O O) (Db O (Ic O O) (Mc (Ga (Ae O ?_))))
 refine Ff (zs:=[15]) (.free 0 (.free 1 (.free 2 (.free 3 (.free 4 (.free 5 (.free 6 (.free 7 (.free 8 (.free 9 (.free 10 (.free 11 (.free 12 (.free 13 (.free 14 (.act 15 .nil)))))))))))))))) hF ?_
 clear hF; intro w hF
 refine Db O (Yd O) (Db O (Va O) (Db O (Yd O) (Db O (Va O) ?_)))
 obtain ⟨ad3,P3,p3,Q3,q3,hA3,hk3,hx3,hy3⟩:=hT1.node_elem (i:=j) U
 refine Oa O (v:=.pointer (some (ad3.add (j * 2)))) (fun w hC=>Pa (i:=(j:Int)) Pr O hA3 O U U) (Oa O (v:=.pointer (some ((ad3.add (j * 2)).add 0))) (fun w hC=>Ph (a:=ad3.add (j * 2)) Xc O) (Oa O (v:=.slice (P3) ((lb[j]).1.length) (p3)) (fun w hC=>Ya isAgg25 O (hC.cell0 (hk3 0 Kb))) (Db O (Df underlying25 O) (Db O (Yd O) (Db O (Va O) (Db O (If (((t+1:Nat):Int)) O O) (Oa O (v:=.pointer (some ⟨b1,(t+1),none⟩)) (fun w hC=>Gb (i:=((t+1:Nat):Int)) ((t+1)) Nd O O U U U) ?_)))))))
 refine Oa rfl (v:=.int .i64 ((f1) ((t+1)))) (fun w hC=>Ya isAgg3 rfl (hC.intCell 1 rfl (by first | omega | (have:=h10 U; omega) | (have:=h01 U; omega) | (have:=h11 U U; omega)))) ?_
 refine Oa O (v:=.int .i64 (((sj+v01:Nat):Int))) (fun w hC=>Il O O (Id (by rw [hf1 _ U,e01 U,hC_.ht U]; omega) U U)) ?_
 refine Oa O (v:=.pointer (some ⟨b1,t,none⟩)) (fun w hC=>Gb (i:=((t:Nat):Int)) (t) Nd O O U U U) ?_
 refine Ad rfl 1 (l:=[.int .i64 (((sj+v01:Nat):Int))]) (cs':=Mb (N) (Pf (f1) (t) (((sj+v01:Nat):Int)))) hF sizeOf3 rfl (v:=.int .i64 (((sj+v01:Nat):Int))) rfl rfl Ed rfl (by rw [Xf]; simp only [List.length_singleton]; exact Nat.succ_le_of_lt (by first | omega | (have:=h10 U; omega) | (have:=h01 U; omega) | (have:=h11 U U; omega))) (Bg _) ?_
 clear hF; rintro w hF -
 replace hF:FR w0 [] [_,(b1,.cells (Mb (N) (Pf (f1) (t) (((sj+v01:Nat):Int)))) 3)] w:=hF
 refine Mc ?_
 exact Ib ⟨(Pf (f1) (t) (((sj+v01:Nat):Int))),(fun q hq=>(Sn hq).trans (hf1 q hq)),(by have q1:=hv1.1; have q2:=hv1.2; have q3:=hf1 (t+1) U; have q4:=e01; rw [Ol]; refine ⟨fun a b=>?_,fun a b=>?_,fun a b=>?_,fun a b=>?_⟩ <;> first | omega | (have:=q1 a; omega) | (have:=q2 a; omega)),YT,((hF.front 1 rfl).front 1 rfl)⟩
 refine Db O (Yd O) (Db O (Va O) ?_)
 obtain ⟨ad4,P4,p4,Q4,q4,hA4,hk4,hx4,hy4⟩:=hT1.node_elem (i:=j) U
 refine Oa O (v:=.pointer (some (ad4.add (j * 2)))) (fun w hC=>Pa (i:=(j:Int)) Pr O hA4 O U U) (Oa O (v:=.pointer (some ((ad4.add (j * 2)).add 0))) (fun w hC=>Ph (a:=ad4.add (j * 2)) Xc O) (Oa O (v:=.slice (P4) ((lb[j]).1.length) (p4)) (fun w hC=>Ya isAgg25 O (hC.cell0 (hk4 0 Kb))) (Db O (Df underlying25 O) (Db O (Yd O) (Db O (Va O) (Db O (If (((t+1:Nat):Int)) O O) (Oa O (v:=.pointer (some ⟨b1,(t+1),none⟩)) (fun w hC=>Gb (i:=((t+1:Nat):Int)) ((t+1)) Nd O O U U U) ?_)))))))
 refine Oa rfl (v:=.int .i64 ((f1) ((t+1)))) (fun w hC=>Ya isAgg3 rfl (hC.intCell 1 rfl (by first | omega | (have:=h10 U; omega) | (have:=h01 U; omega) | (have:=h11 U U; omega)))) ?_
 refine Oa O (v:=.int .i64 (((sj+v01:Nat):Int))) (fun w hC=>Il O O (Id (by rw [hf1 _ U,e01 U,hC_.ht U]; omega) U U)) ?_
 refine Db O (Yd O) (Db O (Va O) (Oa O (v:=.pointer (some ⟨b1,t,none⟩)) (fun w hC=>Gb (i:=((t:Nat):Int)) (t) Nd O O U U U) ?_))
 refine Oa rfl (v:=.int .i64 ((f1) (t))) (fun w hC=>Ya isAgg3 rfl (hC.intCell 1 rfl (by first | omega | (have:=h10 U; omega) | (have:=h01 U; omega) | (have:=h11 U U; omega)))) ?_
 refine Db O (Yg O O) (Db O (Gc O O) (Db O (Ic O O) (Mc (Ga ?_))))
 refine Yb O O (fun hc5=>?_) (fun hc5=>?_)
 refine Ff (zs:=[15]) (.free 0 (.free 1 (.free 2 (.free 3 (.free 4 (.free 5 (.free 6 (.free 7 (.free 8 (.free 9 (.free 10 (.free 11 (.free 12 (.free 13 (.free 14 (.act 15 .nil)))))))))))))))) hF ?_
 clear hF; intro w hF
 refine Db O (Yd O) (Db O (Va O) (Db O (Yd O) (Db O (Va O) ?_)))
 obtain ⟨ad5,P5,p5,Q5,q5,hA5,hk5,hx5,hy5⟩:=hT1.node_elem (i:=j) U
 refine Oa O (v:=.pointer (some (ad5.add (j * 2)))) (fun w hC=>Pa (i:=(j:Int)) Pr O hA5 O U U) (Oa O (v:=.pointer (some ((ad5.add (j * 2)).add 0))) (fun w hC=>Ph (a:=ad5.add (j * 2)) Xc O) (Oa O (v:=.slice (P5) ((lb[j]).1.length) (p5)) (fun w hC=>Ya isAgg25 O (hC.cell0 (hk5 0 Kb))) (Db O (Df underlying25 O) (Db O (Yd O) (Db O (Va O) (Db O (If (((t+1:Nat):Int)) O O) (Oa O (v:=.pointer (some ⟨b1,(t+1),none⟩)) (fun w hC=>Gb (i:=((t+1:Nat):Int)) ((t+1)) Nd O O U U U) ?_)))))))
 refine Oa rfl (v:=.int .i64 ((f1) ((t+1)))) (fun w hC=>Ya isAgg3 rfl (hC.intCell 1 rfl (by first | omega | (have:=h10 U; omega) | (have:=h01 U; omega) | (have:=h11 U U; omega)))) ?_
 refine Oa O (v:=.int .i64 (((sj+v01:Nat):Int))) (fun w hC=>Il O O (Id (by rw [hf1 _ U,e01 U,hC_.ht U]; omega) U U)) ?_
 refine Oa O (v:=.pointer (some ⟨b1,t,none⟩)) (fun w hC=>Gb (i:=((t:Nat):Int)) (t) Nd O O U U U) ?_
 refine Ad rfl 1 (l:=[.int .i64 (((sj+v01:Nat):Int))]) (cs':=Mb (N) (Pf (f1) (t) (((sj+v01:Nat):Int)))) hF sizeOf3 rfl (v:=.int .i64 (((sj+v01:Nat):Int))) rfl rfl Ed rfl (by rw [Xf]; simp only [List.length_singleton]; exact Nat.succ_le_of_lt (by first | omega | (have:=h10 U; omega) | (have:=h01 U; omega) | (have:=h11 U U; omega))) (Bg _) ?_
 clear hF; rintro w hF -
 replace hF:FR w0 [] [_,(b1,.cells (Mb (N) (Pf (f1) (t) (((sj+v01:Nat):Int)))) 3)] w:=hF
 refine Mc ?_
 exact Ib ⟨(Pf (f1) (t) (((sj+v01:Nat):Int))),(fun q hq=>(Sn hq).trans (hf1 q hq)),(by have q1:=hv1.1; have q2:=hv1.2; have q3:=hf1 (t+1) U; have q4:=e01; rw [Ol]; refine ⟨fun a b=>?_,fun a b=>?_,fun a b=>?_,fun a b=>?_⟩ <;> first | omega | (have:=q1 a; omega) | (have:=q2 a; omega)),YT,((hF.front 1 rfl).front 1 rfl)⟩
 refine Qa ?_
 exact Ib ⟨(f1),(hf1),(by have q1:=hv1.1; have q2:=hv1.2; have q3:=hf1 (t+1) U; have q4:=e01; refine ⟨fun a b=>?_,fun a b=>?_,fun a b=>?_,fun a b=>?_⟩ <;> first | omega | (have:=q1 a; omega) | (have:=q2 a; omega)),YT,((hF.front 1 rfl).front 1 rfl)⟩
 refine Jd O ?_
 refine Jd O ?_
 refine Jd O ?_
 refine Jd O ?_
 refine Jd O ?_
 refine Jd O ?_
 refine Jd O ?_
 refine Jd O ?_
 refine Jd O ?_
 refine Jd O ?_
 refine Jd O ?_
 refine Jd O ?_
 refine Jd O ?_
 refine Jd O ?_
 refine Jd O ?_
 refine Jd O ?_
 refine Jd O ?_
 refine Jd O ?_
 refine Jd O ?_
 refine Jd O ?_
 refine Jd O ?_
 refine Jd O ?_
 refine Db O (Gc O O) (Mc (Ga (Ie O (Qa ?_))))
 exact Ib ⟨(f1),(hf1),(by have q1:=hv1.1; have q2:=hv1.2; have q3:=hf1 (t+1) U; have q4:=e01; refine ⟨fun a b=>?_,fun a b=>?_,fun a b=>?_,fun a b=>?_⟩ <;> first | omega | (have:=q1 a; omega) | (have:=q2 a; omega)),YT,((hF.front 1 rfl).front 1 rfl)⟩
 clear hF; rintro σ w ⟨f2,hf2,hv2,hs,hF⟩
 refine Eg.slots hs ?_
 clear hs; intro σ
 refine Ga (Ia (Ca (Va O) (Ca (Va O) (Ca (Yg O O) (Ca (Jc O) ?_)))))
 refine Hb (d:=141) O (fun hg6=>?_) (fun hg6=>?_)
 refine Ca (Va O) (Ca (Va O) (Ca (Yg O O) (Ca (Ic O O) (Ea ?_))))
 refine Yb O O (fun hc6=>?_) (fun hc6=>?_)
 refine Ha ?_
 refine Uc [] (.free 0 (.free 1 (.free 2 (.free 3 (.free 4 (.free 5 (.free 6 (.free 7 (.free 8 (.free 9 (.act 10 (.free 11 (.free 12 (.free 13 (.free 14 (.act 15 .nil)))))))))))))))) hF ?_
 clear hF; rintro w hF -
 refine ⟨fun wq=>FR w0 [] [(b1,.cells (Mb (N) (f2)) 3)] wq,hF.drop 1,?_⟩
 refine Db O (Yd O) (Db O (Va O) (Db O (Yd O) (Db O (Va O) ?_)))
 obtain ⟨ad7,P7,p7,Q7,q7,hA7,hk7,hx7,hy7⟩:=hT0.node_elem (i:=i) U
 refine Oa O (v:=.pointer (some (ad7.add (i * 2)))) (fun w hC=>Pa (i:=(i:Int)) Pr O hA7 O U U) (Oa O (fun w hC=>Fc (l:=[.slice (P7) ((la[i]).1.length) (p7),.slice (Q7) ((la[i]).2.length) (q7)]) isAgg56 sizeOf56 O O (hC.cells0 hk7)) (Db O (Yd O) (Db O (Va O) ?_)))
 obtain ⟨ad8,P8,p8,Q8,q8,hA8,hk8,hx8,hy8⟩:=hT1.node_elem (i:=j) U
 refine Oa O (v:=.pointer (some (ad8.add (j * 2)))) (fun w hC=>Pa (i:=(j:Int)) Pr O hA8 O U U) (Oa O (fun w hC=>Fc (l:=[.slice (P8) ((lb[j]).1.length) (p8),.slice (Q8) ((lb[j]).2.length) (q8)]) isAgg56 sizeOf56 O O (hC.cells0 hk8)) ?_)
 refine Um hF (XJ _ _ _ _ _ _ _ _ _ (hF.rep hx7) (hF.rep hy7) _ _ _ _ _ _ (hF.rep hx8) (hF.rep hy8) (hRa.1 _ (List.getElem_mem U)) (hRb.1 _ (List.getElem_mem U)) (h80a _ (List.getElem_mem U)) (h80b _ (List.getElem_mem U))) O (Vb en_21 O O O) ?_
 clear hF; intro w hF
 refine ⟨hF.drop 1,?_⟩
 refine Db O (Ul O) (Db O (Fm O O) (Db O (Fm O O) (Oa O (v:=.pointer (some ⟨b2,t,none⟩)) (fun w hC=>Gb (i:=((t:Nat):Int)) (t) Nd O O U U U) ?_)))
 refine Rm rfl 0 (l:=[.int .i64 (((pN la[i] lb[j]:Nat):Int))]) (cs':=Mb (N) (Pf (g) (t) (((pN la[i] lb[j]:Nat):Int)))) hF sizeOf3 rfl (v:=.int .i64 (((pN la[i] lb[j]:Nat):Int))) rfl rfl Ed rfl (by rw [Xf]; simp only [List.length_singleton]; exact Nat.succ_le_of_lt (by first | omega | (have:=h10 U; omega) | (have:=h01 U; omega) | (have:=h11 U U; omega))) (Bg _) ?_
 clear hF; rintro w hF -
 replace hF:FR w0 [] [(b2,.cells (Mb (N) (Pf (g) (t) (((pN la[i] lb[j]:Nat):Int)))) 3),_] w:=hF
 refine ⟨hF.drop 1,?_⟩
 refine Mc (Ga ?_)
 refine Ff (zs:=[20]) (.free 0 (.free 1 (.free 2 (.free 3 (.free 4 (.free 5 (.free 6 (.free 7 (.free 8 (.free 9 (.free 10 (.free 11 (.free 12 (.free 13 (.free 14 (.free 15 (.free 16 (.free 17 (.free 18 (.free 19 (.act 20 .nil))))))))))))))))))))) hF ?_
 clear hF; intro w hF
 refine Db O (Yd O) (Db O (Va O) (Db O (Yd O) (Db O (Va O) (Oa O (v:=.pointer (some ⟨b1,t,none⟩)) (fun w hC=>Gb (i:=((t:Nat):Int)) (t) Nd O O U U U) ?_))))
 refine Oa rfl (v:=.int .i64 ((f2) (t))) (fun w hC=>Ya isAgg3 rfl (hC.intCell 1 rfl (by first | omega | (have:=h10 U; omega) | (have:=h01 U; omega) | (have:=h11 U U; omega)))) ?_
 refine Db O (Yd O) (Db O (Va O) (Oa O (v:=.pointer (some ⟨b2,t,none⟩)) (fun w hC=>Gb (i:=((t:Nat):Int)) (t) Nd O O U U U) ?_))
 refine Oa rfl (v:=.int .i64 ((Pf (g) (t) (((pN la[i] lb[j]:Nat):Int))) (t))) (fun w hC=>Ya isAgg3 rfl (hC.intCell 0 rfl (by first | omega | (have:=h10 U; omega) | (have:=h01 U; omega) | (have:=h11 U U; omega)))) ?_
 refine Db O (Yd O) (Db O (Va O) (Db O (Va O) (Db O (If (((t+lb.length:Nat):Int)) O O) (Db O (If (((t+lb.length+2:Nat):Int)) O O) (Oa O (v:=.pointer (some ⟨b1,(t+lb.length+2),none⟩)) (fun w hC=>Gb (i:=((t+lb.length+2:Nat):Int)) ((t+lb.length+2)) Nd O O U U U) ?_)))))
 refine Oa rfl (v:=.int .i64 ((f2) ((t+lb.length+2)))) (fun w hC=>Ya isAgg3 rfl (hC.intCell 1 rfl (by first | omega | (have:=h10 U; omega) | (have:=h01 U; omega) | (have:=h11 U U; omega)))) ?_
 refine Oa O (v:=.int .i64 (((pp+v11:Nat):Int))) (fun w hC=>Il O O (Id (by rw [Ol,hf2 _ U,e11 U U,hC_.hp U U]; omega) U U)) ?_
 refine Oa O (v:=.int .i64 (min ((f2) (t):Int) (((pp+v11:Nat):Int):Int))) (fun w hC=>J4 O O) (Oa O (v:=.pointer (some ⟨b1,t,none⟩)) (fun w hC=>Gb (i:=((t:Nat):Int)) (t) Nd O O U U U) ?_)
 refine Ad rfl 1 (l:=[.int .i64 (min ((f2) (t):Int) (((pp+v11:Nat):Int):Int))]) (cs':=Mb (N) (Pf (f2) (t) (min ((f2) (t):Int) (((pp+v11:Nat):Int):Int)))) hF sizeOf3 rfl (v:=.int .i64 (min ((f2) (t):Int) (((pp+v11:Nat):Int):Int))) rfl rfl Ed rfl (by rw [Xf]; simp only [List.length_singleton]; exact Nat.succ_le_of_lt (by first | omega | (have:=h10 U; omega) | (have:=h01 U; omega) | (have:=h11 U U; omega))) (Bg _) ?_
 clear hF; rintro w hF -
 replace hF:FR w0 [] [_,(b1,.cells (Mb (N) (Pf (f2) (t) (min ((f2) (t):Int) (((pp+v11:Nat):Int):Int)))) 3)] w:=hF
 refine Mc (Eb ?_)
 exact Ib ⟨(Pf (f2) (t) (min ((f2) (t):Int) (((pp+v11:Nat):Int):Int))),(Pf (g) (t) (((pN la[i] lb[j]:Nat):Int))),(fun q hq=>(Sn hq).trans (hf2 q hq)),(by have q1:=hv2; have c1:=hC_.cc; have c2:=hC_.cn; have c3:=hC_.nc; have c4:=hC_.nn; have a:i < la.length:=U; have b:j < lb.length:=U; have:=q1.1 a b; have:=c1 a b; rw [Ol]; omega),(fun q hq=>Sn hq),(fun h1 h2=>by rw [Ol]),K5,((hF.front 1 O).front 1 O)⟩
 refine Qa (Eb ?_)
 exact Ib ⟨(f2),(g),(hf2),(by have q1:=hv2; have c1:=hC_.cc; have c2:=hC_.cn; have c3:=hC_.nc; have c4:=hC_.nn; by_cases a:i < la.length; (have b:¬j < lb.length:=U; have:=q1.2.1 a b; have:=c2 a b; omega); (by_cases b:j < lb.length; (have:=q1.2.2.1 a b; have:=c3 a b; omega); (have:=q1.2.2.2 a b; have:=c4 a b; have:=h0_ a b; omega))),(fun q hq=>rfl),(fun h1 h2=>absurd h1 U),K5,((hF.front 1 O).front 1 O)⟩
 refine Da (Da (Da (Ca (Gc O O) (Ea (Ie O (Qa (Eb ?_)))))))
 exact Ib ⟨(f2),(g),(hf2),(by have q1:=hv2; have c1:=hC_.cc; have c2:=hC_.cn; have c3:=hC_.nc; have c4:=hC_.nn; by_cases a:i < la.length; (have b:¬j < lb.length:=U; have:=q1.2.1 a b; have:=c2 a b; omega); (by_cases b:j < lb.length; (have:=q1.2.2.1 a b; have:=c3 a b; omega); (have:=q1.2.2.2 a b; have:=c4 a b; have:=h0_ a b; omega))),(fun q hq=>rfl),(fun h1 h2=>absurd h1 U),K5,((hF.front 1 O).front 1 O)⟩
 clear hF; rintro σ w ⟨f3,g3,hf3,hv3,hg3,hw3,hs,hF⟩
 refine Eg.slots hs ?_
 clear hs; intro σ
 refine Ga (Fa (Ca (Va O) (Ca (Fo O O) (Ca (Wb O) (Xa ?_)))))
 refine Ib ⟨_,?_,j,((j:Int) - 1),f3,g3,O,U,(O),(hRF.step U hIX hf3 (by rw [hv3,hC_.e])),(hPF.step U hIX hg3 hw3),(by by_cases e:IX lb.length la.length lb.length=t; (rw [e,hv3]; have h:=CG (Nat.le_refl _) U (e.trans hIX.symm); have:=hC_.nn U U; omega); (rw [hf3 _ e]; exact hf0)),K5,hF⟩
 omega
 refine Dc (Cc O ?_)
 refine Eb (Ga (Fa (Ca (Va O) (Ca (Fo O O) (Ca (Wb O) (Xa ?_))))))
 refine Ib ⟨_,?_,i,((i:Int) - 1),f,g,rfl,U,(rfl),((by obtain rfl:l=0:=U; exact hRF)),((by obtain rfl:l=0:=U; exact hPF)),(hf0),BG,hF⟩
 omega
 refine Dc (Cc O ?_)
 refine Ga (Ia (Ca (Sh O) (Bc (Ca (Wb O) (Bc (Ca (Wb O) ?_))))))
 refine Ea (Ha (Ta ?_))
 refine Lc (fun μ σ w=>∃ (i:Nat),∃ (j:Nat),∃ (Ao:Option Addr),∃ (co:Nat),∃ (so:List (Nat × Obj)),∃ (acc:List (Int × Int)),μ=la.length+lb.length - (i+j)∧(i≤la.length)∧(j≤lb.length)∧(SlB 41 2 Ao acc.length co (As acc) so)∧(acc++Yw i j (la.drop i) (lb.drop j)=Yw 0 0 la lb)∧(acc.length≤i)∧AllEq σ [(7,.slice T0 la.length t0),(11,.int .i64 ((la.length:Nat))),(12,.int .i64 ((lb.length:Nat))),(13,.slice (some ⟨b1,0,none⟩) N N),(14,.slice (some ⟨b2,0,none⟩) N N),(18,.slice Ao acc.length co),(19,.int .i64 ((i:Int))),(20,.int .i64 ((j:Int)))]∧FR w0 [] ([(b2,.cells (Mb (N) (g)) 3),(b1,.cells (Mb (N) (f)) 3)]++(so++[])) w) _ ⟨0,0,none,0,[],[],O,(Nat.zero_le _),(Nat.zero_le _),(SlB.nil _ _),Ma,(Nat.zero_le _),K5,hF⟩ ?_
 clear hF; rintro μ σ w ⟨i,j,Ao,co,so,acc,rfl,hi,hj,hSo,hac,hal,hs,hF⟩
 refine Cg.slots hs ?_
 clear hs; intro σ
 refine Ha (Ia (Ca (Va O) (Ca (Va O) (Ca (Yg O O) (Ca (Jc O) ?_)))))
 refine Hb (d:=184) O (fun hg9=>?_) (fun hg9=>?_)
 refine Ca (Va O) (Ca (Va O) (Ca (Yg O O) (Ca (Ic O O) (Ea ?_))))
 refine Yb O O (fun hc7=>?_) (fun hc7=>?_)
 refine Qa (Ga (Ta (Ha ?_)))
 obtain ⟨si,sj,pp,v10,v01,v11,vv,hC_⟩:=M_ hRa.2 hRb.2 hmx i j
 have hlm:=hC_.lim
 obtain ⟨t,hIX⟩:∃ t,IX lb.length i j=t:=⟨_,rfl⟩
 obtain ⟨r,hr⟩:∃ r,r=i * (lb.length+1):=⟨_,rfl⟩
 have htr:t=r+j:=by rw [←hIX,hr]; rfl
 have hmi:=EF (n:=la.length) (i:=i) (j:=j) U U hll.1 hll.2
 rw [hIX,←hr] at hmi
 have h00:t < N:=by rw [←hIX,hN]; exact Lz U U
 have h10:i < la.length→t+lb.length+1 < N:=fun h=>by rw [←hIX,←Zt,hN]; exact Lz U U
 have h01:j < lb.length→t+1 < N:=fun h=>by rw [←hIX,←Ws,hN]; exact Lz U U
 have h11:i < la.length→j < lb.length→t+lb.length+2 < N:=fun h h2=>by have h3:t+lb.length+2=IX lb.length (i+1) (j+1):=(by rw [Zt,Ws,hIX]; omega); rw [h3,hN]; exact Lz U U
 have e10:i < la.length→f (t+lb.length+1)=(v10:Int):=fun h=>by rw [←hIX,←Zt,hC_.e10]; exact hRF _ _ U U U
 have e01:j < lb.length→f (t+1)=(v01:Int):=fun h=>by rw [←hIX,←Ws,hC_.e01]; exact hRF _ _ U U U
 have e11:i < la.length→j < lb.length→f (t+lb.length+2)=(v11:Int):=fun h h2=>by have h3:t+lb.length+2=IX lb.length (i+1) (j+1):=(by rw [Zt,Ws,hIX]; omega); rw [h3,hC_.e11]; exact hRF _ _ U U U
 have e00:f t=(vv:Int):=by rw [←hIX,hC_.e]; exact hRF _ _ U U U
 have hP_:g t=(pp:Int):=by rw [←hIX,hC_.hp U U]; exact hPF i j U U U
 refine Fa (Ca (Va O) (Ca (Va O) (Ca (If (((lb.length+1:Nat):Int)) O O) ?_)))
 refine Ja (v:=.int .i64 (((r:Nat):Int))) (Fl O O (Id (by rw [hr,Int.natCast_mul]) U U)) ?_
 refine Ca (Va O) (Ca (If (((t:Nat):Int)) O O) (Ca (Wb O) (Ea (Ha ?_))))
 refine Uc [] (.free 0 (.free 1 (.free 2 (.free 3 (.free 4 (.free 5 (.free 6 (.free 7 (.free 8 (.free 9 (.free 10 (.free 11 (.free 12 (.free 13 (.free 14 (.free 15 (.free 16 .nil))))))))))))))))) hF ?_
 clear hF; rintro w hF -
 refine ⟨fun wq=>FR w0 [] [(b2,.cells (Mb (N) (g)) 3),(b1,.cells (Mb (N) (f)) 3)] wq,hF.sub (.cons_cons _ (.cons_cons _ (List.nil_sublist _))),?_⟩
 refine Db O (Yd O) (Db O (Va O) (Oa O (v:=.pointer (some ⟨b2,t,none⟩)) (fun w hC=>Gb (i:=((t:Nat):Int)) (t) Nd O O U U U) ?_))
 refine Oa rfl (v:=.int .i64 ((g) (t))) (fun w hC=>Ya isAgg3 rfl (hC.intCell 0 rfl (by first | omega | (have:=h10 U; omega) | (have:=h01 U; omega) | (have:=h11 U U; omega)))) ?_
 refine Db O (Yd O) (Db O (Va O) (Db O (Va O) (Db O (If (((t+lb.length:Nat):Int)) O O) (Db O (If (((t+lb.length+2:Nat):Int)) O O) (Oa O (v:=.pointer (some ⟨b1,(t+lb.length+2),none⟩)) (fun w hC=>Gb (i:=((t+lb.length+2:Nat):Int)) ((t+lb.length+2)) Nd O O U U U) ?_)))))
 refine Oa rfl (v:=.int .i64 ((f) ((t+lb.length+2)))) (fun w hC=>Ya isAgg3 rfl (hC.intCell 1 rfl (by first | omega | (have:=h10 U; omega) | (have:=h01 U; omega) | (have:=h11 U U; omega)))) ?_
 refine Oa O (v:=.int .i64 ((g t+f (t+lb.length+2)))) (fun w hC=>Il O O (Id O (by have:=e11 U U; omega) (by have:=e11 U U; omega))) ?_
 refine Db O (Yd O) (Db O (Va O) (Oa O (v:=.pointer (some ⟨b1,t,none⟩)) (fun w hC=>Gb (i:=((t:Nat):Int)) (t) Nd O O U U U) ?_))
 refine Oa rfl (v:=.int .i64 ((f) (t))) (fun w hC=>Ya isAgg3 rfl (hC.intCell 1 rfl (by first | omega | (have:=h10 U; omega) | (have:=h01 U; omega) | (have:=h11 U U; omega)))) ?_
 refine Db O (Th O O) (Mc (Ga ?_))
 refine Yb O O (fun hc8=>?_) (fun hc8=>?_)
 refine Ia (Ca (Yd O) (Ca (Va O) (Ca (Va O) ?_)))
 refine Ja (w':=w) (v:=.agg #[.int .i64 ((i:Int)),.int .i64 ((j:Int))]) Qb ?_
 refine Pe 1 hF (Za (cs:=#[.int .i64 ((i:Int)),.int .i64 ((j:Int))]) underlying29 sizeOf41 zeroValue41 Ua Ua Qb) ?_
 clear hF; rintro b3 w hb3 hF -
 refine Kf [(b3,.cells #[.int .i64 ((i:Int)),.int .i64 ((j:Int))] 41),(b2,.cells (Mb (N) (g)) 3),(b1,.cells (Mb (N) (f)) 3)] [] (news:=[.int .i64 ((i:Int)),.int .i64 ((j:Int))]) (len':=(acc++[((i:Int),(j:Int))]).length) (ys:=As (acc++[((i:Int),(j:Int))])) NT hF hSo O O (O) (fun _=>⟨_,O,Xb (hF.cellsAll 0 O)⟩) (by simp [Value.oneCell']) (by simp only [maxLen]; omega) Ma (by simp [As]) U ?_
 clear hF; intro A10 c10 o_10 w hS10_o hF hE hnew
 clear hE hnew
 refine Ca (Sh O) (Bc (Ca (Va O) (Ca (If (((i+1:Nat):Int)) O O) (Ca (Wb O) (Ea (Fa (Ca (Va O) (Ca (If (((j+1:Nat):Int)) O O) (Ca (Wb O) ?_)))))))))
 refine Xa (Eb ?_)
 refine Ib ⟨_,?_,i+1,j+1,A10,c10,o_10,acc++[((i:Int),(j:Int))],O,U,U,(hS10_o),(by rw [List.append_assoc,List.singleton_append,←hac,Ar (la:=la) (lb:=lb) (i:=i) (j:=j) U U,if_pos (by have a1:=e00; have a2:=e10 U; have a3:=e11 U U; have a4:=hP_; have a5:=hC_.hs U; have a6:=hC_.hp U U; rw [←hC_.e,←hC_.e11,←a6]; omega)]),(by simp only [List.length_append,List.length_cons,List.length_nil]; omega),K5,hF.drop 1⟩
 omega
 refine Ha ?_
 refine Uc [] (.free 0 (.free 1 (.free 2 (.free 3 (.free 4 (.free 5 (.free 6 (.free 7 (.free 8 (.free 9 (.free 10 (.free 11 (.free 12 (.free 13 (.free 14 (.free 15 (.free 16 (.free 17 (.free 18 .nil))))))))))))))))))) hF ?_
 clear hF; rintro w hF -
 refine ⟨fun wq=>FR w0 [] [(b2,.cells (Mb (N) (g)) 3),(b1,.cells (Mb (N) (f)) 3)] wq,hF.sub (.cons_cons _ (.cons_cons _ (List.nil_sublist _))),?_⟩
 refine Db O (Yd O) (Db O (Va O) ?_)
 obtain ⟨ad11,P11,p11,Q11,q11,hA11,hk11,hx11,hy11⟩:=hT0.node_elem (i:=i) U
 refine Oa O (v:=.pointer (some (ad11.add (i * 2)))) (fun w hC=>Pa (i:=(i:Int)) Pr O hA11 O U U) (Oa O (v:=.pointer (some ((ad11.add (i * 2)).add 0))) (fun w hC=>Ph (a:=ad11.add (i * 2)) Xc O) (Oa O (v:=.slice (P11) ((la[i]).1.length) (p11)) (fun w hC=>Ya isAgg25 O (hC.cell0 (hk11 0 Kb))) (Db O (Df underlying25 O) (Db O (Yd O) (Db O (Va O) (Db O (Va O) (Db O (If (((t+lb.length:Nat):Int)) O O) (Db O (If (((t+lb.length+1:Nat):Int)) O O) (Oa O (v:=.pointer (some ⟨b1,(t+lb.length+1),none⟩)) (fun w hC=>Gb (i:=((t+lb.length+1:Nat):Int)) ((t+lb.length+1)) Nd O O U U U) ?_)))))))))
 refine Oa rfl (v:=.int .i64 ((f) ((t+lb.length+1)))) (fun w hC=>Ya isAgg3 rfl (hC.intCell 1 rfl (by first | omega | (have:=h10 U; omega) | (have:=h01 U; omega) | (have:=h11 U U; omega)))) ?_
 refine Oa O (v:=.int .i64 (((si+v10:Nat):Int))) (fun w hC=>Il O O (Id (by rw [e10 U,hC_.hs U]; omega) U U)) ?_
 refine Db O (Yd O) (Db O (Va O) (Oa O (v:=.pointer (some ⟨b1,t,none⟩)) (fun w hC=>Gb (i:=((t:Nat):Int)) (t) Nd O O U U U) ?_))
 refine Oa rfl (v:=.int .i64 ((f) (t))) (fun w hC=>Ya isAgg3 rfl (hC.intCell 1 rfl (by first | omega | (have:=h10 U; omega) | (have:=h01 U; omega) | (have:=h11 U U; omega)))) ?_
 refine Db O (Th O O) (Mc (Ga ?_))
 refine Yb O O (fun hc9=>?_) (fun hc9=>?_)
 refine Fa (Ca (Va O) (Ca (If (((i+1:Nat):Int)) O O) (Ca (Wb O) (Xa (Eb ?_)))))
 refine Ib ⟨_,?_,i+1,j,Ao,co,so,acc,O,U,U,(hSo),(by rw [←hac,Ar (la:=la) (lb:=lb) (i:=i) (j:=j) U U,if_neg (by have a1:=e00; have a2:=e10 U; have a3:=e11 U U; have a4:=hP_; have a5:=hC_.hs U; have a6:=hC_.hp U U; rw [←hC_.e,←hC_.e11,←a6]; omega),if_pos (by have a1:=e00; have a2:=e10 U; have a5:=hC_.hs U; rw [←hC_.e,←hC_.e10]; simp only [Tl]; omega)]),U,K5,hF⟩
 omega
 refine Fa (Ca (Va O) (Ca (If (((j+1:Nat):Int)) O O) (Ca (Wb O) (Xa (Eb ?_)))))
 refine Ib ⟨_,?_,i,j+1,Ao,co,so,acc,O,U,U,(hSo),(by rw [←hac,Ar (la:=la) (lb:=lb) (i:=i) (j:=j) U U,if_neg (by have a1:=e00; have a2:=e10 U; have a3:=e11 U U; have a4:=hP_; have a5:=hC_.hs U; have a6:=hC_.hp U U; rw [←hC_.e,←hC_.e11,←a6]; omega),if_neg (by have a1:=e00; have a2:=e10 U; have a5:=hC_.hs U; rw [←hC_.e,←hC_.e10]; simp only [Tl]; omega)]),U,K5,hF⟩
 omega
 refine Dc (Cc O ?_)
 refine Ga (Ha ?_)
 refine Uc [] (.free 0 (.free 1 (.free 2 (.free 3 (.free 4 (.free 5 (.free 6 .nil))))))) hF ?_
 clear hF; rintro w hF -
 refine ⟨fun wq=>FR w0 [] [(b2,.cells (Mb (N) (g)) 3),(b1,.cells (Mb (N) (f)) 3)] wq,hF.sub (.cons_cons _ (.cons_cons _ (List.nil_sublist _))),?_⟩
 refine Db O (Yd O) (Db O (Yd O) (Oa O (v:=.pointer (some ⟨b1,0,none⟩)) (fun w hC=>Gb (i:=0) (0) Nd O O U U U) (Oa O (v:=.int .i64 ((f) (0))) (fun w hC=>Ya isAgg3 O (hC.intCell 1 O U)) (Db O (Sh O) (Db O (Wb O) (Db O (Wb O) (Mc (Ga ?_))))))))
 refine Ub (Rb (Sa (Bq (v:=.slice _ _ _) (x:=.int .i64 ((f) (0))) (y:=.int .i64 0) O O O O) ?_))
 have he:acc=Yw 0 0 la lb:=by rw [←hac,E1 U,List.append_nil]
 have hin:=Tr la.length lb.length (la.length+lb.length) 0 0 la lb U U
 rw [he] at hSo
 have hrep:=hSo.rep (w0:=w0) (pre:=[_,_]) (post:=[]) hF (RX.plain (ids:=[]) (fun S=>Vo (m:=Yw 0 0 la lb) (fun z hz=>by have:=hin z hz; omega))) Ma
 have hf00:f 0=((al Tl pN la lb:Nat):Int):=by have h:=hRF 0 0 U U U; simpa [IX] using h
 exact ⟨Ao,co,by rw [he,hf00],hrep.weaken fun _ _ _=>trivial,hs01.trans hF.same⟩
 refine Da (Da (Da (Ca (Gc O O) (Ea (Ie O ?_)))))
 refine Dc (Cc O ?_)
 refine Ga (Ha ?_)
 refine Uc [] (.free 0 (.free 1 (.free 2 (.free 3 (.free 4 (.free 5 (.free 6 .nil))))))) hF ?_
 clear hF; rintro w hF -
 refine ⟨fun wq=>FR w0 [] [(b2,.cells (Mb (N) (g)) 3),(b1,.cells (Mb (N) (f)) 3)] wq,hF.sub (.cons_cons _ (.cons_cons _ (List.nil_sublist _))),?_⟩
 refine Db O (Yd O) (Db O (Yd O) (Oa O (v:=.pointer (some ⟨b1,0,none⟩)) (fun w hC=>Gb (i:=0) (0) Nd O O U U U) (Oa O (v:=.int .i64 ((f) (0))) (fun w hC=>Ya isAgg3 O (hC.intCell 1 O U)) (Db O (Sh O) (Db O (Wb O) (Db O (Wb O) (Mc (Ga ?_))))))))
 refine Ub (Rb (Sa (Bq (v:=.slice _ _ _) (x:=.int .i64 ((f) (0))) (y:=.int .i64 0) O O O O) ?_))
 have he:acc=Yw 0 0 la lb:=by rw [←hac,E1 U,List.append_nil]
 have hin:=Tr la.length lb.length (la.length+lb.length) 0 0 la lb U U
 rw [he] at hSo
 have hrep:=hSo.rep (w0:=w0) (pre:=[_,_]) (post:=[]) hF (RX.plain (ids:=[]) (fun S=>Vo (m:=Yw 0 0 la lb) (fun z hz=>by have:=hin z hz; omega))) Ma
 have hf00:f 0=((al Tl pN la lb:Nat):Int):=by have h:=hRF 0 0 U U U; simpa [IX] using h
 exact ⟨Ao,co,by rw [he,hf00],hrep.weaken fun _ _ _=>trivial,hs01.trans hF.same⟩
end Go.Scarf
