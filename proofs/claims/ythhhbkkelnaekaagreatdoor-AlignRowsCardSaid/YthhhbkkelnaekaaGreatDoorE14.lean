/- A part of the proof. -/
import Derived.Test.YthhhbkkelnaekaaGreatDoorE12
import Derived.Test.YthhhbkkelnaekaaGreatDoorX2
set_option linter.all false
set_option maxHeartbeats 8000000
set_option maxRecDepth 10000
namespace Go.Scarf
open Go.RowKit Go.Proofs Go.Proofs.Tryz
def PK (m:Bool) (ind d:Nat) (k:Int) (ks:List Str) (xs:List Tree):List Str:=if k=6 then Cn m ind xs ks (d+1) else Jq m ind xs (d+1)
def tG (m:Bool) (ind d:Nat) (k:Int) (ks:List Str) (xs:List Tree) (j:Nat):Str:=(if k=6 then 123 else 91)::Ej m ind d true ((PK m ind d k ks xs).take j)
theorem V7 (m:Bool) (ind d:Nat) (k:Int) (ks:List Str) (xs:List Tree):(PK m ind d k ks xs).length=xs.length:=by
  unfold PK
  split
  · exact No _ _ _ _ _
  · rw [Gr,List.length_map]
theorem Vv (m:Bool) (ind d:Nat):∀ (ps:List Str) (j:Nat) (h:j < ps.length) (b:Bool),Ej m ind d b (ps.take (j+1))=Ej m ind d b (ps.take j)++((if b=true∧j=0 then [] else [44])++(Oh m ind (d+1)++ps[j]))
  | p::ps,0,h,b=>by cases b <;> simp [Ej]
  | p :: ps, j + 1, h, b => by
    have h1:j < ps.length:=by simpa using h
    rw [List.take_succ_cons,List.take_succ_cons,Ej,Ej,Vv m ind d ps j h1 false]
    simp
theorem ZB (m:Bool) (ind d:Nat):∀ (ps:List Str) (j:Nat) (b:Bool),(Ej m ind d b (ps.take j)).length≤(Ej m ind d b ps).length
  | [],j,b=>by simp
  | p::ps,0,b=>by simp [Ej]
  | p :: ps, j + 1, b => by
    have:=ZB m ind d ps j false
    rw [List.take_succ_cons,Ej,Ej]
    simp only [List.length_append]
    omega
theorem WH (m:Bool) (ind d:Nat) (k:Int) (ks:List Str) (xs:List Tree):tG m ind d k ks xs 0=[if k=6 then 123 else 91]:=by rw [tG,List.take_zero,Ej]
theorem WR {m:Bool} {ind d:Nat} {k:Int} {ks:List Str} {xs:List Tree} {j:Nat} (h6:k=6→ks.length=xs.length) (h:j < xs.length) :
    (k=6∧∃ hk:j < ks.length,tG m ind d k ks xs (j+1)=tG m ind d k ks xs j++((if j=0 then [] else [44])++(Oh m ind (d+1)++(qS ks[j]++([58]++((if m then [32] else [])++Xg m ind xs[j] (d+1))))))) ∨
    (¬k=6∧tG m ind d k ks xs (j+1)=tG m ind d k ks xs j++((if j=0 then [] else [44])++(Oh m ind (d+1)++Xg m ind xs[j] (d+1)))):=by
  have h1:j < (PK m ind d k ks xs).length:=by rw [V7]; exact h
  by_cases hk:k=6
  · have hl : j < ks.length := by have := h6 hk; omega
    refine .inl ⟨hk,hl,?_⟩
    have h2:(PK m ind d k ks xs)[j]=qS ks[j]++([58]++((if m then [32] else [])++Xg m ind xs[j] (d+1))):=by
      have e:PK m ind d k ks xs=Cn m ind xs ks (d+1):=if_pos hk
      rw [List.getElem_of_eq e,Bz m ind (d+1) xs ks j h hl,N_]
    rw [tG,Vv m ind d _ j h1 true,h2,tG]
    simp
  · refine .inr ⟨hk, ?_⟩
    have h2:(PK m ind d k ks xs)[j]=Xg m ind xs[j] (d+1):=by
      have e:PK m ind d k ks xs=Jq m ind xs (d+1):=if_neg hk
      have e2:=Gr m ind (d+1) xs
      rw [List.getElem_of_eq (e.trans e2),List.getElem_map]
    rw [tG,Vv m ind d _ j h1 true,h2,tG]
    simp
theorem VF {m:Bool} {ind d:Nat} {k:Int} {t:Str} {ks:List Str} {xs:List Tree} (hk:k=5∨k=6):Xg m ind (.node k t ks xs) d=tG m ind d k ks xs xs.length++((if xs.length=0 then [] else Oh m ind d)++[if k=6 then 125 else 93]):=by
  have hl:=V7 m ind d k ks xs
  have hn:(PK m ind d k ks xs=[])↔xs.length=0:=by rw [←hl]; exact List.length_eq_zero_iff.symm
  rw [tG,List.take_of_length_le U]
  rcases hk with rfl | rfl
  · rw [Xg, if_neg U, if_neg U, if_pos rfl, Gn]
    have e:PK m ind d 5 ks xs=Jq m ind xs (d+1):=if_neg U
    have e5:(if (5:Int)=6 then (123:UInt8) else 91)=91:=rfl
    have e6:(if (5:Int)=6 then (125:UInt8) else 93)=93:=rfl
    rw [←e,e5,e6]
    by_cases h:xs.length=0
    · rw [if_pos h,if_pos (hn.2 h)]; simp
    · rw [if_neg h,if_neg (fun q=>h (hn.1 q))]; simp
  · rw [Xg, if_neg U, if_neg U, if_neg U, if_pos rfl, Gn]
    have e:PK m ind d 6 ks xs=Cn m ind xs ks (d+1):=if_pos rfl
    have e5:(if (6:Int)=6 then (123:UInt8) else 91)=123:=rfl
    have e6:(if (6:Int)=6 then (125:UInt8) else 93)=125:=rfl
    rw [←e,e5,e6]
    by_cases h:xs.length=0
    · rw [if_pos h,if_pos (hn.2 h)]; simp
    · rw [if_neg h,if_neg (fun q=>h (hn.1 q))]; simp
theorem AU {m:Bool} {ind d:Nat} {k:Int} {t:Str} {ks:List Str} {xs:List Tree} (hk:k=5∨k=6) (j:Nat):(tG m ind d k ks xs j).length+1≤(Xg m ind (.node k t ks xs) d).length:=by
  have h:=congrArg List.length (VF (m:=m) (ind:=ind) (d:=d) (t:=t) (ks:=ks) (xs:=xs) hk)
  have h3:=ZB m ind d (PK m ind d k ks xs) j true
  have h4:(tG m ind d k ks xs xs.length).length=(Ej m ind d true (PK m ind d k ks xs)).length+1:=by rw [tG,List.take_of_length_le (by rw [V7]; exact Nat.le_refl _)]; rfl
  simp only [List.length_append,List.length_cons,List.length_nil,h4] at h
  rw [tG]
  simp only [List.length_cons]
  omega
theorem F3 (n:Nat):(Lib.repeatL [32] n).length=n:=by
  induction n with
  | zero=>rfl
  | succ n ih=>simp [Lib.repeatL,ih]; try omega
def Rx (m:Bool) (ind:Nat):Int:=if m then (ind:Int) else -1
def UE (x:Tree):Prop:=∀ (m:Bool) (ind d:Nat) S w0 cs,Rep S w0 (Vc x) cs→Fe rnodeB x=true→Lf x≤16777216→ind * (d+Cd x)≤1000000000→d+Cd x≤1000000000→(Xg m ind x d).length≤4398046511104 →
  Calls prog 107 #[.agg cs.toArray,.int .i64 (Rx m ind),.int .i64 (d:Nat)] w0 (De fun v w'=>v=.string (bs (Xg m ind x d))∧Same [] w0 w')
theorem J9 {m:Bool} {ind:Nat} (h:0≤Rx m ind):m=true:=by unfold Rx at h; cases m <;> simp_all
theorem X2 {m:Bool} {ind:Nat} (h:¬0≤Rx m ind):m=false:=by unfold Rx at h; cases m <;> simp_all
theorem EP {m:Bool} {ind d:Nat} (hm:m=true) (hb:ind * d≤1000000000):IntKind.i64.wrap (Rx m ind * ((d:Nat):Int))=((ind * d:Nat):Int):=by
  subst hm
  have e:Rx true ind=((ind:Nat):Int):=rfl
  rw [e]
  exact Id Ma U U
theorem L1 {l:List Str} {j:Nat} (h:j < l.length):l.getD j []=l[j]:=by simp [List.getD,h]
def kG (m:Bool) (k:Int) (ks:List Str) (j:Nat):Str:=if k=6 then qS (ks.getD j [])++([58]++(if m then [32] else [])) else []
theorem US {m:Bool} {ind d:Nat} {k:Int} {ks:List Str} {xs:List Tree} {j:Nat} (h6:k=6→ks.length=xs.length) (h:j < xs.length) :
    tG m ind d k ks xs (j+1)=tG m ind d k ks xs j++((if j=0 then [] else [44])++(Oh m ind (d+1)++(kG m k ks j++Xg m ind xs[j] (d+1)))):=by
  rcases WR (m:=m) (ind:=ind) (d:=d) h6 h with ⟨hk,hj,e⟩ | ⟨hk,e⟩
  · rw [e,kG,if_pos hk,L1 hj]; simp
  · rw [e,kG,if_neg hk]; simp
theorem HA (m:Bool) (ind d:Nat):(Oh m ind d).length≤1+ind * d:=by
  rw [Oh]; split
  · simp [F3]; omega
  · simp
theorem NF {k:Int} {t:Str} {ks:List Str} {xs:List Tree} (h:rnodeB (.node k t ks xs)=true):1≤k∧k≤6:=by
  rcases Rz h with ⟨h,_⟩ | ⟨h,_⟩ | ⟨h,_⟩ | ⟨h,_⟩ | ⟨h,_⟩ | ⟨h,_⟩ <;> omega
theorem UJ {k:Int} {t:Str} {ks:List Str} {xs:List Tree} (h:rnodeB (.node k t ks xs)=true) (hk:k=6):ks.length=xs.length:=by
  rcases Rz h with ⟨h,_⟩ | ⟨h,_⟩ | ⟨h,_⟩ | ⟨h,_⟩ | ⟨h,_⟩ | ⟨_,_,_,_,h⟩
  all_goals first | exact h | omega
theorem XF (k:Int) (t:Str) (ks:List Str) (xs:List Tree) (ih:∀ x∈xs,UE x) (m:Bool) (ind d:Nat) (S:Nat→Prop) (w0:World) (A:Option Addr) (c:Nat) (B:Option Addr) (e:Nat) (hR:Rep S w0 (Vc (.node k t ks xs)) [.int .i64 k,.string (bs t),.slice A ks.length c,.slice B xs.length e]) (hK:Rep S w0 (Hf ks) [.slice A ks.length c]) (hX:Rep S w0 (.slice (Wc xs)) [.slice B xs.length e]) (hn:rnodeB (.node k t ks xs)=true∧∀ x∈xs,Fe rnodeB x=true) (hmt:t.length≤16777216) (hmk:Yl ks≤16777216) (hmx:Nk xs≤16777216) (hd:ind * (d+(Md xs+1))≤1000000000) (hd2:d+(Md xs+1)≤1000000000) (hl:(Xg m ind (.node k t ks xs) d).length≤4398046511104):Calls prog 107 #[.agg #[.int .i64 k,.string (bs t),.slice A ks.length c,.slice B xs.length e],.int .i64 (Rx m ind),.int .i64 (d:Nat)] w0 (De fun v w'=>v=.string (bs (Xg m ind (.node k t ks xs) d))∧Same [] w0 w'):=by
 have hKl:=hK.slice_len
 have hXl:=hX.slice_len
 have hkk:=NF hn.1
 have h6:k=6→ks.length=xs.length:=fun h=>UJ hn.1 h
 have hbL1:ind * (d+1)≤1000000000:=Nat.le_trans (Nat.mul_le_mul_left ind U) hd
 have hbL0:ind * d≤1000000000:=Nat.le_trans (Nat.mul_le_mul_left ind U) hd
 refine Ka func107 O ntmps107 Kb (Dp _ _ _) ?_
 have hF:=FR.start w0 []
 refine Ia ?_
 refine Bh hF O ?_
 clear hF; rintro b1 w hb1 hF -
 refine Ca (Rd O) (Ea (Ha (Ia (Ca (Ec Ke O) (Tc (Hl isAgg3 O hF.F 0 O O) (Ea (Ta (Ia (Ca (Th O O) ?_)))))))))
 refine Ca (Hc O) (Ea ?_)
 refine Yb O O (fun hc0=>?_) (fun hc0=>?_)
 refine Ia (Ca (Rd O) (Ea ?_))
 refine Td (v:=.string (bs [110,117,108,108])) O O ?_
 exact ⟨by rw [Xg,if_pos U],hF.same⟩
 refine Ha (Ia (Ca (Th O O) (Ca (Hc O) (Ea ?_))))
 refine Yb O O (fun hc1=>?_) (fun hc1=>?_)
 refine Qa (Ga (Ae O (Ia (Ca (Ec Of O) (Tc (Tp isAgg9 O hF.F 0 O O) (Ca (Rd O) (Ea ?_)))))))
 refine Td (v:=.string (bs t)) O O ?_
 exact ⟨by rw [Xg,if_neg U,if_neg U,if_neg U,if_neg U],hF.same⟩
 refine Fa (Ca (Th O O) (Ca (Hc O) (Ea ?_)))
 refine Yb O O (fun hc2=>?_) (fun hc2=>?_)
 refine Ia (Ca (Ec Of O) (Tc (Tp isAgg9 O hF.F 0 O O) (Ca (Rd O) (Ea ?_))))
 refine Td (v:=.string (bs t)) O O ?_
 exact ⟨by rw [Xg,if_neg U,if_neg U,if_neg U,if_neg U],hF.same⟩
 refine Ia (Ca (Th O O) (Ca (Hc O) (Ea ?_)))
 refine Yb O O (fun hc3=>?_) (fun hc3=>?_)
 refine Ia (Ca (Ec Of O) (Tc (Tp isAgg9 O hF.F 0 O O) ?_))
 refine Jb hF (OC t U _) (Cb BP O O) ?_
 clear hF; intro w hF
 refine Ca (Ul O) (Ca (D7 O O) (Ca (Fm O O) (Ca (Rd O) (Ca (Wb O) (Bc (Ca (Qc O) (Ca (Rd O) (Ea ?_))))))))
 refine Td (v:=.string (bs (qS t))) O O ?_
 exact ⟨by rw [Xg,if_neg U,if_pos U],hF.same⟩
 refine Qa (Eb (Ga (Ia (Ca (Rd O) (Bc (Ca (Rd O) (Ea ?_)))))))
 have hk56:k=5∨k=6:=by omega
 refine Ha ?_
 refine Qf (fun σ w=>∃ (o:UInt8),∃ (c9:UInt8),(o=if k=6 then 123 else 91)∧(c9=if k=6 then 125 else 93)∧AllEq σ [(1,.int .i64 (Rx m ind)),(2,.int .i64 ((d:Int))),(3,.pointer (some ⟨b1,0,none⟩)),(9,.string (bs ([o]))),(10,.string (bs ([c9])))]∧FR w0 [] [(b1,.cells #[.int .i64 k,.string (bs t),.slice A ks.length c,.slice B xs.length e] 27)] w) ?_ ?_
 refine Ia (Ca (Ec Ke O) (Tc (Hl isAgg3 O hF.F 0 O O) (Ca (Th O O) (Ea ?_))))
 refine Yb O O (fun hc4=>?_) (fun hc4=>?_)
 refine Ia (Ca (Rd O) (Ea (Fa (Ca (Rd O) (Xa ?_)))))
 exact Ib ⟨(123),(125),(by first | (rw [if_pos U]) | (rw [if_neg U])),(by first | (rw [if_pos U]) | (rw [if_neg U])),Am,hF⟩
 refine Qa ?_
 exact Ib ⟨(91),(93),(by first | (rw [if_pos U]) | (rw [if_neg U])),(by first | (rw [if_pos U]) | (rw [if_neg U])),Am,hF⟩
 clear hF; rintro σ w ⟨o,c9,ho,hc9,hs,hF⟩
 refine Eg.slots hs ?_
 clear hs; intro σ
 refine Ga (Ha (Ia (Ca (Ec Pc O) (Tc (Mf isAgg22 O hF.F 0 O O) (Ca (Df underlying22 O) (Ca (Th O O) (Ea ?_)))))))
 refine Yb O O (fun hc5=>?_) (fun hc5=>?_)
 refine Ia (Ca (Qc O) (Ca (Qc O) ?_))
 refine Ja (v:=.string (bs (([o])++([c9])))) (Gh O O (by (try simp only [List.length_append,List.length_cons,List.length_nil]); omega)) ?_
 refine Ca (Rd O) (Ea ?_)
 refine Td (v:=.string (bs (([o])++([c9])))) O O ?_
 exact ⟨by rw [VF hk56,if_pos U,show xs.length=0 by omega,WH,ho,hc9]; rfl,hF.same⟩
 refine Qa (Ga (Ia (Ca (Qc O) (Ca (Rd O) (Ea (Ha (Ia (Ca (Wb O) (Ea ?_)))))))))
 refine Ta ?_
 refine Lc (fun μ σ w=>∃ (j:Nat),∃ (s:Str),μ=xs.length - j∧(j≤xs.length)∧(s=tG m ind d k ks xs j)∧AllEq σ [(1,.int .i64 (Rx m ind)),(2,.int .i64 ((d:Int))),(3,.pointer (some ⟨b1,0,none⟩)),(10,.string (bs ([c9]))),(11,.string (bs s)),(12,.int .i64 ((j:Int)))]∧FR w0 [] [(b1,.cells #[.int .i64 k,.string (bs t),.slice A ks.length c,.slice B xs.length e] 27)] w) _ ⟨0,[o],O,(Nat.zero_le _),(by rw [WH,ho]),Iu,hF⟩ ?_
 clear hF; rintro μ σ w ⟨j,s,rfl,hj,hs,hs,hF⟩
 refine Cg.slots hs ?_
 clear hs; intro σ
 have hsl:s.length+1≤4398046511104:=by rw [hs]; exact Nat.le_trans (AU hk56 j) hl
 refine Ha (Ia (Ca (Va O) (Ca (Ec Pc O) (Tc (Mf isAgg22 O hF.F 0 O O) (Ca (Df underlying22 O) (Ca (Yg O O) (Ea ?_)))))))
 refine Yb O O (fun hc6=>?_) (fun hc6=>?_)
 have hjx:j < xs.length:=by omega
 have hsj:=US (m:=m) (ind:=ind) (d:=d) h6 hjx
 have hlj:=AU (m:=m) (ind:=ind) (d:=d) (t:=t) (ks:=ks) (xs:=xs) hk56 (j+1)
 have hls:=congrArg List.length hsj
 simp only [List.length_append] at hls
 refine Qa (Ga (Ha (Ta (Ha ?_))))
 refine Qf (fun σ w=>∃ (s1:Str),(s1=s++(if j=0 then [] else [44]))∧AllEq σ [(1,.int .i64 (Rx m ind)),(2,.int .i64 ((d:Int))),(3,.pointer (some ⟨b1,0,none⟩)),(10,.string (bs ([c9]))),(11,.string (bs s1)),(12,.int .i64 ((j:Int)))]∧FR w0 [] [(b1,.cells #[.int .i64 k,.string (bs t),.slice A ks.length c,.slice B xs.length e] 27)] w) ?_ ?_
 refine Ia (Ca (Va O) (Ca (Ho O O) (Ea ?_)))
 refine Yb O O (fun hc7=>?_) (fun hc7=>?_)
 refine Fa (Ca (Qc O) ?_)
 refine Ja (v:=.string (bs ((s)++([44])))) (Gh O O (by (try simp only [List.length_append,List.length_cons,List.length_nil]); omega)) ?_
 refine Ca (Rd O) (Xa ?_)
 exact Ib ⟨((s)++([44])),(by first | (rw [if_neg U]) | (rw [if_pos U]; simp)),Iu,hF⟩
 refine Qa ?_
 exact Ib ⟨(s),(by first | (rw [if_neg U]) | (rw [if_pos U]; simp)),Iu,hF⟩
 clear hF; rintro σ w ⟨s1,hs1,hs,hF⟩
 refine Eg.slots hs ?_
 clear hs; intro σ
 have hl1:s1.length≤s.length+1:=by rw [hs1,List.length_append]; split <;> simp
 refine Ga (Ha ?_)
 refine Qf (fun σ w=>∃ (s2:Str),(s2=s1++Oh m ind (d+1))∧AllEq σ [(1,.int .i64 (Rx m ind)),(2,.int .i64 ((d:Int))),(3,.pointer (some ⟨b1,0,none⟩)),(10,.string (bs ([c9]))),(11,.string (bs s2)),(12,.int .i64 ((j:Int)))]∧FR w0 [] [(b1,.cells #[.int .i64 k,.string (bs t),.slice A ks.length c,.slice B xs.length e] 27)] w) ?_ ?_
 refine Ia (Ca (Va O) (Ca (Rv O O) (Ea ?_)))
 refine Yb O O (fun hc8=>?_) (fun hc8=>?_)
 have hm:m=true:=J9 (by assumption)
 refine Fa (Ca (Qc O) ?_)
 refine Ja (v:=.string (bs ((s1)++([10])))) (Gh O O (by (try simp only [List.length_append,List.length_cons,List.length_nil]); omega)) ?_
 refine Ca (Va O) (Ca (Va O) (Ca (If (((d+1:Nat):Int)) O O) (Ja (v:=.int .i64 (((ind * (d+1):Nat):Int))) (Fl O O (EP hm hbL1)) ?_)))
 refine Jb hF (EC (ind * (d+1)) U _) (Cb WP O O) ?_
 clear hF; intro w hF
 refine Ja (v:=.string (bs (((s1)++([10]))++(Lib.repeatL [32] (ind * (d+1)))))) (Gh O O (by rw [F3]; (try simp only [List.length_append,List.length_cons,List.length_nil]); omega)) ?_
 refine Ca (Rd O) (Xa ?_)
 · exact Ib ⟨(((s1)++([10]))++(Lib.repeatL [32] (ind * (d+1)))),(by first | (rw [Oh,if_pos hm]; simp; done) | (rw [Oh,hm]; simp; done)),Iu,hF⟩
 have hm:m=false:=X2 (by assumption)
 refine Qa ?_
 · exact Ib ⟨(s1),(by first | (rw [Oh,if_pos hm]; simp; done) | (rw [Oh,hm]; simp; done)),Iu,hF⟩
 clear hF; rintro σ w ⟨s2,hs2,hs,hF⟩
 refine Eg.slots hs ?_
 clear hs; intro σ
 have hl2:s2.length≤s1.length+1+ind * (d+1):=by have:=HA m ind (d+1); rw [hs2,List.length_append]; omega
 refine Ga (Ha ?_)
 refine Qf (fun σ w=>∃ (s3:Str),(s3=s2++kG m k ks j)∧AllEq σ [(1,.int .i64 (Rx m ind)),(2,.int .i64 ((d:Int))),(3,.pointer (some ⟨b1,0,none⟩)),(10,.string (bs ([c9]))),(11,.string (bs s3)),(12,.int .i64 ((j:Int)))]∧FR w0 [] [(b1,.cells #[.int .i64 k,.string (bs t),.slice A ks.length c,.slice B xs.length e] 27)] w) ?_ ?_
 refine Ia (Ca (Ec Ke O) (Tc (Hl isAgg3 O hF.F 0 O O) (Ca (Th O O) (Ea ?_))))
 refine Yb O O (fun hc9=>?_) (fun hc9=>?_)
 have hk6:k=6:=by omega
 have hjk:j < ks.length:=by have:=h6 hk6; omega
 have hql:=Uy ks[j]
 have hkm:=Uh (List.getElem_mem hjk)
 refine Ia (Ca (Ec Af O) (Tc (Mf isAgg25 O hF.F 0 O O) (Ca (Va O) ?_)))
 obtain ⟨ad0,hA0,hk0,hx0⟩:=hK.str_elem (i:=j) U
 refine Ja (v:=.pointer (some (ad0.add (j * 1)))) (Pa (i:=(j:Int)) Gk O hA0 O U U) (Ja (v:=.string (bs (ks[j]))) (Ya isAgg9 O (hF.cell0 hk0)) ?_)
 refine Jb hF (OC ks[j] (by have:=Uh (List.getElem_mem hjk); omega) _) (Cb BP O O) ?_
 clear hF; intro w hF
 refine Ca (Ul O) (Ca (D7 O O) (Ca (Fm O O) (Ca (Rd O) (Ca (Wb O) (Bc (Ca (Qc O) (Ca (Qc O) ?_)))))))
 refine Ja (v:=.string (bs ((s2)++(qS ks[j])))) (Gh O O (by (try simp only [List.length_append,List.length_cons,List.length_nil]); omega)) ?_
 refine Ja (v:=.string (bs (((s2)++(qS ks[j]))++([58])))) (Gh O O (by (try simp only [List.length_append,List.length_cons,List.length_nil]); omega)) ?_
 refine Ca (Rd O) (Bc (Ca (Va O) (Ca (Rv O O) (Ea ?_))))
 refine Yb O O (fun hc10=>?_) (fun hc10=>?_)
 have hm:m=true:=J9 (by assumption)
 refine Fa (Ca (Qc O) ?_)
 refine Ja (v:=.string (bs ((((s2)++(qS ks[j]))++([58]))++([32])))) (Gh O O (by (try simp only [List.length_append,List.length_cons,List.length_nil]); omega)) ?_
 refine Ca (Rd O) (Xa ?_)
 · exact Ib ⟨((((s2)++(qS ks[j]))++([58]))++([32])),(by first | (rw [kG,if_pos hk6,L1 hjk,hm]; simp; done) | (rw [kG,if_neg hk6]; simp; done)),Iu,hF⟩
 have hm:m=false:=X2 (by assumption)
 refine Qa ?_
 · exact Ib ⟨(((s2)++(qS ks[j]))++([58])),(by first | (rw [kG,if_pos hk6,L1 hjk,hm]; simp; done) | (rw [kG,if_neg hk6]; simp; done)),Iu,hF⟩
 have hk6:¬k=6:=by omega
 refine Qa ?_
 · exact Ib ⟨(s2),(by first | (rw [kG,if_pos hk6,L1 hjk,hm]; simp; done) | (rw [kG,if_neg hk6]; simp; done)),Iu,hF⟩
 clear hF; rintro σ w ⟨s3,hs3,hs,hF⟩
 refine Eg.slots hs ?_
 clear hs; intro σ
 have hl3:s3.length+(Xg m ind xs[j] (d+1)).length=(tG m ind d k ks xs (j+1)).length:=by rw [hsj,hs3,hs2,hs1,hs]; simp only [List.length_append]; omega
 refine Ga (Fa (Ca (Qc O) (Ca (Ec Pc O) (Tc (Mf isAgg22 O hF.F 0 O O) (Ca (Va O) ?_)))))
 obtain ⟨ad1,cs1,hA1,hl1,hk1,hx1⟩:=hX.tree_elem (i:=j) U
 have ho1:=hx1.one_
 refine Ja (v:=.pointer (some (ad1.add (j * 4)))) (Pa (i:=(j:Int)) Mg O hA1 O U U) (Ja (v:=.agg (List.toArray cs1)) (Fc (l:=cs1) isAgg27 sizeOf27 O hl1 (hF.cells0 hk1)) (Ca (Va O) (Ca (Va O) (Ca (If (((d+1:Nat):Int)) O O) ?_))))
 refine Jb hF (ih xs[j] (List.getElem_mem hjx) m ind (d+1) _ _ cs1 (hF.rep hx1) (hn.2 _ (List.getElem_mem hjx)) (by have:=Ch (List.getElem_mem hjx); omega) (by have h1:=Ah (List.getElem_mem hjx); exact Nat.le_trans (Nat.mul_le_mul_left ind U) hd) (by have h1:=Ah (List.getElem_mem hjx); omega) U) (Gd NL O O O O) ?_
 clear hF; intro w hF
 refine Ja (v:=.string (bs ((s3)++(Xg m ind xs[j] (d+1))))) (Gh O O (by (try simp only [List.length_append,List.length_cons,List.length_nil]); omega)) ?_
 refine Ca (Rd O) (Xa (Eb (Ga (Fa (Ca (Va O) (Ca (If (((j+1:Nat):Int)) O O) (Ca (Wb O) (Xa ?_))))))))
 refine Ib ⟨_,?_,j+1,(s3)++(Xg m ind xs[j] (d+1)),O,(hjx),(by rw [hsj,hs3,hs2,hs1,hs]; simp),Iu,hF⟩
 omega
 obtain rfl:j=xs.length:=by omega
 refine Dc (Cc O ?_)
 refine Ga (Ha ?_)
 refine Qf (fun σ w=>∃ (s4:Str),(s4=s++Oh m ind d)∧AllEq σ [(10,.string (bs ([c9]))),(11,.string (bs s4))]∧FR w0 [] [(b1,.cells #[.int .i64 k,.string (bs t),.slice A ks.length c,.slice B xs.length e] 27)] w) ?_ ?_
 refine Ia (Ca (Va O) (Ca (Rv O O) (Ea ?_)))
 refine Yb O O (fun hc11=>?_) (fun hc11=>?_)
 have hm:m=true:=J9 (by assumption)
 refine Fa (Ca (Qc O) ?_)
 refine Ja (v:=.string (bs ((s)++([10])))) (Gh O O (by (try simp only [List.length_append,List.length_cons,List.length_nil]); omega)) ?_
 refine Ca (Va O) (Ca (Va O) (Ja (v:=.int .i64 (((ind * d:Nat):Int))) (Fl O O (EP hm hbL0)) ?_))
 refine Jb hF (EC (ind * d) U _) (Cb WP O O) ?_
 clear hF; intro w hF
 refine Ja (v:=.string (bs (((s)++([10]))++(Lib.repeatL [32] (ind * d))))) (Gh O O (by rw [F3]; (try simp only [List.length_append,List.length_cons,List.length_nil]); omega)) ?_
 refine Ca (Rd O) (Xa ?_)
 · exact Ib ⟨(((s)++([10]))++(Lib.repeatL [32] (ind * d))),(by first | (rw [Oh,if_pos hm]; simp; done) | (rw [Oh,hm]; simp; done)),Iw,hF⟩
 have hm:m=false:=X2 (by assumption)
 refine Qa ?_
 · exact Ib ⟨(s),(by first | (rw [Oh,if_pos hm]; simp; done) | (rw [Oh,hm]; simp; done)),Iw,hF⟩
 clear hF; rintro σ w ⟨s4,hs4,hs,hF⟩
 refine Eg.slots hs ?_
 clear hs; intro σ
 have hl4:s4.length≤s.length+1+ind * d:=by have:=HA m ind d; rw [hs4,List.length_append]; omega
 refine Ga (Ia (Ca (Qc O) (Ca (Qc O) ?_)))
 refine Ja (v:=.string (bs ((s4)++([c9])))) (Gh O O (by (try simp only [List.length_append,List.length_cons,List.length_nil]); omega)) ?_
 refine Ca (Rd O) (Ea ?_)
 refine Td (v:=.string (bs ((s4)++([c9])))) O O ?_
 exact ⟨by rw [VF hk56,if_neg U,hs4,hs,hc9]; simp,hF.same⟩
theorem IK (x:Tree):UE x:=Tree.ind (Q:=UE) (fun k t ks xs ih m ind d S w0 cs hR hn hm hd hd2 hl=>by
  obtain ⟨A,c,B,e,rfl,hk,ht,hK,hX⟩:=hR.tree_inv
  rw [Lf] at hm
  rw [Cd] at hd hd2
  exact XF k t ks xs ih m ind d S w0 A c B e hR hK hX (Kg hn) U U U hd hd2 hl) x
end Go.Scarf
namespace Go.Scarf
open Go.RowKit Go.Proofs Go.Proofs.Tryz
theorem OJ {x:Tree} (h:Je x=true) (hm:Lf x≤16777216) (m:Bool) (ind d:Nat) (hi:ind≤8) (hd:d≤32):(Xg m ind x d).length≤4398046511104:=by
  have h1:=Iq h
  have h2:=G7 m ind (Lf x) 64 x d (Nat.le_refl _) U
  have h3:Oc x≤4096:=Y6 (Ln h)
  have h4:ind * 64≤8 * 64:=Nat.mul_le_mul_right _ hi
  have h5:Oc x * (12 * Lf x+40+2 * (ind * 64))≤4096 * (12 * 16777216+40+2 * 512):=Nat.mul_le_mul h3 U
  omega
theorem LR (x:Tree) (m:Bool) (ind d:Nat) (S:Nat→Prop) (w0:World) (cs:List Value) (hR:Rep S w0 (Vc x) cs) (h:Je x=true) (hm:Lf x≤16777216) (hi:ind≤8) (hd:d≤32) :
    Calls prog 107 #[.agg cs.toArray,.int .i64 (Rx m ind),.int .i64 (d:Nat)] w0 (De fun v w'=>v=.string (bs (Xg m ind x d))∧Same [] w0 w'):=by
  have h1:=Iq h
  have h2:Fe rnodeB x=true:=by
    have h3:=h
    unfold Je at h3
    rw [Bool.and_eq_true] at h3
    exact h3.2
  have h4:ind * (d+Cd x)≤8 * 64:=Nat.mul_le_mul hi U
  exact IK x m ind d S w0 cs hR h2 hm U U (OJ h hm m ind d hi hd)
theorem OH (x:Tree) (hsz:Oc x≤1000000000) (hm:Lf x≤16777216) (S:Nat→Prop) (w0:World) (cs:List Value) (hR:Rep S w0 (Vc x) cs):Calls prog 78 #[.agg cs.toArray] w0 (De fun v w'=>v=.tuple #[.string (bs (Tg x)),.int .i64 (HC x)]∧Same [] w0 w'):=by
 have hl:cs.length=4:=hR.length.trans (Dd x)
 have ho:=hR.one_
 refine Ka func78 O ntmps78 Kb (Sc _) ?_
 have hF:=FR.start w0 []
 refine Ia ?_
 refine Io (v:=.agg (List.toArray cs)) (cs:=(List.toArray cs)) hF O O ?_
 clear hF; rintro b1 w hb1 hF -
 refine Ca (Rd O) (Ca (Wb O) (Bc (Ja (v:=.agg (List.toArray cs)) (Fc (l:=cs) isAgg27 sizeOf27 O hl (hF.cellsAll 0 O)) ?_)))
 refine Jb hF (H2 x hsz U _ _ cs (hF.rep hR)) (Cb BM O O) ?_
 clear hF; intro w hF
 refine Ca (Hc O) (Ea (Ha (Ia (Ca (Jc O) (Ca (Pn O) (Ea ?_))))))
 refine Mi O O (fun hc0=>?_) (fun hc0=>?_)
 refine Ia (Ca (Rd O) (Ca (Wb O) (Ea ?_)))
 refine Ub (Rb (Sa (Ld (v:=.string (bs [])) (x:=.int .i64 1) O O O) ?_))
 exact ⟨by rw [Tg,HC,if_neg (by simpa using hc0),if_neg (by simpa using hc0)],hF.same⟩
 refine Qa (Ga (Ia (Ja (v:=.agg (List.toArray cs)) (Fc (l:=cs) isAgg27 sizeOf27 O hl (hF.cellsAll 0 O)) ?_)))
 refine Jb hF (LR x false 0 0 _ _ cs (hF.rep hR) (by simpa using hc0) hm U U) (Gd NL O O O O) ?_
 clear hF; intro w hF
 refine Ca (Rd O) (Ca (Wb O) (Ea ?_))
 refine Ub (Rb (Sa (Ld (v:=.string (bs (Xg false 0 x 0))) (x:=.int .i64 0) O O O) ?_))
 exact ⟨by rw [Tg,HC,if_pos (by simpa using hc0),if_pos (by simpa using hc0)],hF.same⟩
end Go.Scarf
