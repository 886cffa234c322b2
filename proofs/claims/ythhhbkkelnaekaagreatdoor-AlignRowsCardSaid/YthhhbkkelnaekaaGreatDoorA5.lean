/- A part of the proof. -/
import Derived.Test.YthhhbkkelnaekaaGreatDoorA4
set_option linter.all false
set_option maxHeartbeats 8000000
set_option maxRecDepth 10000
namespace Go.Scarf
open Go.RowKit Go.Proofs Go.Proofs.Tryz
def J2:Nat→Nat→Nat→List TreeN→List TreeN→List (Int × Int)
  | 0,_,_,_,_=>[]
  | f + 1, i, j, x :: xs, y :: ys =>
    if al Tl pN (x::xs) (y::ys)=pN x y+al Tl pN xs ys then ((i:Int),(j:Int))::J2 f (i+1) (j+1) xs ys
    else if al Tl pN (x::xs) (y::ys)=Tl x+al Tl pN xs (y::ys) then J2 f (i+1) j xs (y::ys)
    else J2 f i (j+1) (x::xs) ys
  | _+1,_,_,_,_=>[]
theorem Ap:∀ (f g:Nat) (i j:Nat) (xs ys:List TreeN),xs.length+ys.length≤f→xs.length+ys.length≤g→J2 f i j xs ys=J2 g i j xs ys
  | 0, g, i, j, xs, ys, h, _ => by
    obtain rfl:xs=[]:=List.eq_nil_of_length_eq_zero U
    cases g <;> rfl
  | f + 1, 0, i, j, xs, ys, _, h => by
    obtain rfl:xs=[]:=List.eq_nil_of_length_eq_zero U
    rfl
  | f+1,g+1,i,j,[],ys,_,_=>rfl
  | f+1,g+1,i,j,x::xs,[],_,_=>rfl
  | f + 1, g + 1, i, j, x :: xs, y :: ys, h1, h2 => by
    simp only [List.length_cons] at h1 h2
    rw [J2,J2,Ap f g (i+1) (j+1) xs ys U U,Ap f g (i+1) j xs (y::ys) (by simp only [List.length_cons]; omega) (by simp only [List.length_cons]; omega),Ap f g i (j+1) (x::xs) ys (by simp only [List.length_cons]; omega) (by simp only [List.length_cons]; omega)]
def Yw (i j:Nat) (xs ys:List TreeN):List (Int × Int):=J2 (xs.length+ys.length) i j xs ys
section
variable {la lb:List TreeN} {i j:Nat}
theorem Ar (h1:i < la.length) (h2:j < lb.length):Yw i j (la.drop i) (lb.drop j) =
    if al Tl pN (la.drop i) (lb.drop j)=pN la[i] lb[j]+al Tl pN (la.drop (i+1)) (lb.drop (j+1)) then ((i:Int),(j:Int))::Yw (i+1) (j+1) (la.drop (i+1)) (lb.drop (j+1))
    else if al Tl pN (la.drop i) (lb.drop j)=Tl la[i]+al Tl pN (la.drop (i+1)) (lb.drop j) then Yw (i+1) j (la.drop (i+1)) (lb.drop j)
    else Yw i (j+1) (la.drop i) (lb.drop (j+1)):=by
  unfold Yw
  rw [List.drop_eq_getElem_cons h1,List.drop_eq_getElem_cons h2]
  rw [show (la[i]::la.drop (i+1)).length+(lb[j]::lb.drop (j+1)).length=((la.drop (i+1)).length+(lb.drop (j+1)).length+1)+1 by simp only [List.length_cons]; omega,J2]
  rw [Ap _ ((la.drop (i+1)).length+(lb.drop (j+1)).length) (i+1) (j+1) _ _ U U,
    Ap _ ((la.drop (i+1)).length+(lb[j]::lb.drop (j+1)).length) (i+1) j _ _ (by simp only [List.length_cons]; omega) U,
    Ap _ ((la[i]::la.drop (i+1)).length+(lb.drop (j+1)).length) i (j+1) _ _ (by simp only [List.length_cons]; omega) U]
theorem E1 (h:¬(i < la.length∧j < lb.length)):Yw i j (la.drop i) (lb.drop j)=[]:=by
  unfold Yw
  by_cases h1:la.length≤i
  · rw [List.drop_eq_nil_of_le h1]
    generalize ([]:List TreeN).length+(lb.drop j).length=f
    cases f <;> rfl
  · rw [List.drop_eq_nil_of_le (show lb.length ≤ j by omega)]
    generalize (la.drop i).length+([]:List TreeN).length=f
    cases f
    · rfl
    · cases la.drop i <;> rfl
theorem Tr (n m:Nat):∀ (f i j:Nat) (xs ys:List TreeN),i+xs.length≤n→j+ys.length≤m→∀ z∈J2 f i j xs ys,(i:Int)≤z.1∧z.1 < (n:Int)∧(j:Int)≤z.2∧z.2 < (m:Int)
  | 0,_,_,_,_,_,_,z,hz=>by cases hz
  | f+1,i,j,[],_,_,_,z,hz=>by cases hz
  | f+1,i,j,_::_,[],_,_,z,hz=>by cases hz
  | f + 1, i, j, x :: xs, y :: ys, h1, h2, z, hz => by
    simp only [List.length_cons] at h1 h2
    rw [J2] at hz
    split at hz
    · rcases List.mem_cons.1 hz with rfl | hz
      · simp only; omega
      · have:=Tr n m f (i+1) (j+1) xs ys U U z hz; omega
    · split at hz
      · have:=Tr n m f (i+1) j xs (y::ys) U (by simp only [List.length_cons]; omega) z hz; omega
      · have:=Tr n m f i (j+1) (x::xs) ys (by simp only [List.length_cons]; omega) U z hz; omega
end
theorem Vo {S:Nat→Prop} {w:World}:∀ {m:List (Int × Int)},(∀ z∈m,(-9223372036854775808≤z.1∧z.1≤9223372036854775807)∧(-9223372036854775808≤z.2∧z.2≤9223372036854775807))→RepL S w (m.map I6) (As m)
  | [],_=>by rw [List.map_nil,RepL]; rfl
  | z :: m, h => by
    rw [List.map_cons,RepL]
    exact ⟨Bl z,As m,O,XO (h z Ma).1 (h z Ma).2,Vo fun y hy=>h y (by simp [hy])⟩
theorem S7 (l:List Tree) (A:Option Addr) (c:Nat) (S:Nat→Prop) (w0:World) (hG:Gl w0) (hX:Rep S w0 (.slice (Wc l)) [.slice A l.length c]) (hok:∀ x∈l,Yj x) :
    Calls prog 16 #[.slice A l.length c] w0 (De fun v w'=>∃ V,v=.tuple #[V,.int .i64 (Zg l)]∧Same [] w0 w') :=
  Bi (CI l A c S w0 hG hX hok) fun v w' h=>by
    rcases h with ⟨_,rfl,hs⟩ | ⟨he,A',c',rfl,_,hs⟩
    · exact ⟨_,O,hs⟩
    · exact ⟨_,by rw [he],hs⟩
theorem G6 (l:List Tree) (la:List TreeN) (hl:la=l.map We) (he:Zg l=0) (A:Option Addr) (c:Nat) (S:Nat→Prop) (w0:World) (hG:Gl w0) (hX:Rep S w0 (.slice (Wc l)) [.slice A l.length c]) (hok:∀ x∈l,Yj x) :
    Calls prog 16 #[.slice A l.length c] w0 (De fun v w'=>∃ (A':Option Addr) (c':Nat),v=.tuple #[.slice A' la.length c',.int .i64 0]∧Rep (Btw w0 w') w' (.slice (la.map Dm)) [.slice A' la.length c']∧Same [] w0 w') :=
  Bi (CI l A c S w0 hG hX hok) fun v w' h=>by
    rcases h with ⟨h,_⟩ | ⟨_,A',c',rfl,hr,hs⟩
    · exact absurd he h
    · subst hl; exact ⟨A',c',by rw [List.length_map],by rw [List.length_map]; exact hr,hs⟩
def Dr (a b:List Tree):Int:=if Zg a=1∨Zg b=1 then 1 else if Zg a=0∧Zg b=0 then 0 else 6
theorem Br {l:List Tree} (h:Zg l=0):(∀ x∈l,Je x=true)∧l.length≤64∧Uu l≤512:=by
  unfold Zg at h
  split at h
  · rename_i ha
    split at h
    · cases h
    · split at h
      · cases h
      · exact ⟨fun x hx=>List.all_eq_true.1 ha x hx,by omega,by omega⟩
  · cases h
theorem Uw {l:List Tree} (h:Zg l=0) (hok:∀ x∈l,Yj x):(∀ x∈l.map We,Xh x.1 x.2)∧∀ x∈l.map We,Tl x≤512:=by
  have hy:=Br h
  constructor
  · intro x hx
    obtain ⟨t,ht,rfl⟩:=List.mem_map.1 hx
    exact Wv (hy.1 t ht) (hok t ht).2.1
  · intro x hx
    obtain ⟨t,ht,rfl⟩:=List.mem_map.1 hx
    have h1:=Jk (hy.1 t ht)
    have h2:=(hok t ht).2.1
    show (Uf t).length≤512
    omega
def XZ (N1 cb pb rb n:Nat) (q r:Nat→Nat):Prop:=cb < N1∧pb < N1∧rb < N1∧∀ i,i < n+1→q i < N1∧r i < N1
section
variable {w w':World} {N0 N1 cb pb rb:Nat} {la lb:List TreeN} {Aa Ab:Option Addr} {k1 k2 k3 k4:Nat} {q r:Nat→Nat} {P R:Nat→Nat→Int}
theorem Ck.lt (h:Ck w N0 cb pb rb la lb Aa Ab k1 k2 k3 k4 q r P R):XZ w.heap.size cb pb rb la.length q r:=by
  obtain ⟨_,h1,_⟩:=h.pair.top
  obtain ⟨_,h2,_⟩:=h.rest.top
  exact ⟨Ra h.cell,Ra h1,Ra h2,fun i hi=>⟨Ra (h.pair.row i hi),Ra (h.rest.row i hi)⟩⟩
theorem Ck.apart (h:Ck w N0 cb pb rb la lb Aa Ab k1 k2 k3 k4 q r P R) (hl:XZ N1 cb pb rb la.length q r) {E:List Nat} (hs:Same E w w') (he:∀ b∈E,N1≤b):Ck w' N0 cb pb rb la lb Aa Ab k1 k2 k3 k4 q r P R:=by
  have hlo:=h.lo
  have nl:∀ x,x < N1→x∉E:=fun x hx hm=>by have:=he x hm; omega
  exact h.keep hs (fun b hb=>by have:=he b hb; have:=hl.1; omega) (nl _ hl.1) (nl _ hl.2.1) (nl _ hl.2.2.1) (fun i hi=>nl _ (hl.2.2.2 i hi).1) (fun i hi=>nl _ (hl.2.2.2 i hi).2)
end
theorem VS (S S':Nat→Prop) (w0:World) (hG:Gl w0) (x y:List Tree) (A B:Option Addr) (c e:Nat) (hX:Rep S w0 (.slice (Wc x)) [.slice A x.length c]) (hY:Rep S' w0 (.slice (Wc y)) [.slice B y.length e]) (hokx:∀ z∈x,Yj z) (hoky:∀ z∈y,Yj z) (hne:¬(Zg x=0∧Zg y=0)):Calls prog 7 #[.slice A x.length c,.slice B y.length e] w0 (De fun v w'=>v=.tuple #[.slice none 0 0,.int .i64 0,.int .i64 (Dr x y)]∧Same [] w0 w'):=by
 refine Ka func7 O ntmps7 Kb (Ee _ _) ?_
 have hF:=FR.start w0 []
 refine Ia (Ca (Sh O) (Ca (Wb O) (Ca (Wb O) (Bc (Ca (Yd O) ?_)))))
 refine Pb (S7 x _ _ _ _ (hG.ext hF.same) (hF.rep hX) hokx) (Cb XH O O) ?_
 rintro _ w ⟨V0,rfl,hE⟩
 replace hF:=hF.ext hE
 clear hE
 refine Ca (Ul O) (Ca (MY O O) (Ca (Fm O O) (Ca (S1) (Ca (Wb O) (Bc (Ca (Yd O) ?_))))))
 refine Pb (S7 y _ _ _ _ (hG.ext hF.same) (hF.rep hY) hoky) (Cb XH O O) ?_
 rintro _ w ⟨V1,rfl,hE⟩
 replace hF:=hF.ext hE
 clear hE
 refine Ca (Ul O) (Ca (MY O O) (Ca (Fm O O) (Ca (S1) (Ca (Wb O) (Ea (Ha (Ta (Ia (Ca (Va O) (Ca (Th O O) (Ca (Jc O) ?_)))))))))))
 refine Hb (d:=28) O (fun hg0=>?_) (fun hg0=>?_)
 refine Da (Da (Ca (Ic O O) (Ca (Hc O) (Ea (Ae O (Ia (Ca (Sh O) (Ca (Wb O) (Ca (Wb O) (Ea ?_))))))))))
 refine Ub (Rb (Sa (Bq (v:=.slice _ _ _) (x:=.int .i64 0) (y:=.int .i64 1) O O O O) ?_))
 exact ⟨by rw [Dr,if_pos (by simp_all)],hF.same⟩
 refine Ca (Va O) (Ca (Th O O) (Ca (Gc O O) (Ca (Hc O) (Ea ?_))))
 refine Yb O O (fun hc0=>?_) (fun hc0=>?_)
 refine Ia (Ca (Sh O) (Ca (Wb O) (Ca (Wb O) (Ea ?_))))
 refine Ub (Rb (Sa (Bq (v:=.slice _ _ _) (x:=.int .i64 0) (y:=.int .i64 1) O O O O) ?_))
 exact ⟨by rw [Dr,if_pos (by simp_all)],hF.same⟩
 refine Ia (Ca (Va O) (Ca (Sq O O) (Ca (Jc O) ?_)))
 refine Hb (d:=35) O (fun hg1=>?_) (fun hg1=>?_)
 refine Da (Da (Ca (Ic O O) (Ca (Hc O) (Ea (Ae O (Ia (Ca (Sh O) (Ca (Wb O) (Ca (Wb O) (Ea ?_))))))))))
 refine Ub (Rb (Sa (Bq (v:=.slice _ _ _) (x:=.int .i64 0) (y:=.int .i64 6) O O O O) ?_))
 exact ⟨by rw [Dr,if_neg (by simp_all),if_neg (by simp_all)],hF.same⟩
 refine Ca (Va O) (Ca (Sq O O) (Ca (Gc O O) (Ca (Hc O) (Ea ?_))))
 refine Yb O O (fun hc1=>?_) (fun hc1=>?_)
 refine Ia (Ca (Sh O) (Ca (Wb O) (Ca (Wb O) (Ea ?_))))
 refine Ub (Rb (Sa (Bq (v:=.slice _ _ _) (x:=.int .i64 0) (y:=.int .i64 6) O O O O) ?_))
 exact ⟨by rw [Dr,if_neg (by simp_all),if_neg (by simp_all)],hF.same⟩
 exact absurd hne (by simp_all)
theorem WA (S S':Nat→Prop) (w0:World) (hG:Gl w0) (x y:List Tree) (A B:Option Addr) (c e:Nat) (hX:Rep S w0 (.slice (Wc x)) [.slice A x.length c]) (hY:Rep S' w0 (.slice (Wc y)) [.slice B y.length e]) (hokx:∀ z∈x,Yj z) (hoky:∀ z∈y,Yj z) (la lb:List TreeN) (hla:la=x.map We) (hlb:lb=y.map We) (hex:Zg x=0) (hey:Zg y=0):Calls prog 7 #[.slice A x.length c,.slice B y.length e] w0 (De fun v w'=>∃ (Az:Option Addr) (cz:Nat),v=.tuple #[.slice Az (Yw 0 0 la lb).length cz,.int .i64 ((al Tl pN la lb:Nat):Int),.int .i64 0]∧Rep (Btw w0 w') w' (Lj (Yw 0 0 la lb)) [.slice Az (Yw 0 0 la lb).length cz]∧Same [] w0 w'):=by
 have hRa:(∀ x∈la,Xh x.1 x.2)∧∀ x∈la,Tl x≤512:=by rw [hla]; exact Uw hex hokx
 have hRb:(∀ x∈lb,Xh x.1 x.2)∧∀ x∈lb,Tl x≤512:=by rw [hlb]; exact Uw hey hoky
 have hll:la.length≤64∧lb.length≤64:=by rw [hla,hlb,List.length_map,List.length_map]; exact ⟨(Br hex).2.1,(Br hey).2.1⟩
 refine Ka func7 O ntmps7 Kb (Ee _ _) ?_
 have hF:=FR.start w0 []
 refine Ia (Ca (Sh O) (Ca (Wb O) (Ca (Wb O) (Bc (Ca (Yd O) ?_)))))
 refine Pb (G6 x la hla hex _ _ _ _ (hG.ext hF.same) (hF.rep hX) hokx) (Cb XH O O) ?_
 rintro _ w ⟨T0,t0,rfl,hT0,hE⟩
 replace hF:=hF.ext hE
 clear hE
 refine Ca (Ul O) (Ca (W4 O O) (Ca (Fm O O) (Ca (Sh O) (Ca (Wb O) (Bc (Ca (Yd O) ?_))))))
 refine Pb (G6 y lb hlb hey _ _ _ _ (hG.ext hF.same) (hF.rep hY) hoky) (Cb XH O O) ?_
 rintro _ w ⟨T1,t1,rfl,hT1,hE⟩
 replace hF:=hF.ext hE
 replace hT0:=hT0.ext hE
 clear hE
 refine Ca (Ul O) (Ca (W4 O O) (Ca (Fm O O) (Ca (Sh O) (Ca (Wb O) (Ea (Ha (Ta (Ia (Ca (Va O) (Ja (v:=.bool false) (Zc (Ig O O) Ua) (Ca (Jc O) ?_)))))))))))
 refine Ca (Va O) (Ja (v:=.bool false) (Zc (Ig O O) Ua) (Ca (Gc O O) (Ca (Hc O) (Ea (Ie O (Ia (Ca (Va O) (Ja (v:=.bool false) (Zc (Ir O O) Ua) (Ca (Jc O) (Ca (Va O) (Ja (v:=.bool false) (Zc (Ir O O) Ua) ?_)))))))))))
 refine Ca (Gc O O) (Ca (Hc O) (Ea (Ie O (Qa (Eb (Ga (Ia (Ca (Yd O) (Ca (Yd O) ?_)))))))))
 obtain ⟨N0,hN0⟩:∃ N,N=w.heap.size:=⟨_,rfl⟩
 refine Pb (NO _ _ _ la lb T0 T1 t0 t1 hT0 hT1 hll hRa.1 hRb.1 hRa.2 hRb.2) (Vb UY O O O) ?_
 rintro _ w ⟨cb,pb,rb,k3,k4,q,r,P,R,rfl,hK,hR0,hP0,hE⟩
 rw [←hN0] at hK
 replace hF:=hF.ext hE
 have hlt:=hK.lt
 obtain ⟨N1,hN1⟩:∃ N,N=w.heap.size:=⟨_,rfl⟩
 rw [←hN1] at hlt
 have hNw:N1≤w.heap.size:=Nat.le_of_eq hN1
 clear hE hN0 hN1 hT0 hT1
 have hmx:∀ x y,al Tl pN (la.drop x) (lb.drop y)≤65536:=fun x y=>Nat.le_trans (IF (fun z hz=>hRa.2 z (List.mem_of_mem_drop hz)) (fun z hz=>hRb.2 z (List.mem_of_mem_drop hz))) (by simp only [List.length_drop]; omega)
 have hRq:∀ a b,a≤la.length→b≤lb.length→0≤R a b∧R a b≤1000000:=fun a b ha hb=>by have h1:=hmx a b; rw [hR0 a b ha hb]; omega
 have hPq:∀ a b (h1:a < la.length) (h2:b < lb.length),0≤P a b∧P a b≤1000000:=fun a b h1 h2=>by have h3:pN la[a] lb[b]≤la[a].1.length+lb[b].1.length:=(Yp (ls:=la[a].1) (fs:=la[a].2) (gs:=lb[b].1) (hs:=lb[b].2)).1; have h4:la[a].1.length≤512:=hRa.2 _ (List.getElem_mem h1); have h5:lb[b].1.length≤512:=hRb.2 _ (List.getElem_mem h2); rw [hP0 a b h1 h2]; omega
 refine Ca (I_ O) (Bc (Ca (Sh O) (Ea (Ha (Ia (Ca (Wb O) (Ca (Wb O) (Xa ?_))))))))
 refine Ga (Ta ?_)
 refine Lc (fun μ σ w=>∃ (i:Nat),∃ (j:Nat),∃ (Ao:Option Addr),∃ (co:Nat),∃ (so:List (Nat × Obj)),∃ (acc:List (Int × Int)),μ=la.length+lb.length - (i+j)∧(i≤la.length)∧(j≤lb.length)∧(SlB 41 2 Ao acc.length co (As acc) so)∧(Ck w N0 cb pb rb la lb T0 T1 t0 t1 k3 k4 q r P R)∧(N1≤w.heap.size)∧(∀ z∈so,N1≤z.1)∧(acc++Yw i j (la.drop i) (lb.drop j)=Yw 0 0 la lb)∧(acc.length≤i)∧AllEq σ [(7,.slice T0 la.length t0),(9,.slice T1 lb.length t1),(11,.pointer (some ⟨cb,0,none⟩)),(12,.slice Ao acc.length co),(13,.int .i64 ((i:Int))),(14,.int .i64 ((j:Int)))]∧FR w0 [] ([]++(so++[])) w) _ ⟨0,0,none,0,[],[],O,(Nat.zero_le _),(Nat.zero_le _),(SlB.nil _ _),(hK),(hNw),Ma,Ma,(Nat.zero_le _),Iu,hF⟩ ?_
 clear hF; rintro μ σ w ⟨i,j,Ao,co,so,acc,rfl,hi,hj,hSo,hK,hNw,hso,hac,hal,hs,hF⟩
 refine Cg.slots hs ?_
 clear hs; intro σ
 refine Ha (Ia (Ca (Va O) (Ca (Yd O) (Ca (Df underlying47 O) (Ca (Yg O O) (Ca (Jc O) ?_))))))
 refine Hb (d:=46) O (fun hg0=>?_) (fun hg0=>?_)
 refine Ca (Va O) (Ca (Yd O) (Ca (Df underlying47 O) (Ca (Yg O O) (Ca (Ic O O) (Ea ?_)))))
 refine Yb O O (fun hc2=>?_) (fun hc2=>?_)
 refine Qa (Ga (Ta (Ia (Ca (Ue O) (Ca (Gg O) (Ca (Ec Ci O) (Ja (v:=.slice (some ⟨rb,0,none⟩) (la.length+1) (k4)) (Ya isAgg37 O hK.c3) (Ca (Va O) (Ja (v:=.pointer (some ⟨rb,i,none⟩)) (Gb (i:=((i:Nat):Int)) (i) Vj O O U U U) (Ja (v:=.slice (some ⟨r (i),0,none⟩) (lb.length+1) (lb.length+1)) (Ya isAgg42 O (hK.rest.rowCell U)) (Ca (Va O) (Ja (v:=.pointer (some ⟨r (i),j,none⟩)) (Gb (i:=((j:Nat):Int)) (j) Nd O O U U U) ?_))))))))))))
 refine Ja (v:=.int .i64 (R i j)) (Ya isAgg3 O (hK.rest.cell U U)) (Ea (Ta (Ia (Ca (Ue O) (Ca (Va O) (Ca (Va O) ?_))))))
 refine Pb (Wx _ N0 cb pb rb la lb T0 T1 t0 t1 k3 k4 q r P R hK i j hll U U (hPq i j U U) (hRq (i+1) (j+1) U U)) (Gd UB O O O O) ?_
 rintro _ w ⟨rfl,hE⟩
 replace hF:=hF.ext hE
 replace hK:=hK.ext hE
 replace hNw:=Nat.le_trans hNw hE.size
 clear hE
 refine Ca (Th O O) (Ca (Hc O) (Ea ?_))
 refine Yb O O (fun hc3=>?_) (fun hc3=>?_)
 refine Ia (Ca (Yd O) (Ca (Va O) (Ca (Va O) ?_)))
 refine Ja (w':=w) (v:=.agg #[.int .i64 ((i:Int)),.int .i64 ((j:Int))]) Qb ?_
 refine Pe 1 hF (Za (cs:=#[.int .i64 ((i:Int)),.int .i64 ((j:Int))]) underlying29 sizeOf41 zeroValue41 Ua Ua Qb) ?_
 clear hF; intro b1 w hb1 hF hE
 replace hK:=hK.ext hE
 replace hNw:=Nat.le_trans hNw hE.size
 clear hE
 refine Kf [(b1,.cells #[.int .i64 ((i:Int)),.int .i64 ((j:Int))] 41)] [] (news:=[.int .i64 ((i:Int)),.int .i64 ((j:Int))]) (len':=(acc++[((i:Int),(j:Int))]).length) (ys:=As (acc++[((i:Int),(j:Int))])) NT hF hSo O O (O) (fun _=>⟨_,O,Xb (hF.cellsAll 0 O)⟩) (by simp [Value.oneCell']) (by simp only [maxLen]; omega) Ma (by simp [As]) U ?_
 clear hF; intro A1 c1 o_1 w hS1_o hF hE hnew
 replace hK:=hK.apart hlt hE (fun b hb_=>by obtain ⟨z,hz,rfl⟩:=List.mem_map.1 hb_; exact hso z hz)
 replace hso:=fun z hz=>(hnew z hz).elim (fun h=>by obtain ⟨z2,hz2,e⟩:=List.mem_map.1 h; rw [←e]; exact hso z2 hz2) (fun h=>Nat.le_trans hNw h)
 replace hNw:=Nat.le_trans hNw hE.size
 clear hE hnew
 refine Ca (Sh O) (Ea (Fa (Ca (Va O) (Ca (If (((i+1:Nat):Int)) O O) (Ca (Va O) (Ca (If (((j+1:Nat):Int)) O O) (Ca (Wb O) (Ca (Wb O) (Xa (Eb (Eb ?_)))))))))))
 refine Ib ⟨_,?_,i+1,j+1,A1,c1,o_1,acc++[((i:Int),(j:Int))],O,U,U,(hS1_o),(hK),(hNw),(hso),(by rw [List.append_assoc,List.singleton_append,←hac,Ar (la:=la) (lb:=lb) (i:=i) (j:=j) U U,if_pos (by have e1:=hR0 i j U U; have e2:=hR0 (i+1) (j+1) U U; have e3:=hP0 i j U U; omega)]),(by simp only [List.length_append,List.length_cons,List.length_nil]; omega),Iu,hF.drop 1⟩
 omega
 refine Ia (Ca (Ue O) (Ca (Va O) (Ca (Va O) ?_)))
 refine Pb (Bs _ N0 cb pb rb la lb T0 T1 t0 t1 k3 k4 q r P R hK i j hll U U (fun j h=>hRa.2 _ (List.getElem_mem h)) (hRq (i+1) j U U)) (Gd O2 O O O O) ?_
 rintro _ w ⟨rfl,hE⟩
 replace hF:=hF.ext hE
 replace hK:=hK.ext hE
 replace hNw:=Nat.le_trans hNw hE.size
 clear hE
 refine Ca (Th O O) (Ca (Hc O) (Ea ?_))
 refine Yb O O (fun hc4=>?_) (fun hc4=>?_)
 refine Fa (Ca (Va O) (Ca (If (((i+1:Nat):Int)) O O) (Ca (Wb O) (Xa (Eb (Eb ?_))))))
 refine Ib ⟨_,?_,i+1,j,Ao,co,so,acc,O,U,U,(hSo),(hK),(hNw),(hso),(by rw [←hac,Ar (la:=la) (lb:=lb) (i:=i) (j:=j) U U,if_neg (by have e1:=hR0 i j U U; have e2:=hR0 (i+1) (j+1) U U; have e3:=hP0 i j U U; omega),if_pos (by have e1:=hR0 i j U U; have e2:=hR0 (i+1) j U U; simp only [Tl]; omega)]),U,Iu,hF⟩
 omega
 refine Fa (Ca (Va O) (Ca (If (((j+1:Nat):Int)) O O) (Ca (Wb O) (Xa (Eb (Eb ?_))))))
 refine Ib ⟨_,?_,i,j+1,Ao,co,so,acc,O,U,U,(hSo),(hK),(hNw),(hso),(by rw [←hac,Ar (la:=la) (lb:=lb) (i:=i) (j:=j) U U,if_neg (by have e1:=hR0 i j U U; have e2:=hR0 (i+1) (j+1) U U; have e3:=hP0 i j U U; omega),if_neg (by have e1:=hR0 i j U U; have e2:=hR0 (i+1) j U U; simp only [Tl]; omega)]),U,Iu,hF⟩
 omega
 refine Dc (Cc O ?_)
 refine Ga (Ha ?_)
 refine Uc [] (.free 0 (.free 1 (.free 2 (.free 3 (.free 4 (.free 5 (.free 6 (.free 7 (.free 8 (.free 9 (.free 10 (.free 11 .nil)))))))))))) hF ?_
 clear hF; intro w hF hE
 replace hK:=hK.ext hE
 replace hNw:=Nat.le_trans hNw hE.size
 clear hE
 refine ⟨fun wq=>FR w0 [] [] wq∧Ck wq N0 cb pb rb la lb T0 T1 t0 t1 k3 k4 q r P R,⟨hF.sub (List.nil_sublist _),hK⟩,?_⟩
 refine Db O (Yd O) (Db O (Ue O) (Db O (Gg O) (Db O (Ec Ci O) (Oa O (v:=.slice (some ⟨rb,0,none⟩) (la.length+1) (k4)) (fun w hC=>Ya isAgg37 O hC.2.c3) (Oa O (v:=.pointer (some ⟨rb,0,none⟩)) (fun w hC=>Gb (i:=0) 0 Vj O O Ua U U) (Oa O (v:=.slice (some ⟨r 0,0,none⟩) (lb.length+1) (lb.length+1)) (fun w hC=>Ya isAgg42 O (hC.2.rest.rowCell U)) (Oa O (v:=.pointer (some ⟨r 0,0,none⟩)) (fun w hC=>Gb (i:=0) 0 Nd O O Ua U U) (Oa O (v:=.int .i64 (R 0 0)) (fun w hC=>Ya isAgg3 O (hC.2.rest.cell U U)) (Db O (Sh O) (Db O (Wb O) (Db O (Wb O) (Mc (Ga ?_)))))))))))))
 refine Ub (Rb (Sa (Bq (v:=.slice _ _ _) (x:=.int .i64 (R 0 0)) (y:=.int .i64 0) O O O O) ?_))
 have he:acc=Yw 0 0 la lb:=by rw [←hac,E1 U,List.append_nil]
 have hin:=Tr la.length lb.length (la.length+lb.length) 0 0 la lb U U
 rw [he] at hSo
 have hrep:=hSo.rep (w0:=w0) (pre:=[]) (post:=[]) hF (RX.plain (ids:=[]) (fun S=>Vo (m:=Yw 0 0 la lb) (fun z hz=>by have:=hin z hz; omega))) Ma
 exact ⟨Ao,co,by rw [he,hR0 0 0 U U]; rfl,hrep,hF.same⟩
 refine Da (Da (Da (Da (Ca (Gc O O) (Ea (Ie O ?_))))))
 refine Dc (Cc O ?_)
 refine Ga (Ha ?_)
 refine Uc [] (.free 0 (.free 1 (.free 2 (.free 3 (.free 4 (.free 5 (.free 6 (.free 7 (.free 8 (.free 9 (.free 10 (.free 11 .nil)))))))))))) hF ?_
 clear hF; intro w hF hE
 replace hK:=hK.ext hE
 replace hNw:=Nat.le_trans hNw hE.size
 clear hE
 refine ⟨fun wq=>FR w0 [] [] wq∧Ck wq N0 cb pb rb la lb T0 T1 t0 t1 k3 k4 q r P R,⟨hF.sub (List.nil_sublist _),hK⟩,?_⟩
 refine Db O (Yd O) (Db O (Ue O) (Db O (Gg O) (Db O (Ec Ci O) (Oa O (v:=.slice (some ⟨rb,0,none⟩) (la.length+1) (k4)) (fun w hC=>Ya isAgg37 O hC.2.c3) (Oa O (v:=.pointer (some ⟨rb,0,none⟩)) (fun w hC=>Gb (i:=0) 0 Vj O O Ua U U) (Oa O (v:=.slice (some ⟨r 0,0,none⟩) (lb.length+1) (lb.length+1)) (fun w hC=>Ya isAgg42 O (hC.2.rest.rowCell U)) (Oa O (v:=.pointer (some ⟨r 0,0,none⟩)) (fun w hC=>Gb (i:=0) 0 Nd O O Ua U U) (Oa O (v:=.int .i64 (R 0 0)) (fun w hC=>Ya isAgg3 O (hC.2.rest.cell U U)) (Db O (Sh O) (Db O (Wb O) (Db O (Wb O) (Mc (Ga ?_)))))))))))))
 refine Ub (Rb (Sa (Bq (v:=.slice _ _ _) (x:=.int .i64 (R 0 0)) (y:=.int .i64 0) O O O O) ?_))
 have he:acc=Yw 0 0 la lb:=by rw [←hac,E1 U,List.append_nil]
 have hin:=Tr la.length lb.length (la.length+lb.length) 0 0 la lb U U
 rw [he] at hSo
 have hrep:=hSo.rep (w0:=w0) (pre:=[]) (post:=[]) hF (RX.plain (ids:=[]) (fun S=>Vo (m:=Yw 0 0 la lb) (fun z hz=>by have:=hin z hz; omega))) Ma
 exact ⟨Ao,co,by rw [he,hR0 0 0 U U]; rfl,hrep,hF.same⟩
end Go.Scarf
namespace Go.Scarf
open Go.RowKit Go.Proofs Go.Proofs.Tryz
def Xk (N:Nat) (f:Nat→Value):Array Value:=((List.range N).map f).toArray
theorem JF (N:Nat) (f:Nat→Value):(Xk N f).size=N:=by simp [Xk]
theorem F7 {N k:Nat} {f:Nat→Value} (h:k < N):(Xk N f)[k]? = some (f k):=by simp [Xk,h]
def Zs (f:Nat→Value) (k:Nat) (v:Value):Nat→Value:=fun x=>if x=k then v else f x
theorem YG (f:Nat→Value) (k:Nat) (v:Value):Zs f k v k=v:=if_pos rfl
theorem ZQ {f:Nat→Value} {k x:Nat} {v:Value} (h:x≠k):Zs f k v x=f x:=if_neg h
theorem CJ {f:Nat→Value} {k:Nat} {v:Value} (h:f k=v):Zs f k v=f:=by
  funext x
  unfold Zs
  split
  · rename_i e; rw [e,h]
  · rfl
theorem LJ {N k:Nat} {f:Nat→Value} (u v:Value):Ok (Xk N (Zs f k u)) k [v]=Xk N (Zs f k v):=by
  rw [Ok,Ok]
  apply Array.ext
  · simp [Xk]
  · intro i h1 h2
    rw [Array.getElem_setIfInBounds (by simpa using h1)]
    by_cases e:k=i
    · subst e; simp [Xk,Zs]
    · have e' : ¬ i = k := fun h => e h.symm
      simp [Xk,Zs,e,e']
theorem NK (N:Nat):(List.replicate N (Value.slice none 0 0)).toArray=Xk N fun _=>.slice none 0 0:=by
  apply Array.ext
  · simp [Xk]
  · intro i h1 h2; simp [Xk]
def rng (j k:Nat):List Int:=(List.range' j (k - j)).map fun i:Nat=>(i:Int)
theorem NQ (j:Nat):rng j j=[]:=by simp [rng]
theorem N9 (j k:Nat):(rng j k).length=k - j:=by simp [rng]
theorem UN {j k:Nat} (h:j≤k):rng j (k+1)=rng j k++[(k:Int)]:=by
  unfold rng
  rw [show k+1 - j=k - j+1 by omega,List.range'_1_concat,List.map_append,show j+(k - j)=k by omega]; rfl
theorem FT (j k:Nat):rng j (max j k)=rng j k:=by
  unfold rng
  rw [show max j k - j=k - j by omega]
theorem HM {j k:Nat}:∀ z∈rng j k,(j:Int)≤z∧z < (k:Int):=fun z hz=>by
  obtain ⟨i,hi,rfl⟩:=List.mem_map.1 hz
  have:=List.mem_range'_1.1 hi
  omega
theorem WN (w0:World) (N g ob jb vb tt j:Nat) (hd:Nat→Value) (acc:List Int) (A:Option Addr) (c:Nat) (sg:List (Nat × Obj)) (hg:g < N) (hN:N≤65) (hto:tt≤64) (hj1:j≤1000) (hlen:acc.length≤100000) (hob:w0.heap[ob]? = some (.cells (Xk N hd) 42)) (hjb:w0.heap[jb]? = some (.cells #[.int .i64 (j:Nat)] 3)) (hvb:w0.heap[vb]? = some (.cells #[.slice (some ⟨ob,0,none⟩) N N] 37)) (hh:hd g=.slice A acc.length c) (hS:SlB 3 1 A acc.length c (Qr acc) sg) (hsg:∀ z∈sg,w0.heap[z.1]? = some z.2∧z.1≠ob∧z.1≠jb∧z.1≠vb) (hne:jb≠ob∧vb≠ob∧vb≠jb):Calls prog 25 #[.int .i64 ((g:Nat):Int),.int .i64 ((tt:Nat):Int),.pointer (some ⟨jb,0,none⟩),.pointer (some ⟨vb,0,none⟩)] w0 (De fun v w'=>∃ (A':Option Addr) (c':Nat) (sg':List (Nat × Obj)),v=.tuple #[]∧w'.heap[ob]? = some (.cells (Xk N (Zs hd g (.slice A' (acc++rng j tt).length c'))) 42)∧w'.heap[jb]? = some (.cells #[.int .i64 ((max j tt:Nat):Int)] 3)∧w'.heap[vb]? = some (.cells #[.slice (some ⟨ob,0,none⟩) N N] 37)∧SlB 3 1 A' (acc++rng j tt).length c' (Qr (acc++rng j tt)) sg'∧(∀ z∈sg',w'.heap[z.1]? = some z.2∧z.1≠ob∧z.1≠jb∧z.1≠vb∧(z.1∈sg.map (·.1)∨w0.heap.size≤z.1))∧Same ([ob,jb,vb]++sg.map (·.1)) w0 w'):=by
 refine Ka func25 O ntmps25 Kb (GD _ _ _ _) ?_
 have hF:FR w0 ([ob,jb,vb]++sg.map (·.1)) ([(ob,.cells (Xk N (Zs hd g (.slice A acc.length c))) 42),(jb,.cells #[.int .i64 ((j:Nat))] 3),(vb,.cells #[.slice (some ⟨ob,0,none⟩) N N] 37)]++(sg++[])) w0:=FR.open_ (fun z hz=>by simp only [List.append_nil,List.mem_append,List.mem_cons,List.not_mem_nil,or_false] at hz ⊢; rcases hz with (rfl | rfl | rfl) | hz; (exact ⟨by rw [CJ hh]; exact hob,by simp⟩); (exact ⟨hjb,by simp⟩); (exact ⟨hvb,by simp⟩); (exact ⟨(hsg z hz).1,.inr (List.mem_map_of_mem hz)⟩)) (by rw [List.append_nil,List.pairwise_append]; refine ⟨by simp [hne.1,hne.2.1,hne.2.2],hS.pw,fun z hz y hy=>?_⟩; have h:=hsg y hy; simp only [List.mem_cons,List.not_mem_nil,or_false] at hz; rcases hz with rfl | rfl | rfl; (exact h.2.1); (exact h.2.2.1); (exact h.2.2.2))
 refine Ta ?_
 refine Lc (fun μ σ w=>∃ (q:Nat),∃ (Ax:Option Addr),∃ (cx:Nat),∃ (so:List (Nat × Obj)),∃ (ac:List Int),μ=tt - q∧(j≤q∧(q≤tt∨q=j))∧(SlB 3 1 Ax ac.length cx (Qr ac) so)∧(ac=acc++rng j q)∧(∀ z∈so,z.1∈sg.map (·.1)∨w0.heap.size≤z.1)∧(w0.heap.size≤w.heap.size)∧AllEq σ [(0,.int .i64 ((g:Nat))),(1,.int .i64 ((tt:Nat))),(2,.pointer (some ⟨jb,0,none⟩)),(3,.pointer (some ⟨vb,0,none⟩))]∧FR w0 ([ob,jb,vb]++sg.map (·.1)) ([(ob,.cells (Xk N (Zs hd g (.slice Ax ac.length cx))) 42),(jb,.cells #[.int .i64 ((q:Nat))] 3),(vb,.cells #[.slice (some ⟨ob,0,none⟩) N N] 37)]++(so++[])) w) _ ⟨j,A,c,sg,acc,O,U,(hS),(by rw [NQ,List.append_nil]),(fun z hz=>.inl (List.mem_map_of_mem hz)),(hF.same.size),Gm,hF⟩ ?_
 clear hF; rintro μ σ w ⟨q,Ax,cx,so,ac,rfl,hq,hSo,hac,hso,hF0,hs,hF⟩
 refine Cg.slots hs ?_
 clear hs; intro σ
 refine Ha (Ia (Tc (Hl isAgg3 O hF.F 1 O O) (Ca (Va O) (Ca (Yg O O) (Ea ?_)))))
 refine Yb O O (fun hc0=>?_) (fun hc0=>?_)
 refine Qa (Ga (Ha (Ta ?_)))
 refine Uc [10] (.free 0 (.free 1 (.free 2 (.free 3 (.free 4 (.free 5 (.free 6 (.act 7 (.act 8 (.free 9 (.act 10 .nil))))))))))) hF ?_
 clear hF; intro w hF hE
 replace hF0:=Nat.le_trans hF0 hE.size
 clear hE
 refine ⟨fun wq=>FR w0 ([ob,jb,vb]++sg.map (·.1)) [(ob,.cells (Xk N (Zs hd g (.slice Ax ac.length cx))) 42),(jb,.cells #[.int .i64 ((q:Nat))] 3),(vb,.cells #[.slice (some ⟨ob,0,none⟩) N N] 37)] wq,hF.sub (.cons_cons _ (.cons_cons _ (.cons_cons _ (List.nil_sublist _)))),?_⟩
 refine Uk O (Mf isAgg37 O C0 2 O O) (Db O (Va O) (Uk O (Mf isAgg37 O C0 2 O O) (Db O (Va O) (Oa O (v:=.pointer (some ⟨ob,g,none⟩)) (fun w hC=>Gb (i:=((g:Nat):Int)) (g) Vj O O U U U) ?_))))
 refine Oa O (v:=.slice Ax ac.length cx) (fun w hC=>Ya isAgg42 O (by rw [Ac (hC.heap (i:=0) O),F7 hg,YG])) ?_
 refine Uk O (Hl isAgg3 O C0 1 O O) ?_
 refine Ge 1 O hF (Za (cs:=#[.int .i64 ((q:Nat))]) underlying42 sizeOf3 zeroValue3 Ua Ua Qb) ?_
 clear hF; intro b1 w hb1 hF hE
 replace hF0:=Nat.le_trans hF0 hE.size
 clear hE
 refine ⟨hF.sub (.cons _ (.cons_cons _ (.cons_cons _ (.cons_cons _ (List.nil_sublist _))))),?_⟩
 refine Rc [(b1,.cells #[.int .i64 ((q:Nat))] 3),(ob,.cells (Xk N (Zs hd g (.slice Ax ac.length cx))) 42),(jb,.cells #[.int .i64 ((q:Nat))] 3),(vb,.cells #[.slice (some ⟨ob,0,none⟩) N N] 37)] [] (news:=[.int .i64 ((q:Nat))]) (len':=(ac++[(q:Int)]).length) (ys:=Qr (ac++[(q:Int)])) O Wh hF hSo O O (O) (fun _=>⟨_,O,Xb (hF.cellsAll 0 O)⟩) (by simp [Value.oneCell']) (by simp only [maxLen]; have:=congrArg List.length hac; simp only [List.length_append,N9] at this; omega) Ma (by simp [Qr]) (by have:=congrArg List.length hac; simp only [List.length_append,N9] at this; omega) ?_
 clear hF; intro A0 c0 o_0 w hS0_o hF hE hnew
 replace hso:∀ z∈o_0,z.1∈sg.map (·.1)∨w0.heap.size≤z.1:=fun z hz=>(hnew z hz).elim (fun h=>by obtain ⟨z2,hz2,e⟩:=List.mem_map.1 h; rw [←e]; exact hso z2 hz2) (fun h=>.inr (Nat.le_trans hF0 h))
 replace hF0:=Nat.le_trans hF0 hE.size
 clear hE hnew
 refine ⟨hF.sub (.cons _ (.cons_cons _ (.cons_cons _ (.cons_cons _ (List.nil_sublist _))))),?_⟩
 refine Oa O (v:=.pointer (some ⟨ob,g,none⟩)) (fun w hC=>Gb (i:=((g:Nat):Int)) (g) Vj O O U U U) ?_
 refine Ad O 1 (l:=[.slice A0 ((ac++[(q:Int)]).length) c0]) (cs':=Xk N (Zs hd g (.slice A0 ((ac++[(q:Int)]).length) c0))) hF sizeOf42 O O O Ed O (by rw [JF]; simp only [List.length_singleton]; omega) (LJ _ _) ?_
 clear hF; intro w hF hE
 replace hF0:=Nat.le_trans hF0 hE.size
 clear hE
 replace hF:FR w0 ([ob,jb,vb]++sg.map (·.1)) ([(b1,.cells #[.int .i64 ((q:Nat))] 3),(ob,.cells (Xk N (Zs hd g (.slice A0 ((ac++[(q:Int)]).length) c0))) 42),(jb,.cells #[.int .i64 ((q:Nat))] 3),(vb,.cells #[.slice (some ⟨ob,0,none⟩) N N] 37)]++(o_0++[])) w:=hF
 refine Mc (Eb (Ga (Fa (Tc (Hl isAgg3 O hF.F 2 O O) (Ca (If (((q+1:Nat):Int)) O O) ?_)))))
 refine Mq (.int _ _) hF sizeOf3 O O ZR.app Vm ?_
 clear hF; intro w hF hE
 replace hF0:=Nat.le_trans hF0 hE.size
 clear hE
 refine Xa ?_
 refine Ib ⟨_,?_,q+1,A0,c0,o_0,ac++[(q:Int)],O,U,(hS0_o),(by rw [UN U,hac,List.append_assoc]),(hso),(hF.same.size),Gm,hF.drop 1⟩
 omega
 refine Dc (Cc O ?_)
 refine Sf (Wd (Ih O) ?_)
 obtain rfl:q=max j tt:=by omega
 rw [FT] at hac
 subst hac
 have hps:=FR.apart (pre:=[_,_,_]) (rest:=so++[]) (i:=0) hF rfl
 have hpj:=FR.apart (pre:=[_,_,_]) (rest:=so++[]) (i:=1) hF rfl
 have hpv:=FR.apart (pre:=[_,_,_]) (rest:=so++[]) (i:=2) hF rfl
 rw [List.append_nil] at hps hpj hpv
 exact ⟨Ax,cx,so,O,hF.heap (i:=0) O,hF.heap (i:=1) O,hF.heap (i:=2) O,hSo,fun z hz=>⟨(hF.own z (by simp [hz])).1,fun e=>hps (e ▸ List.mem_map_of_mem hz),fun e=>hpj (e ▸ List.mem_map_of_mem hz),fun e=>hpv (e ▸ List.mem_map_of_mem hz),hso z hz⟩,hF.same⟩
end Go.Scarf
