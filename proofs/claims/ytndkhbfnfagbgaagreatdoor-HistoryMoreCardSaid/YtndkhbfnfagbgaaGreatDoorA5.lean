/- A part of the proof. -/
import Derived.Test.YtndkhbfnfagbgaaGreatDoorA4
set_option linter.all false
set_option maxHeartbeats 8000000
set_option maxRecDepth 10000
namespace Go.Scarf
open Go.RowKit Go.Proofs Go.Proofs.Tryz
def Y7:Nat->Nat->Nat->List TreeN->List TreeN->List (Int × Int)
  | 0,_,_,_,_=>[]
  | f + 1, i, j, x :: xs, y :: ys =>
    if al Rp pN (x::xs) (y::ys)=pN x y+al Rp pN xs ys then ((i:Int),(j:Int))::Y7 f (i+1) (j+1) xs ys
    else if al Rp pN (x::xs) (y::ys)=Rp x+al Rp pN xs (y::ys) then Y7 f (i+1) j xs (y::ys)
    else Y7 f i (j+1) (x::xs) ys
  | _+1,_,_,_,_=>[]
theorem Lq:∀(f g:Nat)(i j:Nat)(xs ys:List TreeN),xs.length+ys.length<=f->xs.length+ys.length<=g->Y7 f i j xs ys=Y7 g i j xs ys
  | 0, g, i, j, xs, ys, h, _ => by
    obtain rfl:xs=[]:=List.eq_nil_of_length_eq_zero sX;cases g <;> rfl
  | f + 1, 0, i, j, xs, ys, _, h => by
    obtain rfl:xs=[]:=List.eq_nil_of_length_eq_zero sX;rfl
  | f+1,g+1,i,j,[],ys,_,_=>rfl
  | f+1,g+1,i,j,x::xs,[],_,_=>rfl
  | f + 1, g + 1, i, j, x :: xs, y :: ys, h1, h2 => by
    simp only[kQ]at h1 h2;rw[Y7,Y7,Lq f g (i+1) (j+1) xs ys sX sX,Lq f g (i+1) j xs (y::ys) (by simp only[kQ];omega) (by simp only[kQ];omega),Lq f g i (j+1) (x::xs) ys (by simp only[kQ];omega) (by simp only[kQ];omega)]
def pth(i j:Nat)(xs ys:List TreeN):List (Int × Int):=Y7 (xs.length+ys.length) i j xs ys
section
variable {la lb:List TreeN}{i j:Nat}
theorem N2(h1:i<la.length)(h2:j<lb.length):pth i j (la.drop i) (lb.drop j) =
    if al Rp pN (la.drop i) (lb.drop j)=pN la[i] lb[j]+al Rp pN (la.drop (i+1)) (lb.drop (j+1)) then ((i:Int),(j:Int))::pth (i+1) (j+1) (la.drop (i+1)) (lb.drop (j+1))
    else if al Rp pN (la.drop i) (lb.drop j)=Rp la[i]+al Rp pN (la.drop (i+1)) (lb.drop j) then pth (i+1) j (la.drop (i+1)) (lb.drop j)
    else pth i (j+1) (la.drop i) (lb.drop (j+1)):=by
  unfold pth;rw[List.drop_eq_getElem_cons h1,List.drop_eq_getElem_cons h2];rw[show (la[i]::la.drop (i+1)).length+(lb[j]::lb.drop (j+1)).length=((la.drop (i+1)).length+(lb.drop (j+1)).length+1)+1 by simp only[kQ];omega,Y7];rw[Lq _ ((la.drop (i+1)).length+(lb.drop (j+1)).length) (i+1) (j+1) _ _ sX sX,
    Lq _ ((la.drop (i+1)).length+(lb[j]::lb.drop (j+1)).length) (i+1) j _ _ (by simp only[kQ];omega) sX,
    Lq _ ((la[i]::la.drop (i+1)).length+(lb.drop (j+1)).length) i (j+1) _ _ (by simp only[kQ];omega) sX]
theorem E2(h:¬(i<la.length/\j<lb.length)):pth i j (la.drop i) (lb.drop j)=[]:=by
  unfold pth;by_cases h1:la.length<=i
  ·rw[List.drop_eq_nil_of_le h1]
   generalize ([]:List TreeN).length+(lb.drop j).length=f;cases f <;> rfl
  rw[List.drop_eq_nil_of_le (show lb.length <= j by omega)];generalize (la.drop i).length+([]:List TreeN).length=f;cases f
  ·rfl
  cases la.drop i <;> rfl
theorem B2(n m:Nat):∀(f i j:Nat)(xs ys:List TreeN),i+xs.length<=n->j+ys.length<=m->∀z∈Y7 f i j xs ys,(i:Int)<=z.1/\z.1<(n:Int)/\(j:Int)<=z.2/\z.2<(m:Int)
  | 0,_,_,_,_,_,_,z,hz=>by cases hz
  | f+1,i,j,[],_,_,_,z,hz=>by cases hz
  | f+1,i,j,_::_,[],_,_,z,hz=>by cases hz
  | f + 1, i, j, x :: xs, y :: ys, h1, h2, z, hz => by
    simp only[kQ]at h1 h2;rw[Y7]at hz;split at hz
    ·rcases oQ.1 hz with rfl|hz
     ·simp only;omega
     have:=B2 n m f (i+1) (j+1) xs ys sX sX z hz;omega
    split at hz
    ·have:=B2 n m f (i+1) j xs (y::ys) sX (by simp only[kQ];omega) z hz;omega
    have:=B2 n m f i (j+1) (x::xs) ys (by simp only[kQ];omega) sX z hz;omega
end
theorem F3{S:Nat->Prop}{w:World}:∀{m:List (Int × Int)},(∀z∈m,(-9223372036854775808<=z.1/\z.1<=9223372036854775807)/\(-9223372036854775808<=z.2/\z.2<=9223372036854775807))->RepL S w (m.map BB) (I9 m)
  | [],_=>by rw[List.map_nil,RepL];rfl
  | z :: m, h => by
    rw[List.map_cons,RepL];exact⟨M2 z,I9 m,O,rep_pair (h z Da).1 (h z Da).2,F3 λy hy=>h y (by simp[hy])⟩
theorem AC(l:List Tree)(A:Option Addr)(c:Nat)(S:Nat->Prop)(w0:World)(hG:Gl w0)(hX:Rep S w0 (.slice (Gd l)) [.slice A l.length c])(hok:∀x∈l,No x) :
    Calls prog 163 #[.slice A l.length c] w0 (Td λv w'=>∃V,v=.tuple #[V,J (Nh l)]/\Same [] w0 w') :=
  Vn (TQ l A c S w0 hG hX hok) λv w' h=>by
    rcases h with ⟨_,rfl,hs⟩|⟨he,A',c',rfl,_,hs⟩
    ·exact⟨_,O,hs⟩
    exact⟨_,by rw[he],hs⟩
theorem EB(l:List Tree)(la:List TreeN)(hl:la=l.map Fi)(he:Nh l=0)(A:Option Addr)(c:Nat)(S:Nat->Prop)(w0:World)(hG:Gl w0)(hX:Rep S w0 (.slice (Gd l)) [.slice A l.length c])(hok:∀x∈l,No x) :
    Calls prog 163 #[.slice A l.length c] w0 (Td λv w'=>∃(A':Option Addr)(c':Nat),v=.tuple #[.slice A' la.length c',J 0]/\Rep (Btw w0 w') w' (.slice (la.map Kp)) [.slice A' la.length c']/\Same [] w0 w') :=
  Vn (TQ l A c S w0 hG hX hok) λv w' h=>by
    rcases h with ⟨h,_⟩|⟨_,A',c',rfl,hr,hs⟩
    ·exact absurd he h
    subst hl;exact⟨A',c',by rw[rQ],by rw[rQ];exact hr,hs⟩
def TN(a b:List Tree):Int:=if Nh a=1\/Nh b=1 then 1 else if Nh a=0/\Nh b=0 then 0 else 6
theorem H_{l:List Tree}(h:Nh l=0):(∀x∈l,Kd x=true)/\l.length<=64/\O6 l<=512:=by
  unfold Nh at h;split at h
  ·rename_i ha
   split at h
   ·cases h
   split at h
   ·cases h
   exact⟨λx hx=>List.all_eq_true.1 ha x hx,by omega,by omega⟩
  cases h
theorem EH{l:List Tree}(h:Nh l=0)(hok:∀x∈l,No x):(∀x∈l.map Fi,Ek x.1 x.2)/\∀x∈l.map Fi,Rp x<=512:=by
  have hy:=H_ h;constructor
  ·intro x hx
   obtain⟨t,ht,rfl⟩:=nQ.1 hx;exact Q7 (hy.1 t ht) (hok t ht).2.1
  intro x hx;obtain⟨t,ht,rfl⟩:=nQ.1 hx;have h1:=Qt (hy.1 t ht);have h2:=(hok t ht).2.1;show (Il t).length<=512;omega
def CkLt(N1 cb pb rb n:Nat)(q r:Nat->Nat):Prop:=cb<N1/\pb<N1/\rb<N1/\∀i,i<n+1->q i<N1/\r i<N1
section
variable {w w':World}{N0 N1 cb pb rb:Nat}{la lb:List TreeN}{Aa Ab:Option Addr}{k1 k2 k3 k4:Nat}{q r:Nat->Nat}{P R:Nat->Nat->Int}
theorem Ck.lt(h:Ck w N0 cb pb rb la lb Aa Ab k1 k2 k3 k4 q r P R):CkLt w.heap.size cb pb rb la.length q r:=by
  obtain⟨_,h1,_⟩:=h.pair.top;obtain⟨_,h2,_⟩:=h.rest.top;exact⟨Ma h.cell,Ma h1,Ma h2,λi hi=>⟨Ma (h.pair.row i hi),Ma (h.rest.row i hi)⟩⟩
theorem Ck.apart(h:Ck w N0 cb pb rb la lb Aa Ab k1 k2 k3 k4 q r P R)(hl:CkLt N1 cb pb rb la.length q r){E:List Nat}(hs:Same E w w')(he:∀b∈E,N1<=b):Ck w' N0 cb pb rb la lb Aa Ab k1 k2 k3 k4 q r P R:=by
  have hlo:=h.lo;have nl:∀x,x<N1->x∉E:=λx hx hm=>by have:=he x hm;omega
  exact h.keep hs (λb hb=>by have:=he b hb;have:=hl.1;omega) (nl _ hl.1) (nl _ hl.2.1) (nl _ hl.2.2.1) (λi hi=>nl _ (hl.2.2.2 i hi).1) (λi hi=>nl _ (hl.2.2.2 i hi).2)
end
theorem rows_no(S S':Nat->Prop)(w0:World)(hG:Gl w0)(x y:List Tree)(A B:Option Addr)(c e:Nat)(hX:Rep S w0 (.slice (Gd x)) [.slice A x.length c])(hY:Rep S' w0 (.slice (Gd y)) [.slice B y.length e])(hokx:∀z∈x,No z)(hoky:∀z∈y,No z)(hne:¬(Nh x=0/\Nh y=0)):Calls prog 123 #[.slice A x.length c,.slice B y.length e] w0 (Td λv w'=>v=.tuple #[aQ,J 0,J (TN x y)]/\Same [] w0 w'):=by
 refine Ga func123 O ntmps123 Fb (Zc _ _) ?_;have hF:=FR.start w0 [];refine Ja (Ca (Qg O) (Ca (Sc O) (Ca (Sc O) (Fc (Ca (Pd O) ?_)))));refine Cb (AC x _ _ _ _ (hG.ext hF.same) (hF.rep hX) hokx) (Ra ZF O O) ?_;rintro _ w ⟨V0,rfl,hE⟩;have hF:=hF.ext hE;refine Ca (Ro O) (Ca (yxu O O) (Ca (Rs O O) (Ca (Ry) (Ca (Sc O) (Fc (Ca (Pd O) ?_))))));refine Cb (AC y _ _ _ _ (hG.ext hF.same) (hF.rep hY) hoky) (Ra ZF O O) ?_;rintro _ w ⟨V1,rfl,hE⟩;have hF:=hF.ext hE;refine Ca (Ro O) (Ca (yxu O O) (Ca (Rs O O) (Ca (Ry) (Ca (Sc O) (Ea (Ha (Va (Ja (Ca (Kb O) (Ca (Pq O O) (Ca (Ae O) ?_)))))))))));refine Dd (d:=28) O (λhg0=>?_) (λhg0=>?_);refine Oa (Oa (Ca (Nd O O) (Ca (Hc O) (Ea (Ge O (Ja (Ca (Qg O) (Ca (Sc O) (Ca (Sc O) (Ea ?_))))))))));refine Cc (Bc (Sa (H6 (v:=.slice _ _ _) (x:=J 0) (y:=J 1) O O O O) ?_));exact⟨by rw[TN,if_pos (by simp_all)],hF.same⟩;refine Ca (Kb O) (Ca (Pq O O) (Ca (Md O O) (Ca (Hc O) (Ea ?_))));refine Pc O O (λhc0=>?_) (λhc0=>?_);refine Ja (Ca (Qg O) (Ca (Sc O) (Ca (Sc O) (Ea ?_))));refine Cc (Bc (Sa (H6 (v:=.slice _ _ _) (x:=J 0) (y:=J 1) O O O O) ?_));exact⟨by rw[TN,if_pos (by simp_all)],hF.same⟩;refine Ja (Ca (Kb O) (Ca (Mz O O) (Ca (Ae O) ?_)));refine Dd (d:=35) O (λhg1=>?_) (λhg1=>?_);refine Oa (Oa (Ca (Nd O O) (Ca (Hc O) (Ea (Ge O (Ja (Ca (Qg O) (Ca (Sc O) (Ca (Sc O) (Ea ?_))))))))));refine Cc (Bc (Sa (H6 (v:=.slice _ _ _) (x:=J 0) (y:=J 6) O O O O) ?_));exact⟨by rw[TN,if_neg (by simp_all),if_neg (by simp_all)],hF.same⟩;refine Ca (Kb O) (Ca (Mz O O) (Ca (Md O O) (Ca (Hc O) (Ea ?_))));refine Pc O O (λhc1=>?_) (λhc1=>?_);refine Ja (Ca (Qg O) (Ca (Sc O) (Ca (Sc O) (Ea ?_))));refine Cc (Bc (Sa (H6 (v:=.slice _ _ _) (x:=J 0) (y:=J 6) O O O O) ?_));exact⟨by rw[TN,if_neg (by simp_all),if_neg (by simp_all)],hF.same⟩;exact absurd hne (by simp_all)
theorem rows_yes(S S':Nat->Prop)(w0:World)(hG:Gl w0)(x y:List Tree)(A B:Option Addr)(c e:Nat)(hX:Rep S w0 (.slice (Gd x)) [.slice A x.length c])(hY:Rep S' w0 (.slice (Gd y)) [.slice B y.length e])(hokx:∀z∈x,No z)(hoky:∀z∈y,No z)(la lb:List TreeN)(hla:la=x.map Fi)(hlb:lb=y.map Fi)(hex:Nh x=0)(hey:Nh y=0):Calls prog 123 #[.slice A x.length c,.slice B y.length e] w0 (Td λv w'=>∃(Az:Option Addr)(cz:Nat),v=.tuple #[.slice Az (pth 0 0 la lb).length cz,J ((al Rp pN la lb:Nat):Int),J 0]/\Rep (Btw w0 w') w' (G3 (pth 0 0 la lb)) [.slice Az (pth 0 0 la lb).length cz]/\Same [] w0 w'):=by
 have hRa:(∀x∈la,Ek x.1 x.2)/\∀x∈la,Rp x<=512:=by rw[hla];exact EH hex hokx
 have hRb:(∀x∈lb,Ek x.1 x.2)/\∀x∈lb,Rp x<=512:=by rw[hlb];exact EH hey hoky
 have hll:la.length<=64/\lb.length<=64:=by rw[hla,hlb,rQ,rQ];exact⟨(H_ hex).2.1,(H_ hey).2.1⟩
 refine Ga func123 O ntmps123 Fb (Zc _ _) ?_;have hF:=FR.start w0 [];refine Ja (Ca (Qg O) (Ca (Sc O) (Ca (Sc O) (Fc (Ca (Pd O) ?_)))));refine Cb (EB x la hla hex _ _ _ _ (hG.ext hF.same) (hF.rep hX) hokx) (Ra ZF O O) ?_;rintro _ w ⟨T0,t0,rfl,hT0,hE⟩;have hF:=hF.ext hE;refine Ca (Ro O) (Ca (VK O O) (Ca (Rs O O) (Ca (Qg O) (Ca (Sc O) (Fc (Ca (Pd O) ?_))))));refine Cb (EB y lb hlb hey _ _ _ _ (hG.ext hF.same) (hF.rep hY) hoky) (Ra ZF O O) ?_;rintro _ w ⟨T1,t1,rfl,hT1,hE⟩;have hF:=hF.ext hE;have hT0:=hT0.ext hE;refine Ca (Ro O) (Ca (VK O O) (Ca (Rs O O) (Ca (Qg O) (Ca (Sc O) (Ea (Ha (Va (Ja (Ca (Kb O) (Ka (v:=.bool false) (Je (Vp O O) Ua) (Ca (Ae O) ?_)))))))))));refine Ca (Kb O) (Ka (v:=.bool false) (Je (Vp O O) Ua) (Ca (Md O O) (Ca (Hc O) (Ea (Kg O (Ja (Ca (Kb O) (Ka (v:=.bool false) (Je (Qy O O) Ua) (Ca (Ae O) (Ca (Kb O) (Ka (v:=.bool false) (Je (Qy O O) Ua) ?_)))))))))));refine Ca (Md O O) (Ca (Hc O) (Ea (Kg O (Ta (Ib (Ia (Ja (Ca (Pd O) (Ca (Pd O) ?_)))))))));obtain⟨N0,hN0⟩:∃N,N=w.heap.size:=⟨_,rfl⟩;refine Cb (reckon_c _ _ _ la lb T0 T1 t0 t1 hT0 hT1 hll hRa.1 hRb.1 hRa.2 hRb.2) (Za en_164 O O O) ?_;rintro _ w ⟨cb,pb,rb,k3,k4,q,r,P,R,rfl,hK,hR0,hP0,hE⟩;rw[<-hN0]at hK;have hF:=hF.ext hE;have hlt:=hK.lt;obtain⟨N1,hN1⟩:∃N,N=w.heap.size:=⟨_,rfl⟩;rw[<-hN1]at hlt;have hNw:N1<=w.heap.size:=Nat.le_of_eq hN1;clear hE hN0 hN1 hT0 hT1;have hmx:∀x y,al Rp pN (la.drop x) (lb.drop y)<=65536:=λx y=>fQ (al_max (λz hz=>hRa.2 z (List.mem_of_mem_drop hz)) (λz hz=>hRb.2 z (List.mem_of_mem_drop hz))) (by simp only[List.length_drop];omega);have hRq:∀a b,a<=la.length->b<=lb.length->0<=R a b/\R a b<=1000000:=λa b ha hb=>by have h1:=hmx a b;rw[hR0 a b ha hb];omega
 have hPq:∀a b (h1:a<la.length) (h2:b<lb.length),0<=P a b/\P a b<=1000000:=λa b h1 h2=>by have h3:pN la[a] lb[b]<=la[a].1.length+lb[b].1.length:=(Kx (ls:=la[a].1) (fs:=la[a].2) (gs:=lb[b].1) (hs:=lb[b].2)).1;have h4:la[a].1.length<=512:=hRa.2 _ (eQ h1);have h5:lb[b].1.length<=512:=hRb.2 _ (eQ h2);rw[hP0 a b h1 h2];omega
 refine Ca (ZK O) (Fc (Ca (Qg O) (Ea (Ha (Ja (Ca (Sc O) (Ca (Sc O) (Db ?_))))))));refine Ia (Va ?_);refine Rc (λμ σ w=>∃(i:Nat),∃(j:Nat),∃(Ao:Option Addr),∃(co:Nat),∃(so:List (Nat × Obj)),∃(acc:List (Int × Int)),μ=la.length+lb.length-(i+j)/\(i<=la.length)/\(j<=lb.length)/\(SlB 224 2 Ao acc.length co (I9 acc) so)/\(Ck w N0 cb pb rb la lb T0 T1 t0 t1 k3 k4 q r P R)/\(N1<=w.heap.size)/\(∀z∈so,N1<=z.1)/\(acc++pth i j (la.drop i) (lb.drop j)=pth 0 0 la lb)/\(acc.length<=i)/\AllEq σ [(7,.slice T0 la.length t0),(9,.slice T1 lb.length t1),(11,.pointer (some ⟨cb,0,none⟩)),(12,.slice Ao acc.length co),(13,J ((i:Int))),(14,J ((j:Int)))]/\FR w0 [] ([]++(so++[])) w) _ ⟨0,0,none,0,[],[],O,(Nat.zero_le _),(Nat.zero_le _),(SlB.nil _ _),(hK),(hNw),Da,Da,(Nat.zero_le _),I6,hF⟩ ?_;rintro μ σ w ⟨i,j,Ao,co,so,acc,rfl,hi,hj,hSo,hK,hNw,hso,hac,hal,hs,hF⟩;refine Cg.slots hs ?_;clear hs;intro σ;refine Ha (Ja (Ca (Kb O) (Ca (Pd O) (Ca (Ye zZ O) (Ca (Kl O O) (Ca (Ae O) ?_))))));refine Dd (d:=46) O (λhg0=>?_) (λhg0=>?_);refine Ca (Kb O) (Ca (Pd O) (Ca (Ye zZ O) (Ca (Kl O O) (Ca (Nd O O) (Ea ?_)))));refine Pc O O (λhc2=>?_) (λhc2=>?_);refine Ta (Ia (Va (Ja (Ca (Re O) (Ca (Bh O) (Ca (Xb Gg O) (Ka (v:=W rb (la.length+1) (k4)) (Jb tQ O hK.c3) (Ca (Kb O) (Ka (v:=.pointer (some ⟨rb,i,none⟩)) (Gc (i:=((i:Nat):Int)) (i) Uk O O sX sX sX) (Ka (v:=.slice (some ⟨r (i),0,none⟩) (lb.length+1) (lb.length+1)) (Jb vQ O (hK.rest.rowCell sX)) (Ca (Kb O) (Ka (v:=.pointer (some ⟨r (i),j,none⟩)) (Gc (i:=((j:Nat):Int)) (j) Ef O O sX sX sX) ?_))))))))))));refine Ka (v:=J (R i j)) (Jb bZ O (hK.rest.cell sX sX)) (Ea (Va (Ja (Ca (Re O) (Ca (Kb O) (Ca (Kb O) ?_))))));refine Cb (K0 _ N0 cb pb rb la lb T0 T1 t0 t1 k3 k4 q r P R hK i j hll sX sX (hPq i j sX sX) (hRq (i+1) (j+1) sX sX)) (Ic S_ O O O O) ?_;rintro _ w ⟨rfl,hE⟩
 have hF:=hF.ext hE;have hK:=hK.ext hE;have hNw:=fQ hNw hE.size;refine Ca (Pq O O) (Ca (Hc O) (Ea ?_));refine Pc O O (λhc3=>?_) (λhc3=>?_);refine Ja (Ca (Pd O) (Ca (Kb O) (Ca (Kb O) ?_)));refine Ka (w':=w) (v:=.agg #[J ((i:Int)),J ((j:Int))]) Mb (Pf 1 hF (Xa (cs:=#[J ((i:Int)),J ((j:Int))]) yZ kZ zeroValue224 Ua Ua Mb) ?_);intro b1 w hb1 hF hE;have hK:=hK.ext hE;have hNw:=fQ hNw hE.size;refine M5 (news:=[J ((i:Int)),J ((j:Int))]) (len':=(acc++[((i:Int),(j:Int))]).length) (ys:=I9 (acc++[((i:Int),(j:Int))])) el_162 hF hSo O O (O) (λ_=>⟨_,O,Ob (hF.cellsAll 0 O)⟩) (by simp[Value.oneCell']) (by simp only[maxLen];omega) Da (by simp[I9]) sX ?_;intro A1 c1 o_1 w hS1_o hF hE hnew;have hK:=hK.apart hlt hE (λb hb_=>by obtain⟨z,hz,rfl⟩:=nQ.1 hb_;exact hso z hz);have hso:=λz hz=>(hnew z hz).elim (λh=>by obtain⟨z2,hz2,e⟩:=nQ.1 h;rw[<-e];exact hso z2 hz2) (λh=>fQ hNw h);have hNw:=fQ hNw hE.size;refine Ca (Qg O) (Ea (Fa (Ca (Kb O) (Ca (Ok (((i+1:Nat):Int)) O O) (Ca (Kb O) (Ca (Ok (((j+1:Nat):Int)) O O) (Ca (Sc O) (Ca (Sc O) (Db (Ib (Ib ?_)))))))))));refine Yb ⟨_,?_,i+1,j+1,A1,c1,o_1,acc++[((i:Int),(j:Int))],O,sX,sX,(hS1_o),(hK),(hNw),(hso),(by rw[sQ,List.singleton_append,<-hac,N2 (la:=la) (lb:=lb) (i:=i) (j:=j) sX sX,if_pos (by have e1:=hR0 i j sX sX;have e2:=hR0 (i+1) (j+1) sX sX;have e3:=hP0 i j sX sX;omega)]),(by simp only[dQ,kQ,List.length_nil];omega),I6,hF.drop 1⟩;omega;refine Ja (Ca (Re O) (Ca (Kb O) (Ca (Kb O) ?_)));refine Cb (Hu _ N0 cb pb rb la lb T0 T1 t0 t1 k3 k4 q r P R hK i j hll sX sX (λj h=>hRa.2 _ (eQ h)) (hRq (i+1) j sX sX)) (Ic Cz O O O O) ?_;rintro _ w ⟨rfl,hE⟩;have hF:=hF.ext hE;have hK:=hK.ext hE;have hNw:=fQ hNw hE.size;refine Ca (Pq O O) (Ca (Hc O) (Ea ?_));refine Pc O O (λhc4=>?_) (λhc4=>?_)
 refine Fa (Ca (Kb O) (Ca (Ok (((i+1:Nat):Int)) O O) (Ca (Sc O) (Db (Ib (Ib ?_))))));refine Yb ⟨_,?_,i+1,j,Ao,co,so,acc,O,sX,sX,(hSo),(hK),(hNw),(hso),(by rw[<-hac,N2 (la:=la) (lb:=lb) (i:=i) (j:=j) sX sX,if_neg (by have e1:=hR0 i j sX sX;have e2:=hR0 (i+1) (j+1) sX sX;have e3:=hP0 i j sX sX;omega),if_pos (by have e1:=hR0 i j sX sX;have e2:=hR0 (i+1) j sX sX;simp only[Rp];omega)]),sX,I6,hF⟩;omega;refine Fa (Ca (Kb O) (Ca (Ok (((j+1:Nat):Int)) O O) (Ca (Sc O) (Db (Ib (Ib ?_))))));refine Yb ⟨_,?_,i,j+1,Ao,co,so,acc,O,sX,sX,(hSo),(hK),(hNw),(hso),(by rw[<-hac,N2 (la:=la) (lb:=lb) (i:=i) (j:=j) sX sX,if_neg (by have e1:=hR0 i j sX sX;have e2:=hR0 (i+1) (j+1) sX sX;have e3:=hP0 i j sX sX;omega),if_neg (by have e1:=hR0 i j sX sX;have e2:=hR0 (i+1) j sX sX;simp only[Rp];omega)]),sX,I6,hF⟩;omega;refine Nc (Kc O ?_);refine Ia (Ha ?_);refine Id (.of []) (bQ [0,1,2,3,4,5,6,7,8,9,10,11] .nil) hF ?_;intro w hF hE;have hK:=hK.ext hE;have hNw:=fQ hNw hE.size;refine⟨λwq=>FR w0 [] [] wq/\Ck wq N0 cb pb rb la lb T0 T1 t0 t1 k3 k4 q r P R,⟨hF.sub (List.nil_sublist _),hK⟩,?_⟩;refine Hb O (Pd O) (Hb O (Re O) (Hb O (Bh O) (Hb O (Xb Gg O) (Qa O (v:=W rb (la.length+1) (k4)) (λw hC=>Jb tQ O hC.2.c3) (Qa O (v:=.pointer (some ⟨rb,0,none⟩)) (λw hC=>Gc (i:=0) 0 Uk O O Ua sX sX) (Qa O (v:=.slice (some ⟨r 0,0,none⟩) (lb.length+1) (lb.length+1)) (λw hC=>Jb vQ O (hC.2.rest.rowCell sX)) (Qa O (v:=.pointer (some ⟨r 0,0,none⟩)) (λw hC=>Gc (i:=0) 0 Ef O O Ua sX sX) (Qa O (v:=J (R 0 0)) (λw hC=>Jb bZ O (hC.2.rest.cell sX sX)) (Hb O (Qg O) (Hb O (Sc O) (Hb O (Sc O) (Ec (Ia ?_)))))))))))));refine Cc (Bc (Sa (H6 (v:=.slice _ _ _) (x:=J (R 0 0)) (y:=J 0) O O O O) ?_));have he:acc=pth 0 0 la lb:=by rw[<-hac,E2 sX,qQ]
 have hin:=B2 la.length lb.length (la.length+lb.length) 0 0 la lb sX sX;rw[he]at hSo;have hrep:=hSo.rep (w0:=w0) (pre:=[]) (post:=[]) hF (RX.plain (ids:=[]) (λS=>F3 (m:=pth 0 0 la lb) (λz hz=>by have:=hin z hz;omega))) Da;exact⟨Ao,co,by rw[he,hR0 0 0 sX sX];rfl,hrep,hF.same⟩;refine Oa (Oa (Oa (Oa (Ca (Md O O) (Ea (Kg O ?_))))));refine Nc (Kc O ?_);refine Ia (Ha ?_);refine Id (.of []) (bQ [0,1,2,3,4,5,6,7,8,9,10,11] .nil) hF ?_;intro w hF hE;have hK:=hK.ext hE;have hNw:=fQ hNw hE.size;refine⟨λwq=>FR w0 [] [] wq/\Ck wq N0 cb pb rb la lb T0 T1 t0 t1 k3 k4 q r P R,⟨hF.sub (List.nil_sublist _),hK⟩,?_⟩;refine Hb O (Pd O) (Hb O (Re O) (Hb O (Bh O) (Hb O (Xb Gg O) (Qa O (v:=W rb (la.length+1) (k4)) (λw hC=>Jb tQ O hC.2.c3) (Qa O (v:=.pointer (some ⟨rb,0,none⟩)) (λw hC=>Gc (i:=0) 0 Uk O O Ua sX sX) (Qa O (v:=.slice (some ⟨r 0,0,none⟩) (lb.length+1) (lb.length+1)) (λw hC=>Jb vQ O (hC.2.rest.rowCell sX)) (Qa O (v:=.pointer (some ⟨r 0,0,none⟩)) (λw hC=>Gc (i:=0) 0 Ef O O Ua sX sX) (Qa O (v:=J (R 0 0)) (λw hC=>Jb bZ O (hC.2.rest.cell sX sX)) (Hb O (Qg O) (Hb O (Sc O) (Hb O (Sc O) (Ec (Ia ?_)))))))))))));refine Cc (Bc (Sa (H6 (v:=.slice _ _ _) (x:=J (R 0 0)) (y:=J 0) O O O O) ?_));have he:acc=pth 0 0 la lb:=by rw[<-hac,E2 sX,qQ]
 have hin:=B2 la.length lb.length (la.length+lb.length) 0 0 la lb sX sX;rw[he]at hSo;have hrep:=hSo.rep (w0:=w0) (pre:=[]) (post:=[]) hF (RX.plain (ids:=[]) (λS=>F3 (m:=pth 0 0 la lb) (λz hz=>by have:=hin z hz;omega))) Da;exact⟨Ao,co,by rw[he,hR0 0 0 sX sX];rfl,hrep,hF.same⟩
def Mm(N:Nat)(f:Nat->Value):Array Value:=((List.range N).map f).toArray
theorem OO(N:Nat)(f:Nat->Value):(Mm N f).size=N:=by simp[Mm]
theorem PB{N k:Nat}{f:Nat->Value}(h:k<N):(Mm N f)[k]? = some (f k):=by simp[Mm,h]
def Iy(f:Nat->Value)(k:Nat)(v:Value):Nat->Value:=λx=>if x=k then v else f x
theorem UR(f:Nat->Value)(k:Nat)(v:Value):Iy f k v k=v:=if_pos rfl
theorem setV_ne{f:Nat->Value}{k x:Nat}{v:Value}(h:x≠k):Iy f k v x=f x:=if_neg h
theorem OV{f:Nat->Value}{k:Nat}{v:Value}(h:f k=v):Iy f k v=f:=by
  funext x
  unfold Iy;split
  ·rename_i e;rw[e,h]
  rfl
theorem ZV{N k:Nat}{f:Nat->Value}(u v:Value):putA (Mm N (Iy f k u)) k [v]=Mm N (Iy f k v):=by
  rw[putA,putA];apply Array.ext
  ·simp[Mm]
  intro i h1 h2;rw[Array.getElem_setIfInBounds (by simpa using h1)];by_cases e:k=i
  ·subst e;simp[Mm,Iy]
  have e' : ¬ i = k := λh => e h.symm;simp[Mm,Iy,e,e']
theorem CU(N:Nat):(List.replicate N (Value.slice none 0 0)).toArray=Mm N λ_=>aQ:=by
  apply Array.ext
  ·simp[Mm]
  intro i h1 h2;simp[Mm]
def rng(j k:Nat):List Int:=(List.range' j (k-j)).map λi:Nat=>(i:Int)
theorem LW(j:Nat):rng j j=[]:=by simp[rng]
theorem Y6(j k:Nat):(rng j k).length=k-j:=by simp[rng]
theorem rng_succ{j k:Nat}(h:j<=k):rng j (k+1)=rng j k++[(k:Int)]:=by
  unfold rng;rw[show k+1-j=k-j+1 by omega,List.range'_1_concat,jQ,show j+(k-j)=k by omega];rfl
theorem rng_max(j k:Nat):rng j (max j k)=rng j k:=by
  unfold rng;rw[show max j k-j=k-j by omega]
theorem TZ{j k:Nat}:∀z∈rng j k,(j:Int)<=z/\z<(k:Int):=λz hz=>by
  obtain⟨i,hi,rfl⟩:=nQ.1 hz;have:=List.mem_range'_1.1 hi;omega
theorem UZ(w0:World)(N g ob jb vb tt j:Nat)(hd:Nat->Value)(acc:List Int)(A:Option Addr)(c:Nat)(sg:List (Nat × Obj))(hg:g<N)(hN:N<=65)(hto:tt<=64)(hj1:j<=1000)(hlen:acc.length<=100000)(hob:w0.heap[ob]? = some (.cells (Mm N hd) 23))(hjb:w0.heap[jb]? = some (.cells #[J (j:Nat)] 3))(hvb:w0.heap[vb]? = some (.cells #[W ob N N] 121))(hh:hd g=.slice A acc.length c)(hS:SlB 3 1 A acc.length c (O3 acc) sg)(hsg:∀z∈sg,w0.heap[z.1]? = some z.2/\z.1≠ob/\z.1≠jb/\z.1≠vb)(hne:jb≠ob/\vb≠ob/\vb≠jb):Calls prog 168 #[J ((g:Nat):Int),J ((tt:Nat):Int),.pointer (some ⟨jb,0,none⟩),.pointer (some ⟨vb,0,none⟩)] w0 (Td λv w'=>∃(A':Option Addr)(c':Nat)(sg':List (Nat × Obj)),v=.tuple #[]/\w'.heap[ob]? = some (.cells (Mm N (Iy hd g (.slice A' (acc++rng j tt).length c'))) 23)/\w'.heap[jb]? = some (.cells #[J ((max j tt:Nat):Int)] 3)/\w'.heap[vb]? = some (.cells #[W ob N N] 121)/\SlB 3 1 A' (acc++rng j tt).length c' (O3 (acc++rng j tt)) sg'/\(∀z∈sg',w'.heap[z.1]? = some z.2/\z.1≠ob/\z.1≠jb/\z.1≠vb/\(z.1∈sg.map (·.1)\/w0.heap.size<=z.1))/\Same ([ob,jb,vb]++sg.map (·.1)) w0 w'):=by
 refine Ga func168 O ntmps168 Fb (Us _ _ _ _) ?_;have hF:FR w0 ([ob,jb,vb]++sg.map (·.1)) ([(ob,.cells (Mm N (Iy hd g (.slice A acc.length c))) 23),(jb,.cells #[J ((j:Nat))] 3),(vb,.cells #[W ob N N] 121)]++(sg++[])) w0:=FR.open_ (λz hz=>by simp only[qQ,mQ,oQ,List.not_mem_nil,or_false]at hz ⊢;rcases hz with (rfl|rfl|rfl)|hz;(exact⟨by rw[OV hh];exact hob,by simp⟩);(exact⟨hjb,by simp⟩);(exact⟨hvb,by simp⟩);(exact⟨(hsg z hz).1,.inr (List.mem_map_of_mem hz)⟩)) (by rw[qQ,List.pairwise_append];refine⟨by simp[hne.1,hne.2.1,hne.2.2],hS.pw,λz hz y hy=>?_⟩;have h:=hsg y hy;simp only[oQ,List.not_mem_nil,or_false]at hz;rcases hz with rfl|rfl|rfl;(exact h.2.1);(exact h.2.2.1);(exact h.2.2.2));refine Va (Rc (λμ σ w=>∃(q:Nat),∃(Ax:Option Addr),∃(cx:Nat),∃(so:List (Nat × Obj)),∃(ac:List Int),μ=tt-q/\(j<=q/\(q<=tt\/q=j))/\(SlB 3 1 Ax ac.length cx (O3 ac) so)/\(ac=acc++rng j q)/\(∀z∈so,z.1∈sg.map (·.1)\/w0.heap.size<=z.1)/\(w0.heap.size<=w.heap.size)/\AllEq σ [(0,J ((g:Nat))),(1,J ((tt:Nat))),(2,.pointer (some ⟨jb,0,none⟩)),(3,.pointer (some ⟨vb,0,none⟩))]/\FR w0 ([ob,jb,vb]++sg.map (·.1)) ([(ob,.cells (Mm N (Iy hd g (.slice Ax ac.length cx))) 23),(jb,.cells #[J ((q:Nat))] 3),(vb,.cells #[W ob N N] 121)]++(so++[])) w) _ ⟨j,A,c,sg,acc,O,sX,(hS),(by rw[LW,qQ]),(λz hz=>.inl (List.mem_map_of_mem hz)),(hF.same.size),Tq,hF⟩ ?_);rintro μ σ w ⟨q,Ax,cx,so,ac,rfl,hq,hSo,hac,hso,hF0,hs,hF⟩;refine Cg.slots hs ?_;clear hs;intro σ;refine Ha (Ja (Yc (Xs bZ O hF.F 1 O O) (Ca (Kb O) (Ca (Kl O O) (Ea ?_)))));refine Pc O O (λhc0=>?_) (λhc0=>?_);refine Ta (Ia (Ha (Va ?_)));refine Id (.of [10]) (bQ [0,1,2,3,4,5,6] (.act 7 (.act 8 (.free 9 (.act 10 .nil))))) hF ?_;intro w hF hE;have hF0:=fQ hF0 hE.size;refine⟨λwq=>FR w0 ([ob,jb,vb]++sg.map (·.1)) [(ob,.cells (Mm N (Iy hd g (.slice Ax ac.length cx))) 23),(jb,.cells #[J ((q:Nat))] 3),(vb,.cells #[W ob N N] 121)] wq,hF.mid 0 3,?_⟩
 refine Hl O (Rf tQ O C0 2 O O) (Hb O (Kb O) (Hl O (Rf tQ O C0 2 O O) (Hb O (Kb O) (Qa O (v:=.pointer (some ⟨ob,g,none⟩)) (λw hC=>Gc (i:=((g:Nat):Int)) (g) Uk O O sX sX sX) ?_))));refine Qa O (v:=.slice Ax ac.length cx) (λw hC=>Jb vQ O (by rw[Pb (hC.heap (i:=0) O),PB hg,UR])) (Hl O (Xs bZ O C0 1 O O) ?_);refine Fe 1 O hF (Xa (cs:=#[J ((q:Nat))]) bX qZ oX Ua Ua Mb) ?_;intro b1 w hb1 hF hE;have hF0:=fQ hF0 hE.size;refine⟨hF.mid 1 3,?_⟩;refine NH (news:=[J ((q:Nat))]) (len':=(ac++[(q:Int)]).length) (ys:=O3 (ac++[(q:Int)])) O Sj hF hSo O O (O) (λ_=>⟨_,O,Ob (hF.cellsAll 0 O)⟩) (by simp[Value.oneCell']) (by simp only[maxLen];have:=congrArg List.length hac;simp only[dQ,Y6]at this;omega) Da (by simp[O3]) (by have:=congrArg List.length hac;simp only[dQ,Y6]at this;omega) ?_;intro A0 c0 o_0 w hS0_o hF hE hnew;have hso:∀z∈o_0,z.1∈sg.map (·.1)\/w0.heap.size<=z.1:=λz hz=>(hnew z hz).elim (λh=>by obtain⟨z2,hz2,e⟩:=nQ.1 h;rw[<-e];exact hso z2 hz2) (λh=>.inr (fQ hF0 h));have hF0:=fQ hF0 hE.size;refine⟨hF.mid 1 3,?_⟩;refine Qa O (v:=.pointer (some ⟨ob,g,none⟩)) (λw hC=>Gc (i:=((g:Nat):Int)) (g) Uk O O sX sX sX) ?_;refine Vd O 1 (l:=[.slice A0 ((ac++[(q:Int)]).length) c0]) (cs':=Mm N (Iy hd g (.slice A0 ((ac++[(q:Int)]).length) c0))) hF lZ O O O Le O (by rw[OO];simp only[List.length_singleton];omega) (ZV _ _) ?_;intro w hF hE;have hF0:=fQ hF0 hE.size;have hF:FR w0 ([ob,jb,vb]++sg.map (·.1)) ([(b1,.cells #[J ((q:Nat))] 3),(ob,.cells (Mm N (Iy hd g (.slice A0 ((ac++[(q:Int)]).length) c0))) 23),(jb,.cells #[J ((q:Nat))] 3),(vb,.cells #[W ob N N] 121)]++(o_0++[])) w:=hF;refine Ec (Ib (Ia (Fa (Yc (Xs bZ O hF.F 2 O O) (Ca (Ok (((q+1:Nat):Int)) O O) ?_)))));refine Cp (.int _ _) hF qZ O O CA.app Mh ?_;intro w hF hE;have hF0:=fQ hF0 hE.size
 refine Db (Yb ⟨_,?_,q+1,A0,c0,o_0,ac++[(q:Int)],O,sX,(hS0_o),(by rw[rng_succ sX,hac,sQ]),(hso),(hF.same.size),Tq,hF.drop 1⟩);omega;refine Nc (Kc O ?_);refine Bf (Rd (Sg O) ?_);obtain rfl:q=max j tt:=by omega
 rw[rng_max]at hac;subst hac;have hps:=FR.apart (pre:=[_,_,_]) (rest:=so++[]) (i:=0) hF rfl;have hpj:=FR.apart (pre:=[_,_,_]) (rest:=so++[]) (i:=1) hF rfl;have hpv:=FR.apart (pre:=[_,_,_]) (rest:=so++[]) (i:=2) hF rfl;rw[qQ]at hps hpj hpv;exact⟨Ax,cx,so,O,hF.heap (i:=0) O,hF.heap (i:=1) O,hF.heap (i:=2) O,hSo,λz hz=>⟨(hF.own z (by simp[hz])).1,λe=>hps (e▸List.mem_map_of_mem hz),λe=>hpj (e▸List.mem_map_of_mem hz),λe=>hpv (e▸List.mem_map_of_mem hz),hso z hz⟩,hF.same⟩
end Go.Scarf
