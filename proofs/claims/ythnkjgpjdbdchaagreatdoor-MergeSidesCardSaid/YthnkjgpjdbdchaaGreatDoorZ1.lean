/- A part of the proof. -/
import Derived.Test.YthnkjgpjdbdchaaGreatDoorTd1
import Derived.Test.YthnkjgpjdbdchaaGreatDoorRow
import Derived.Test.YthnkjgpjdbdchaaGreatDoorSp
set_option linter.all false
set_option maxHeartbeats 8000000
set_option maxRecDepth 10000
namespace Go.Scarf
open Go.RowKit Go.Proofs Go.Proofs.Tryz
section
variable {P:Program}{w:World}
theorem Rz{ρ:Operand->Value}{dst:Option Nat}{ty:TypeId}{pos:String}{aft:Array Edge}{g:Option (Nat × Bool)}{t e sz:Nat}{x y:Operand}{A:Option Addr}{n c:Nat}{k:IntKind}(m:Nat)(ht:Xj P t e sz)(hx:ρ x=.slice A n c)(hy:ρ y=.int k (m:Int))(hm:m<=c) :
    (execOp ρ ⟨dst,.slice t x none (some y) none,ty,pos,aft,g⟩).run P w=.ok (.value (.slice A m c)) w:=by
  have he:=elem_of ht.1;have ht':P.underlying t=some (.slice (P.elem t)):=by rw[he];exact ht.1
  have h:=run_slice_h (P:=P) w t A n c ht' k m sX sX;have hs:(sizeOf (P.elem t)).run P w=.ok sz w:=by rw[he];exact ht.2 w
  rw[hs]at h;have e1:sliced A 0 (m:Int).toNat c sz=.slice A m c:=by
    unfold sliced;simp only[Int.toNat_natCast,Nat.zero_mul,Nat.sub_zero];split
    ·rfl
    cases A <;> simp[Vq]
  simp only[execOp,Option.map_none,Option.map_some,hx,hy,run_sliceAt_slice w t _ _ _ _ ht',Sem.run_bind,h,Result.andThen,e1];rfl
end
def IU(tp:List Nat):List Value:=tp.map λi:Nat=>Value.int .i64 (i:Int)
theorem SlB.pop{e n m c:Nat}{A:Option Addr}{xs ys:List Value}{v:Value}{sb:List (Nat × Obj)}(h:SlB e 1 A n c xs sb)(hx:xs=ys++[v])(hn:n=m+1):SlB e 1 A m c ys sb:=by
  subst hn;obtain⟨h1,h2⟩:=h;rw[hx,dQ,List.length_singleton]at h1;refine⟨by omega,.inr ?_⟩;rcases h2 with ⟨h3,-⟩|⟨g,cur,h3,h4,h5,h6,h7,h8⟩
  ·omega
  refine⟨g, cur, h3, h4, by omega, h6, h7, ?_⟩;have e1:(cur.toList.take ((m+1)*1)).take (m*1)=cur.toList.take (m*1):=by rw[List.take_take];congr 1;omega
  rw[<-e1,h8,hx,List.take_left'];omega
theorem seg_at{w0 w:World}{Ds:List Nat}{pre post sb:List (Nat × Obj)}{e n c:Nat}{A:Option Addr}{xs:List Value}(hS:SlB e 1 A n c xs sb)(hF:FR w0 Ds (pre++(sb++post)) w)(j:Nat){u:Value}(hu:xs[j]? = some u) :
    ∃ad,A=some ad/\w.cell? (ad.add (j*1))=some u:=by
  have hA:∃ad,A=some ad:=by
    rcases hS.2 with ⟨h1,-⟩|⟨g,cur,hA,-⟩
    ·have h2 := hS.1
     have:=(List.getElem?_eq_some_iff.1 hu).1;omega
    exact⟨_,hA⟩
  obtain⟨ad,hA⟩:=hA;exact⟨ad,hA,by rw[Nat.mul_one];exact hS.cells hF ad hA j u hu⟩
theorem last_of{tp:List Nat}(h:0<tp.length):∃l r,tp=l++[r]:=by
  cases hr:tp.reverse with
  | nil =>
    have e:tp=[]:=by simpa using hr
    subst e;simp at h
  | cons r l=>exact⟨l.reverse,r,by have:=congrArg List.reverse hr;simpa using this⟩
theorem UK(l:List Nat)(r:Nat):(IU (l++[r]))[l.length]? = some (J (r:Int)):=by simp[IU]
theorem ZS(S:Nat->Prop)(w0:World)(la:List Str)(fa:List Int)(Aa Ba:Option Addr)(ca ea:Nat)(hLa:Rep S w0 (Ld la) [.slice Aa la.length ca])(hNa:Rep S w0 (.slice (fa.map Ah)) [.slice Ba fa.length ea]):Calls prog 273 #[.agg #[.slice Aa la.length ca,.slice Ba fa.length ea]] w0 (Wd λv w'=>∃(A:Option Addr)(n c:Nat)(b:Bool),v=.tuple #[.slice A n c,.bool b]/\(b=true↔Qk la fa)/\Same [] w0 w'):=by
 have hLla:=hLa.slice_len;have hNla:=hNa.slice_len;rw[rQ]at hLla hNla;refine Fa func273 O ntmps273 Ib (Zc _) ?_;have hF:=FR.start w0 [];refine Ha (Df hF O ?_);rintro b1 w hb1 hF -;refine Ca (Sj O) (Ca (Ic O) (Ea (Ja (Ha (Ca (Zb Ff O) (Rc (Tf wQ O hF.F 0 O O) (Ca (Mf bX O) (Ca (Zb Sg O) (Rc (Tf dZ O hF.F 0 O O) (Ca (Mf iX O) (Ca (Dz O O) ?_)))))))))));refine Ca (Fe O) (Jd (d:=16) O (λhg0=>?_) (λhg0=>?_));refine Qa (Qa (Qa (Qa (Ca (Dd O O) (Ea (Le O (Ha (Ca (Sj O) (Ca (Ic O) (Ea ?_))))))))));refine Cc (Bc (Ua (Th (v:=.slice _ _ _) (x:=.bool false) O O O) ?_));refine⟨_,_,_,false,O,⟨λh=>(by cases h),λh=>?_⟩,hF.same⟩;exfalso;have:=h.1;have:=h.2.1;omega;refine Ca (Zb Ff O) (Rc (Tf wQ O hF.F 0 O O) (Ca (Mf bX O) (Ca (AB O O) (Ca (Ae O O) (Ea ?_)))));refine Nc O O (λhc0=>?_) (λhc0=>?_);refine Ha (Ca (Sj O) (Ca (Ic O) (Ea ?_)));refine Cc (Bc (Ua (Th (v:=.slice _ _ _) (x:=.bool false) O O O) ?_));refine⟨_,_,_,false,O,⟨λh=>(by cases h),λh=>?_⟩,hF.same⟩;exfalso;have:=h.1;have:=h.2.1;omega;refine Wa (Ia (Ha (Ca (Zb Sg O) (Rc (Tf dZ O hF.F 0 O O) (Ca (Mf iX O) ?_)))));refine Ir (v:=λb=>W b fa.length fa.length) (o:=.cells (Yb (fa.length) λ_=>0) 3) hF (No Tl Mb O O sX) ?_;rintro b2 w hb2 hF -;refine Ca (Sj O) (Jc (Ca (Sj O) (Ea (Ja (Ja ?_)))));have hlf5:la.length=fa.length/\la.length<=512:=by omega
 have hF:FR w0 [] ([(b2,.cells (Yb (fa.length) (λ_=>0)) 3),(b1,.cells #[.slice Aa la.length ca,.slice Ba fa.length ea] 238)]++([]++[])) w:=hF;refine Ga (Ca (Zb Sg O) (Rc (Tf dZ O hF.F 1 O O) (Ca (Mf iX O) (Ca (Qb O) (Ea (Za ?_))))));refine Ad (λμ σ w=>∃(j:Nat),∃(tp:List Nat),∃(A:Option Addr),∃(c:Nat),∃(sb:List (Nat × Obj)),∃(f:Nat->Int),μ=fa.length-j/\(j<=fa.length)/\(lfOk fa j)/\(Rts fa j tp)/\(SlB 3 1 A tp.length c (IU tp) sb)/\AllEq σ [(1,V b1),(4,W b2 fa.length fa.length),(5,.slice A tp.length c),(27,.slice Ba fa.length ea),(28,J ((fa.length:Nat))),(29,J ((j:Int)))]/\FR w0 [] ([(b2,.cells (Yb (fa.length) (f)) 3),(b1,.cells #[.slice Aa la.length ca,.slice Ba fa.length ea] 238)]++(sb++[])) w) _ ⟨0,[],none,0,[],(λ_=>0),O,(Nat.zero_le _),(λi _ h=>by omega),(.nil),(SlB.nil _ _),TN,hF⟩ ?_;rintro μ σ w ⟨j,tp,A,c,sb,f,rfl,hj,hok,hrt,hS,hs,hF⟩;refine Cg.slots hs ?_;clear hs;intro σ;refine Ha (Ca (An O O) (Ea (Ja ?_)));refine Nc O O (λhc1=>?_) (λhc1=>?_);refine Wa (Ia (Ja (Za (Ha (Ca (Qb O) ?_)))));obtain⟨ad1,hA1,hk1,hx1⟩:=hNa.int_elem (i:=j) sX;refine Ka (v:=.pointer (some (ad1.add (j*1)))) (Ta (i:=(j:Int)) Yg O hA1 O sX sX) (Ka (v:=J (fa[j])) (Ob aZ O (hF.cell0 hk1)) (Ca (Uc O) (Ca (Uc O) (Ea (Ja (Ha (Ca (Qb O) (Ca (An O O) (Ca (Fe O) ?_)))))))));refine Jd (d:=36) O (λhg2=>?_) (λhg2=>?_);refine Qa (Qa (Qa (Ca (Dd O O) (Ea (Le O (Ha (Ca (Sj O) (Ca (Ic O) (Ea ?_)))))))));refine Cc (Bc (Ua (Th (v:=.slice _ _ _) (x:=.bool false) O O O) ?_));refine⟨_,_,_,false,O,⟨λh=>(by cases h),λh=>?_⟩,hF.same⟩;exfalso;have:=h.2.2 j sX sX;omega;refine Ca (Qb O) (Ca (Qb O) (Ca (AB O O) (Ca (Ae O O) (Ea ?_))));refine Nc O O (λhc2=>?_) (λhc2=>?_);refine Ha (Ca (Sj O) (Ca (Ic O) (Ea ?_)));refine Cc (Bc (Ua (Th (v:=.slice _ _ _) (x:=.bool false) O O O) ?_))
 refine⟨_,_,_,false,O,⟨λh=>(by cases h),λh=>?_⟩,hF.same⟩;exfalso;have:=h.2.2 j sX sX;omega;refine Wa (Ia (Ja (Za ?_)));refine Ad (λμ σ w=>∃(p:Nat),∃(tp:List Nat),∃(A:Option Addr),∃(c:Nat),∃(sb:List (Nat × Obj)),∃(f:Nat->Int),μ=tp.length/\(fa[j]<=(p:Int)/\p<=j)/\(∀z (hz:z<j),p<=z->fa[j]<=fa[z])/\(Rts fa p tp)/\(SlB 3 1 A tp.length c (IU tp) sb)/\AllEq σ [(1,V b1),(4,W b2 fa.length fa.length),(5,.slice A tp.length c),(6,J ((j:Int))),(7,J (fa[j])),(27,.slice Ba fa.length ea),(28,J ((fa.length:Nat))),(29,J ((j:Int)))]/\FR w0 [] ([(b2,.cells (Yb (fa.length) (f)) 3),(b1,.cells #[.slice Aa la.length ca,.slice Ba fa.length ea] 238)]++(sb++[])) w) _ ⟨j,tp,A,c,sb,f,O,sX,(λz hz h=>by omega),(hrt),(hS),AF,hF⟩ ?_;rintro μ σ w ⟨p,tp,A,c,sb,f,rfl,hp,hcl,hrt,hS,hs,hF⟩;refine Cg.slots hs ?_;clear hs;intro σ;refine Ja (Ha (Ca (He O) (Ca (Mf iX O) (Ca (AB O O) (Ca (Fe O) ?_)))));refine Jd (d:=44) O (λhg3=>?_) (λhg3=>?_);refine Ca (He O) (Ca (He O) (Ca (Mf iX O) ?_));obtain⟨l,r,hlr⟩:=last_of (tp:=tp) sX;have hlen:tp.length=l.length+1:=by rw[hlr];simp
 have hlb5:l.length<=512:=by have:=Rts.len hrt;omega
 obtain⟨hpr,hrl⟩:=Rts.last (hlr▸hrt);refine Ca (F_ ((l.length:Nat)) O O) ?_;obtain⟨adp,hAp,hkp⟩:=seg_at (pre:=[(b2,.cells (Yb (fa.length) (f)) 3),(b1,.cells #[.slice Aa la.length ca,.slice Ba fa.length ea] 238)]) (post:=[]) hS hF l.length (u:=J (r:Int)) (by rw[hlr];exact UK l r);refine Ka (v:=.pointer (some (adp.add (l.length*1)))) (Ta (i:=((l.length:Nat):Int)) Yg O hAp O sX sX) (Ka (v:=J ((r:Nat))) (Ob aZ O hkp) (Ca (Qb O) (Ca (HL O O) (Ca (Dd O O) (Ea ?_)))));refine Nc O O (λhc3=>?_) (λhc3=>?_);refine Wa (Ia (Za (Ha (Ca (He O) (Ca (He O) (Ca (Mf iX O) (Ca (F_ ((l.length:Nat)) O O) ?_)))))));obtain⟨adq,hAq,hkq⟩:=seg_at (pre:=[(b2,.cells (Yb (fa.length) (f)) 3),(b1,.cells #[.slice Aa la.length ca,.slice Ba fa.length ea] 238)]) (post:=[]) hS hF l.length (u:=J (r:Int)) (by rw[hlr];exact UK l r);refine Ka (v:=.pointer (some (adq.add (l.length*1)))) (Ta (i:=((l.length:Nat):Int)) Yg O hAq O sX sX) (Ka (v:=J ((r:Nat))) (Ob aZ O hkq) (Ca (Uc O) (Ea (Ja (Ha (Ca (Zb Sg O) (Rc (Tf dZ O hF.F 1 O O) (Ca (Qb O) ?_))))))));obtain⟨ad4,hA4,hk4,hx4⟩:=hNa.int_elem (i:=r) sX;refine Ka (v:=.pointer (some (ad4.add (r*1)))) (Ta (i:=(r:Nat)) Yg O hA4 O sX sX) (Ka (v:=J (fa[r])) (Ob aZ O (hF.cell0 hk4)) (Ca (Qb O) (Ca (An O O) (Ea ?_))));refine Nc O O (λhc4=>?_) (λhc4=>?_);refine Ha (Ca (Sj O) (Ca (Ic O) (Ea ?_)));refine Cc (Bc (Ua (Th (v:=.slice _ _ _) (x:=.bool false) O O O) ?_));refine⟨_,_,_,false,O,⟨λh=>(by cases h),λh=>?_⟩,hF.same⟩;exfalso;have:=(h.2.2 j sX sX).2.2 r sX sX;omega;refine Wa (Ia ?_);refine Kd (.of []) (bQ [0,1,2,3,4,5,6,7,8] (.act 9 (.free 10 .nil))) hF ?_;rintro w hF -;refine⟨λwq=>FR w0 [] [(b1,.cells #[.slice Aa la.length ca,.slice Ba fa.length ea] 238)] wq,hF.mid 1 1,?_⟩;refine Cb O (He O) (Cb O (Qb O) (Cb O (Qb O) (Cb O (He O) (Cb O (He O) (Cb O (Mf iX O) (Cb O (F_ ((l.length:Nat)) O O) ?_))))))
 refine Pa O (v:=.slice A l.length c) (λw hC=>Rz l.length Yg O O (by have:=hS.cap;omega)) ?_;refine Pa O (v:=.pointer (some ⟨b2,r,none⟩)) (λw hC=>Kb (i:=(r:Nat)) (r) Yg O O sX sX sX) ?_;refine Pp O 0 (l:=[J ((j:Int))]) (cs':=Yb (fa.length) (Qj (f) (r) ((j:Int)))) hF pZ O (v:=J ((j:Int))) O O Re O (by rw[Bj];simp only[List.length_singleton];exact Nat.succ_le_of_lt sX) (Pi _) ?_;rintro w hF -;refine⟨hF.mid 1 1,?_⟩;refine Cb O (Sj O) (Fc (Eb ?_));have hat:=hok.at (j:=r) sX sX;have hlr2:Ij fa r<=r:=Nat.min_le_right _ _;have hp2:fa[j]<=((Ij fa r:Nat):Int)/\Ij fa r<=j:=by constructor <;> omega
 refine Dc ⟨_,?_,Ij fa r,l,A,c,sb,(Qj (f) (r) ((j:Int))),O,(hp2),(λz hz hle=>if hzr:z<=r then hok.popped hj sX sX hle hzr else hcl z hz sX),(hrl),(SlB.pop hS (by rw[hlr];simp[IU];rfl) hlen),AF,hF⟩;omega;refine Pc (Oc O ?_);refine Ia (Ja ?_);have hpe:(p:Int)=fa[j]:=by first|(have e0:tp=[]:=List.eq_nil_of_length_eq_zero sX;have:=Rts.none (e0▸hrt);omega)|omega
 refine Ga (Ca (He O) (Ca (Qb O) (Ka (v:=.pointer (some ⟨b2,j,none⟩)) (Kb (i:=(j:Int)) (j) Yg O O sX sX sX) ?_)));refine Of 0 (l:=[J ((-1))]) (cs':=Yb (fa.length) (Qj (f) (j) ((-1)))) hF pZ O (v:=J ((-1))) O O Re O (by rw[Bj];simp only[List.length_singleton];exact Nat.succ_le_of_lt sX) (Pi _) ?_;rintro w hF -;refine Ea (Ga (Ca (He O) (Ca (Qb O) ?_)));refine Vh 1 hF (Sa (cs:=#[J ((j:Int))]) iX pZ nX Oa Oa Mb) ?_;rintro b3 w hb3 hF -;refine V9 (news:=[J ((j:Int))]) (len':=(tp++[j]).length) (ys:=IU (tp++[j])) Tl hF hS O O (O) (λ_=>⟨_,O,Vb (hF.cellsAll 0 O)⟩) (by simp[Value.oneCell']) (by have:=Rts.len hrt;simp only[maxLen];omega) Da (by simp[IU]) (by have:=Rts.len hrt;omega) ?_;intro A5 c5 o_5 w hS5_o hF hE hnew;refine Ca (Sj O) (Gb (Eb (Ia (Ga (Ca (Yl (((j+1:Nat):Int)) O O) (Ca (Qb O) (Gb ?_)))))));have hok2:lfOk fa (j+1):=hok.snoc sX sX sX (λz hz hle=>hcl z hz sX);have hlf:Ij fa j=p:=by have:=hok2.at (j:=j) sX sX;omega
 have hrt2:Rts fa (j+1) (tp++[j]):=.snoc (by rw[hlf];exact hrt);refine Dc ⟨_,?_,j+1,tp++[j],A5,c5,o_5,(Qj (f) (j) ((-1))),O,sX,(hok2),(hrt2),(hS5_o),TN,hF.drop 1⟩;omega;refine Qa (Qa (Qa (Qa (Qa (Qa (Qa (Qa (Ca (Ae O O) (Ea (Bg O ?_))))))))));refine Pc (Oc O ?_);refine Ia (Ja ?_);have hpe:(p:Int)=fa[j]:=by first|(have e0:tp=[]:=List.eq_nil_of_length_eq_zero sX;have:=Rts.none (e0▸hrt);omega)|omega
 refine Ga (Ca (He O) (Ca (Qb O) (Ka (v:=.pointer (some ⟨b2,j,none⟩)) (Kb (i:=(j:Int)) (j) Yg O O sX sX sX) ?_)));refine Of 0 (l:=[J ((-1))]) (cs':=Yb (fa.length) (Qj (f) (j) ((-1)))) hF pZ O (v:=J ((-1))) O O Re O (by rw[Bj];simp only[List.length_singleton];exact Nat.succ_le_of_lt sX) (Pi _) ?_;rintro w hF -;refine Ea (Ga (Ca (He O) (Ca (Qb O) ?_)));refine Vh 1 hF (Sa (cs:=#[J ((j:Int))]) iX pZ nX Oa Oa Mb) ?_;rintro b4 w hb4 hF -;refine V9 (news:=[J ((j:Int))]) (len':=(tp++[j]).length) (ys:=IU (tp++[j])) Tl hF hS O O (O) (λ_=>⟨_,O,Vb (hF.cellsAll 0 O)⟩) (by simp[Value.oneCell']) (by have:=Rts.len hrt;simp only[maxLen];omega) Da (by simp[IU]) (by have:=Rts.len hrt;omega) ?_;intro A6 c6 o_6 w hS6_o hF hE hnew;refine Ca (Sj O) (Gb (Eb (Ia (Ga (Ca (Yl (((j+1:Nat):Int)) O O) (Ca (Qb O) (Gb ?_)))))));have hok2:lfOk fa (j+1):=hok.snoc sX sX sX (λz hz hle=>hcl z hz sX);have hlf:Ij fa j=p:=by have:=hok2.at (j:=j) sX sX;omega
 have hrt2:Rts fa (j+1) (tp++[j]):=.snoc (by rw[hlf];exact hrt);refine Dc ⟨_,?_,j+1,tp++[j],A6,c6,o_6,(Qj (f) (j) ((-1))),O,sX,(hok2),(hrt2),(hS6_o),TN,hF.drop 1⟩;omega;refine Pc (Oc O ?_);refine Ia (Ha (Ca (He O) (Ca (Sj O) (Ca (Ic O) (Ea ?_)))));refine Cc (Bc (Ua (Th (v:=.slice _ _ _) (x:=.bool true) O O O) ?_));obtain rfl:j=fa.length:=by omega
 exact⟨_,_,_,true,O,⟨λ_=>⟨hlf5.1,hlf5.2,hok⟩,λ_=>rfl⟩,hF.same⟩
theorem W7(S:Nat->Prop)(w0:World)(la:List Str)(fa:List Int)(Aa Ba:Option Addr)(ca ea:Nat)(hLa:Rep S w0 (Ld la) [.slice Aa la.length ca])(hNa:Rep S w0 (.slice (fa.map Ah)) [.slice Ba fa.length ea]):Calls prog 266 #[.agg #[.slice Aa la.length ca,.slice Ba fa.length ea]] w0 (Wd λv w'=>∃b:Bool,v=.bool b/\(b=true↔Qk la fa)/\Same [] w0 w'):=by
 refine Fa func266 O ntmps266 Ib (Zc _) ?_;have hF:=FR.start w0 [];refine Ha (Df hF O ?_);rintro b1 w hb1 hF -;refine Ca (Ic O) (Jc (Rc (Rf yQ nZ O hF.F 0 O O) ?_));refine Fb (ZS _ _ la fa Aa Ba ca ea (hF.rep hLa) (hF.rep hNa)) (Ra en_273 O O) ?_;rintro _ w ⟨A,n,c,b,rfl,hb,hE⟩;have hF:=hF.ext hE;refine Ca (Bo O) (Ca (LP O O) (Ca (Ar O O) (Ca (Sj O) (Ca (Ic O) (Jc (Ca (Fe O) (Ca (Ic O) (Ea ?_))))))));refine Pd (v:=.bool _) O O ?_;exact⟨_,O,hb,hF.same⟩
def gi(m p q:Nat):Nat:=p*(m+1)+q
theorem gi_inj{m p q p' q':Nat}(hq:q<=m)(hq':q'<=m)(h:gi m p q=gi m p' q'):p=p'/\q=q':=by
  unfold gi at h;have e:p=p':=by
    have h1:(p*(m+1)+q)/(m+1)=p:=by rw[Nat.mul_comm,Nat.mul_add_div sX,Nat.div_eq_of_lt sX];omega
    have h2:(p'*(m+1)+q')/(m+1)=p':=by rw[Nat.mul_comm,Nat.mul_add_div sX,Nat.div_eq_of_lt sX];omega
    rw[<-h1,<-h2,h]
  subst e;exact⟨O,by omega⟩
theorem Uv{m n p q:Nat}(hp:p<=n)(hq:q<=m):gi m p q<(n+1)*(m+1):=by
  unfold gi;have:p*(m+1)<=n*(m+1):=Nat.mul_le_mul_right _ hp;rw[Nat.add_mul,Nat.one_mul];omega
theorem HK{n m:Nat}(hn:n<=512)(hm:m<=512):(n+1)*(m+1)<=263169:=fQ (Nat.mul_le_mul (Nat.succ_le_succ hn) (Nat.succ_le_succ hm)) Oa
theorem FR.adopt{w0 w:World}{Ds:List Nat}{bs_:List (Nat × Obj)}{b:Nat}{o:Obj}(hF:FR w0 Ds bs_ w)(h:w.heap[b]? = some o)(hb:w0.heap.size<=b)(hn:∀q∈bs_,q.1≠b):FR w0 Ds ((b,o)::bs_) w :=
  ⟨hF.same,λq hq=>by
    rcases oQ.1 hq with rfl|hq
    ·exact⟨h,.inl hb⟩
    exact hF.own q hq,List.pairwise_cons.2 ⟨λq hq=>hn q hq,hF.desc⟩⟩
theorem FU(w0:World)(n m:Nat)(hn:n<=512)(hm:m<=512):Calls prog 268 #[J ((n:Nat):Int),J ((m:Nat):Int)] w0 (Wd λv w'=>∃gb cb:Nat,v=V gb/\w'.heap[gb]? = some (.cells #[J ((m+1:Nat):Int),W cb ((n+1)*(m+1)) ((n+1)*(m+1))] 315)/\w'.heap[cb]? = some (.cells (Yb ((n+1)*(m+1)) λ_=>0) 3)/\w0.heap.size<=gb/\w0.heap.size<=cb/\gb≠cb/\Same [] w0 w'):=by
 have hN:=HK hn hm;refine Fa func268 O ntmps268 Ib (Hd _ _) ?_;have hF:=FR.start w0 [];refine Ha (Ca (IL O) (Jc (Ca (Qb O) (Ca (Yl (((m+1:Nat):Int)) O O) (Ca (Qb O) (Ca (Yl (((n+1:Nat):Int)) O O) (Ca (Qb O) (Ca (Yl (((m+1:Nat):Int)) O O) ?_))))))));refine Ka (v:=J ((((n+1)*(m+1)):Nat))) (SH O O (Cl (by rw[Int.natCast_mul]) sX sX)) (Ir (v:=λb=>W b (((n+1)*(m+1))) (((n+1)*(m+1)))) (o:=.cells (Yb (((n+1)*(m+1))) λ_=>0) 3) hF (No Tl Mb O O sX) ?_);rintro b1 w hb1 hF -;refine Ka (w':=w) (v:=.agg #[J (((m+1:Nat):Int)),W b1 (((n+1)*(m+1))) (((n+1)*(m+1)))]) Mb (Df hF O ?_);rintro b2 w hb2 hF -;refine Ca (IL O) (Ea ?_);refine Pd (v:=.pointer _) O O ?_;have h0:=hF.ge (i:=0) rfl;have h1:=hF.ge (i:=1) rfl;exact⟨_,_,O,hF.heap (i:=0) O,hF.heap (i:=1) O,h0,h1,(by have:=(List.pairwise_cons.1 hF.desc).1 _ (List.mem_cons_self ..);exact λe=>this e.symm),hF.same⟩
theorem at_k(w0:World)(gb cb N m p q k:Nat)(i j:Int)(hi:i+1=(p:Int))(hj:j+1=(q:Int))(hg:w0.heap[gb]? = some (.cells #[J ((m+1:Nat):Int),W cb N N] 315))(hk:p*(m+1)=k)(hN:k+q<N)(hm:m<=512)(hp:p<=1000)(hNm:N<=263169):Calls prog 259 #[V gb,J i,J j] w0 (Wd λv w'=>v=.pointer (some ⟨cb,gi m p q,none⟩)/\Same [] w0 w'):=by
 refine Fa func259 O ntmps259 Ib (Pk _ _ _) ?_;have hF:=FR.start w0 [];refine Ha (Ca (IL O) (Ea (Ja ?_)));refine Ig (zs:=.of []) (bQ [0,1,2,3,4,5,6,7,8,9,10,11,12,13,14,15] .nil) hF ?_;intro w hF;refine Cb O (We O) (Cb O (Uh O) (Cb O (Zb DX O) (Pa O (v:=W cb N N) (λw hC=>Ob dZ O (hC.cell0 (Xb hg 1))) (Cb O (Qb O) (Cb O (Yl ((p:Nat)) O O) (Cb O (We O) (Cb O (Uh O) (Cb O (Zb fa_315_0 O) (Pa O (v:=J (((m+1:Nat):Int))) (λw hC=>Ob aZ O (hC.cell0 (Xb hg 0))) ?_)))))))));refine Pa O (v:=J ((k:Nat))) (λw hC=>SH O O (Cl (by rw[<-hk,Int.natCast_mul]) sX sX)) (Cb O (Qb O) (Cb O (Bm O O) (Cb O (Yl (((k+q:Nat):Int)) O O) (Pa O (v:=.pointer (some ⟨cb,k+q,none⟩)) (λw hC=>Kb (i:=((k+q:Nat):Int)) (k+q) Yg O O sX sX sX) (Cb O (IL O) (Fc (Ia ?_)))))));refine Pd (v:=.pointer _) O O ?_;exact⟨by rw[gi,hk],hF.same⟩
theorem Ex(w0:World)(gb cb n m p q:Nat)(i j:Int)(hi:i+1=(p:Int))(hj:j+1=(q:Int))(hg:w0.heap[gb]? = some (.cells #[J ((m+1:Nat):Int),W cb ((n+1)*(m+1)) ((n+1)*(m+1))] 315))(hp:p<=n)(hq:q<=m)(hn:n<=512)(hm:m<=512):Calls prog 259 #[V gb,J i,J j] w0 (Wd λv w'=>v=.pointer (some ⟨cb,gi m p q,none⟩)/\Same [] w0 w') :=
  at_k w0 gb cb _ m p q _ i j hi hj hg rfl (Uv hp hq) hm sX (HK hn hm)
def Sk(N0 n:Nat)(q:Nat->Nat)(b:Nat):Prop:=b<N0/\∀i,i<n->q i≠b
structure Rk (w:World) (N0 rb pb:Nat) (q:Nat->Nat) (la:List Str) (fa:List Int) (lb:List Str) (fb:List Int) (Aa Ba Ab Bb:Option Addr) (k1 k2 k3 k4:Nat) (P:Nat->Nat->Int):Prop where
  cell:w.heap[rb]? = some (.cells #[.slice Aa la.length k1,.slice Ba fa.length k2,.slice Ab lb.length k3,.slice Bb fb.length k4,W pb la.length la.length] 311)
  La:Rep (Sk N0 la.length q) w (Ld la) [.slice Aa la.length k1]
  Na:Rep (Sk N0 la.length q) w (.slice (fa.map Ah)) [.slice Ba fa.length k2]
  Lb:Rep (Sk N0 la.length q) w (Ld lb) [.slice Ab lb.length k3]
  Nb:Rep (Sk N0 la.length q) w (.slice (fb.map Ah)) [.slice Bb fb.length k4]
  grid:Grid2 w pb la.length lb.length 48 3 q P
  lt:rb<N0/\pb<N0/\∀i,i<la.length->q i<N0
  ne:∀i,i<la.length->q i≠rb
section
variable {w w':World}{N0 rb pb:Nat}{q:Nat->Nat}{la lb:List Str}{fa fb:List Int}{Aa Ba Ab Bb:Option Addr}{k1 k2 k3 k4:Nat}{P:Nat->Nat->Int}{E:List Nat}
theorem Rk.step(h:Rk w N0 rb pb q la fa lb fb Aa Ba Ab Bb k1 k2 k3 k4 P)(hs:Same E w w')(he:∀b∈E,N0<=b):Rk w' N0 rb pb q la fa lb fb Aa Ba Ab Bb k1 k2 k3 k4 P:=by
  have ns:∀b∈E,¬Sk N0 la.length q b:=λb hb h2=>by have:=he b hb;have:=h2.1;omega
  have nl:∀x,x<N0->x∉E:=λx hx hm=>by have:=he x hm;omega
  exact⟨(hs.block _ (Ma h.cell) (nl _ h.lt.1)).trans h.cell,h.La.same hs ns,h.Na.same hs ns,h.Lb.same hs ns,h.Nb.same hs ns,h.grid.keep hs (nl _ h.lt.2.1) (λi hi=>nl _ (h.lt.2.2 i hi)),h.lt,h.ne⟩
theorem Rk.ext(h:Rk w N0 rb pb q la fa lb fb Aa Ba Ab Bb k1 k2 k3 k4 P)(hs:Same [] w w'):Rk w' N0 rb pb q la fa lb fb Aa Ba Ab Bb k1 k2 k3 k4 P:=h.step hs Da
theorem Rk.put(h:Rk w N0 rb pb q la fa lb fb Aa Ba Ab Bb k1 k2 k3 k4 P){i j:Nat}{v:Int}(hi:i<la.length)(hs:Same [q i] w w')(hn:w'.heap[q i]? = some (.cells (Yb lb.length (Qj (P i) j v)) 3)):Rk w' N0 rb pb q la fa lb fb Aa Ba Ab Bb k1 k2 k3 k4 (Tj P i j v):=by
  have ns:∀b∈[q i],¬Sk N0 la.length q b:=λb hb h2=>h2.2 i hi (pQ.1 hb).symm;exact⟨(hs.block _ (Ma h.cell) (by simpa using λe=>h.ne i hi e.symm)).trans h.cell,h.La.same hs ns,h.Na.same hs ns,h.Lb.same hs ns,h.Nb.same hs ns,h.grid.put hi hs hn,h.lt,h.ne⟩
theorem Rk.c0(h:Rk w N0 rb pb q la fa lb fb Aa Ba Ab Bb k1 k2 k3 k4 P):w.cell? ⟨rb,0,none⟩=some (.slice Aa la.length k1):=Xb h.cell 0
theorem Rk.c1(h:Rk w N0 rb pb q la fa lb fb Aa Ba Ab Bb k1 k2 k3 k4 P):w.cell? ⟨rb,1,none⟩=some (.slice Ba fa.length k2):=Xb h.cell 1
theorem Rk.c2(h:Rk w N0 rb pb q la fa lb fb Aa Ba Ab Bb k1 k2 k3 k4 P):w.cell? ⟨rb,2,none⟩=some (.slice Ab lb.length k3):=Xb h.cell 2
theorem Rk.c3(h:Rk w N0 rb pb q la fa lb fb Aa Ba Ab Bb k1 k2 k3 k4 P):w.cell? ⟨rb,3,none⟩=some (.slice Bb fb.length k4):=Xb h.cell 3
theorem Rk.c4(h:Rk w N0 rb pb q la fa lb fb Aa Ba Ab Bb k1 k2 k3 k4 P):w.cell? ⟨rb,4,none⟩=some (W pb la.length la.length):=Xb h.cell 4
theorem ZZ{S:Nat->Prop}{fs:List Int}{B:Option Addr}{n e:Nat}{ad:Addr}(h:Rep S w (.slice (fs.map Ah)) [.slice B n e])(hA:B=some ad){i:Nat}(hi:i<fs.length):w.cell? (ad.add (i*1))=some (J fs[i]):=by
  obtain⟨ad',hA',hc,-⟩:=h.int_elem hi;rw[hA]at hA';obtain rfl:=lQ hA';exact hc
theorem str_at{S:Nat->Prop}{ls:List Str}{B:Option Addr}{n e:Nat}{ad:Addr}(h:Rep S w (Ld ls) [.slice B n e])(hA:B=some ad){i:Nat}(hi:i<ls.length):w.cell? (ad.add (i*1))=some (I (ls[i])):=by
  obtain⟨ad',hA',hc,-⟩:=h.str_elem hi;rw[hA]at hA';obtain rfl:=lQ hA';exact hc
theorem int_ad{S:Nat->Prop}{fs:List Int}{B:Option Addr}{n e:Nat}(h:Rep S w (.slice (fs.map Ah)) [.slice B n e])(hi:0<fs.length):∃ad,B=some ad:=by
  obtain⟨ad,hA,-⟩:=h.int_elem hi;exact⟨ad,hA⟩
end
theorem turn_c(w0:World)(N0 rb pb:Nat)(q:Nat->Nat)(la:List Str)(fa:List Int)(lb:List Str)(fb:List Int)(Aa Ba Ab Bb:Option Addr)(k1 k2 k3 k4:Nat)(P:Nat->Nat->Int)(h:Rk w0 N0 rb pb q la fa lb fb Aa Ba Ab Bb k1 k2 k3 k4 P)(i j:Nat)(hi:i<la.length)(hj:j<lb.length)(hn:la.length<=512)(hm:lb.length<=512):Calls prog 269 #[V rb,J ((i:Nat):Int),J ((j:Nat):Int)] w0 (Wd λv w'=>v=J ((turn (Lc la fa) (Lc lb fb) i j:Nat):Int)/\Same [] w0 w'):=by
 have turnT:turn (Lc la fa) (Lc lb fb) i j=if la[i]=lb[j] then 0 else 1:=by simp[turn,Lc,List.getD,hi,hj]
 refine Fa func269 O ntmps269 Ib (Pk _ _ _) ?_;have hF:=FR.start w0 [];refine Ha (Ca (Uc O) (Ea (Ja (Ja ?_))));refine Ig (zs:=.of []) (bQ [0,1,2,3,4,5,6,7,8,9,10,11,12,13,14,15,16] .nil) hF ?_;intro w hF;refine Cb O (We O) (Cb O (Uh O) (Cb O (Zb SK O) (Cb O (Zb Ff O) (Pa O (v:=.slice Aa la.length k1) (λw hC=>Ob wQ O (hC.cell0 h.c0)) (Cb O (Qb O) ?_)))));obtain⟨ad0,hA0,hk0,hx0⟩:=h.La.str_elem (i:=i) sX;refine Pa O (v:=.pointer (some (ad0.add (i*1)))) (λw hC=>Ta (i:=(i:Nat)) Vm O hA0 O sX sX) (Pa O (v:=I (la[i])) (λw hC=>Ob fZ O (hC.cell0 hk0)) (Cb O (We O) (Cb O (Uh O) (Cb O (Zb TJ O) (Cb O (Zb Ff O) (Pa O (v:=.slice Ab lb.length k3) (λw hC=>Ob wQ O (hC.cell0 h.c2)) (Cb O (Qb O) ?_)))))));obtain⟨ad1,hA1,hk1,hx1⟩:=h.Lb.str_elem (i:=j) sX;refine Pa O (v:=.pointer (some (ad1.add (j*1)))) (λw hC=>Ta (i:=(j:Nat)) Vm O hA1 O sX sX) (Pa O (v:=I (lb[j])) (λw hC=>Ob fZ O (hC.cell0 hk1)) (Cb O (GL O O) (Fc (Ia ?_))));refine Nc O O (λhc0=>?_) (λhc0=>?_);refine Ha (Ca (Uc O) (Ea ?_));refine Pd (v:=J 0) O O ?_;exact⟨by rw[turnT,if_pos (by assumption)];rfl,hF.same⟩;refine Wa (Ia (Ha (Ca (Uc O) (Ea ?_))));refine Pd (v:=J 1) O O ?_;exact⟨by rw[turnT,if_neg (by assumption)];rfl,hF.same⟩
end Go.Scarf
