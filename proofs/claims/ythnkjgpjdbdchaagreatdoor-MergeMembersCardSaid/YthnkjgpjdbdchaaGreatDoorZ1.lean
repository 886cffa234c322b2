/- A part of the proof. -/
import Derived.Test.YthnkjgpjdbdchaaGreatDoorAp
import Derived.Test.YthnkjgpjdbdchaaGreatDoorRow
import Derived.Test.YthnkjgpjdbdchaaGreatDoorSp
set_option linter.all false
set_option maxHeartbeats 8000000
set_option maxRecDepth 10000
namespace Go.Scarf
open Go.RowKit Go.Proofs Go.Proofs.Tryz
section
variable {P:Program}{w:World}
theorem U0{ρ:Operand->Value}{dst:Option Nat}{ty:TypeId}{pos:String}{aft:Array Edge}{g:Option (Nat × Bool)}{t e sz:Nat}{x y:Operand}{A:Option Addr}{n c:Nat}{k:IntKind}(m:Nat)(ht:Jk P t e sz)(hx:ρ x=.slice A n c)(hy:ρ y=.int k (m:Int))(hm:m<=c) :
    (execOp ρ ⟨dst,.slice t x none (some y) none,ty,pos,aft,g⟩).run P w=.ok (.value (.slice A m c)) w:=by
  have he:=elem_of ht.1;have ht':P.underlying t=some (.slice (P.elem t)):=by rw[he];exact ht.1
  have h:=run_slice_h (P:=P) w t A n c ht' k m tX tX;have hs:(sizeOf (P.elem t)).run P w=.ok sz w:=by rw[he];exact ht.2 w
  rw[hs]at h;have e1:sliced A 0 (m:Int).toNat c sz=.slice A m c:=by
    unfold sliced;simp only[Int.toNat_natCast,Nat.zero_mul,Nat.sub_zero];split
    ·rfl
    cases A <;> simp[Kr]
  simp only[execOp,Option.map_none,Option.map_some,hx,hy,run_sliceAt_slice w t _ _ _ _ ht',Sem.run_bind,h,Result.andThen,e1];rfl
end
def KU(tp:List Nat):List Value:=tp.map λi:Nat=>Value.int .i64 (i:Int)
theorem SlB.pop{e n m c:Nat}{A:Option Addr}{xs ys:List Value}{v:Value}{sb:List (Nat × Obj)}(h:SlB e 1 A n c xs sb)(hx:xs=ys++[v])(hn:n=m+1):SlB e 1 A m c ys sb:=by
  subst hn;obtain⟨h1,h2⟩:=h;rw[hx,dQ,List.length_singleton]at h1;refine⟨by omega,.inr ?_⟩;rcases h2 with ⟨h3,-⟩|⟨g,cur,h3,h4,h5,h6,h7,h8⟩
  ·omega
  refine⟨g, cur, h3, h4, by omega, h6, h7, ?_⟩;have e1:(cur.toList.take ((m+1)*1)).take (m*1)=cur.toList.take (m*1):=by rw[List.take_take];congr 1;omega
  rw[<-e1,h8,hx,List.take_left'];omega
theorem NX{w0 w:World}{Ds:List Nat}{pre post sb:List (Nat × Obj)}{e n c:Nat}{A:Option Addr}{xs:List Value}(hS:SlB e 1 A n c xs sb)(hF:FR w0 Ds (pre++(sb++post)) w)(j:Nat){u:Value}(hu:xs[j]? = some u) :
    ∃ad,A=some ad/\w.cell? (ad.add (j*1))=some u:=by
  have hA:∃ad,A=some ad:=by
    rcases hS.2 with ⟨h1,-⟩|⟨g,cur,hA,-⟩
    ·have h2 := hS.1
     have:=(List.getElem?_eq_some_iff.1 hu).1;omega
    exact⟨_,hA⟩
  obtain⟨ad,hA⟩:=hA;exact⟨ad,hA,by rw[Nat.mul_one];exact hS.cells hF ad hA j u hu⟩
theorem last_of{tp:List Nat}(h:0<tp.length):∃l r,tp=l++[r]:=by
  cases hr:tp.reverse with
  | nil =>
    have e:tp=[]:=by simpa using hr
    subst e;simp at h
  | cons r l=>exact⟨l.reverse,r,by have:=congrArg List.reverse hr;simpa using this⟩
theorem YJ(l:List Nat)(r:Nat):(KU (l++[r]))[l.length]? = some (J (r:Int)):=by simp[KU]
theorem DW(S:Nat->Prop)(w0:World)(la:List Str)(fa:List Int)(Aa Ba:Option Addr)(ca ea:Nat)(hLa:Rep S w0 (Ud la) [.slice Aa la.length ca])(hNa:Rep S w0 (.slice (fa.map Kh)) [.slice Ba fa.length ea]):Calls prog 273 #[.agg #[.slice Aa la.length ca,.slice Ba fa.length ea]] w0 (Be λv w'=>∃(A:Option Addr)(n c:Nat)(b:Bool),v=.tuple #[.slice A n c,.bool b]/\(b=true↔Fl la fa)/\Same [] w0 w'):=by
 have hLla:=hLa.slice_len;have hNla:=hNa.slice_len;rw[rQ]at hLla hNla;refine Ga func273 O ntmps273 Ib (Id _) ?_;have hF:=FR.start w0 [];refine Ia (Bf hF O ?_);rintro b1 w hb1 hF -;refine Ca (Nk O) (Ca (Jc O) (Ea (Ja (Ia (Ca (Bc Lf O) (Sc (Xf wQ O hF.F 0 O O) (Ca (Tf cX O) (Ca (Bc Ch O) (Sc (Xf dZ O hF.F 0 O O) (Ca (Tf iX O) (Ca (Bw O O) ?_)))))))))));refine Ca (Hd O) (Tc (d:=16) O (λhg0=>?_) (λhg0=>?_));refine Ka (Ka (Ka (Ka (Ca (Kc O O) (Ea (Se O (Ia (Ca (Nk O) (Ca (Jc O) (Ea ?_))))))))));refine Ec (Dc (Ua (Wh (v:=.slice _ _ _) (x:=.bool false) O O O) ?_));refine⟨_,_,_,false,O,⟨λh=>(by cases h),λh=>?_⟩,hF.same⟩;exfalso;have:=h.1;have:=h.2.1;omega;refine Ca (Bc Lf O) (Sc (Xf wQ O hF.F 0 O O) (Ca (Tf cX O) (Ca (W6 O O) (Ca (Ld O O) (Ea ?_)))));refine Rc O O (λhc0=>?_) (λhc0=>?_);refine Ia (Ca (Nk O) (Ca (Jc O) (Ea ?_)));refine Ec (Dc (Ua (Wh (v:=.slice _ _ _) (x:=.bool false) O O O) ?_));refine⟨_,_,_,false,O,⟨λh=>(by cases h),λh=>?_⟩,hF.same⟩;exfalso;have:=h.1;have:=h.2.1;omega;refine Va (Ha (Ia (Ca (Bc Ch O) (Sc (Xf dZ O hF.F 0 O O) (Ca (Tf iX O) ?_)))));refine Us (v:=λb=>W b fa.length fa.length) (o:=.cells (Zb (fa.length) λ_=>0) 3) hF (Ro Tl Ob O O tX) ?_;rintro b2 w hb2 hF -;refine Ca (Nk O) (Lc (Ca (Nk O) (Ea (Ja (Ja ?_)))));have hlf5:la.length=fa.length/\la.length<=512:=by omega
 have hF:FR w0 [] ([(b2,.cells (Zb (fa.length) (λ_=>0)) 3),(b1,.cells #[.slice Aa la.length ca,.slice Ba fa.length ea] 238)]++([]++[])) w:=hF;refine Fa (Ca (Bc Ch O) (Sc (Xf dZ O hF.F 1 O O) (Ca (Tf iX O) (Ca (Vb O) (Ea (Za ?_))))));refine Fd (λμ σ w=>∃(j:Nat),∃(tp:List Nat),∃(A:Option Addr),∃(c:Nat),∃(sb:List (Nat × Obj)),∃(f:Nat->Int),μ=fa.length-j/\(j<=fa.length)/\(lfOk fa j)/\(Rts fa j tp)/\(SlB 3 1 A tp.length c (KU tp) sb)/\AllEq σ [(1,V b1),(4,W b2 fa.length fa.length),(5,.slice A tp.length c),(27,.slice Ba fa.length ea),(28,J ((fa.length:Nat))),(29,J ((j:Int)))]/\FR w0 [] ([(b2,.cells (Zb (fa.length) (f)) 3),(b1,.cells #[.slice Aa la.length ca,.slice Ba fa.length ea] 238)]++(sb++[])) w) _ ⟨0,[],none,0,[],(λ_=>0),O,(Nat.zero_le _),(λi _ h=>by omega),(.nil),(SlB.nil _ _),AQ,hF⟩ ?_;rintro μ σ w ⟨j,tp,A,c,sb,f,rfl,hj,hok,hrt,hS,hs,hF⟩;refine Cg.slots hs ?_;clear hs;intro σ;refine Ia (Ca (Hn O O) (Ea (Ja ?_)));refine Rc O O (λhc1=>?_) (λhc1=>?_);refine Va (Ha (Ja (Za (Ia (Ca (Vb O) ?_)))));obtain⟨ad1,hA1,hk1,hx1⟩:=hNa.int_elem (i:=j) tX;refine Ma (v:=.pointer (some (ad1.add (j*1)))) (Ta (i:=(j:Int)) Gh O hA1 O tX tX) (Ma (v:=J (fa[j])) (Pb aZ O (hF.cell0 hk1)) (Ca (Yc O) (Ca (Yc O) (Ea (Ja (Ia (Ca (Vb O) (Ca (Hn O O) (Ca (Hd O) ?_)))))))));refine Tc (d:=36) O (λhg2=>?_) (λhg2=>?_);refine Ka (Ka (Ka (Ca (Kc O O) (Ea (Se O (Ia (Ca (Nk O) (Ca (Jc O) (Ea ?_)))))))));refine Ec (Dc (Ua (Wh (v:=.slice _ _ _) (x:=.bool false) O O O) ?_));refine⟨_,_,_,false,O,⟨λh=>(by cases h),λh=>?_⟩,hF.same⟩;exfalso;have:=h.2.2 j tX tX;omega;refine Ca (Vb O) (Ca (Vb O) (Ca (W6 O O) (Ca (Ld O O) (Ea ?_))));refine Rc O O (λhc2=>?_) (λhc2=>?_);refine Ia (Ca (Nk O) (Ca (Jc O) (Ea ?_)));refine Ec (Dc (Ua (Wh (v:=.slice _ _ _) (x:=.bool false) O O O) ?_))
 refine⟨_,_,_,false,O,⟨λh=>(by cases h),λh=>?_⟩,hF.same⟩;exfalso;have:=h.2.2 j tX tX;omega;refine Va (Ha (Ja (Za ?_)));refine Fd (λμ σ w=>∃(p:Nat),∃(tp:List Nat),∃(A:Option Addr),∃(c:Nat),∃(sb:List (Nat × Obj)),∃(f:Nat->Int),μ=tp.length/\(fa[j]<=(p:Int)/\p<=j)/\(∀z (hz:z<j),p<=z->fa[j]<=fa[z])/\(Rts fa p tp)/\(SlB 3 1 A tp.length c (KU tp) sb)/\AllEq σ [(1,V b1),(4,W b2 fa.length fa.length),(5,.slice A tp.length c),(6,J ((j:Int))),(7,J (fa[j])),(27,.slice Ba fa.length ea),(28,J ((fa.length:Nat))),(29,J ((j:Int)))]/\FR w0 [] ([(b2,.cells (Zb (fa.length) (f)) 3),(b1,.cells #[.slice Aa la.length ca,.slice Ba fa.length ea] 238)]++(sb++[])) w) _ ⟨j,tp,A,c,sb,f,O,tX,(λz hz h=>by omega),(hrt),(hS),NC,hF⟩ ?_;rintro μ σ w ⟨p,tp,A,c,sb,f,rfl,hp,hcl,hrt,hS,hs,hF⟩;refine Cg.slots hs ?_;clear hs;intro σ;refine Ja (Ia (Ca (Je O) (Ca (Tf iX O) (Ca (W6 O O) (Ca (Hd O) ?_)))));refine Tc (d:=44) O (λhg3=>?_) (λhg3=>?_);refine Ca (Je O) (Ca (Je O) (Ca (Tf iX O) ?_));obtain⟨l,r,hlr⟩:=last_of (tp:=tp) tX;have hlen:tp.length=l.length+1:=by rw[hlr];simp
 have hlb5:l.length<=512:=by have:=Rts.len hrt;omega
 obtain⟨hpr,hrl⟩:=Rts.last (hlr▸hrt);refine Ca (N9 ((l.length:Nat)) O O) ?_;obtain⟨adp,hAp,hkp⟩:=NX (pre:=[(b2,.cells (Zb (fa.length) (f)) 3),(b1,.cells #[.slice Aa la.length ca,.slice Ba fa.length ea] 238)]) (post:=[]) hS hF l.length (u:=J (r:Int)) (by rw[hlr];exact YJ l r);refine Ma (v:=.pointer (some (adp.add (l.length*1)))) (Ta (i:=((l.length:Nat):Int)) Gh O hAp O tX tX) (Ma (v:=J ((r:Nat))) (Pb aZ O hkp) (Ca (Vb O) (Ca (KN O O) (Ca (Kc O O) (Ea ?_)))));refine Rc O O (λhc3=>?_) (λhc3=>?_);refine Va (Ha (Za (Ia (Ca (Je O) (Ca (Je O) (Ca (Tf iX O) (Ca (N9 ((l.length:Nat)) O O) ?_)))))));obtain⟨adq,hAq,hkq⟩:=NX (pre:=[(b2,.cells (Zb (fa.length) (f)) 3),(b1,.cells #[.slice Aa la.length ca,.slice Ba fa.length ea] 238)]) (post:=[]) hS hF l.length (u:=J (r:Int)) (by rw[hlr];exact YJ l r);refine Ma (v:=.pointer (some (adq.add (l.length*1)))) (Ta (i:=((l.length:Nat):Int)) Gh O hAq O tX tX) (Ma (v:=J ((r:Nat))) (Pb aZ O hkq) (Ca (Yc O) (Ea (Ja (Ia (Ca (Bc Ch O) (Sc (Xf dZ O hF.F 1 O O) (Ca (Vb O) ?_))))))));obtain⟨ad4,hA4,hk4,hx4⟩:=hNa.int_elem (i:=r) tX;refine Ma (v:=.pointer (some (ad4.add (r*1)))) (Ta (i:=(r:Nat)) Gh O hA4 O tX tX) (Ma (v:=J (fa[r])) (Pb aZ O (hF.cell0 hk4)) (Ca (Vb O) (Ca (Hn O O) (Ea ?_))));refine Rc O O (λhc4=>?_) (λhc4=>?_);refine Ia (Ca (Nk O) (Ca (Jc O) (Ea ?_)));refine Ec (Dc (Ua (Wh (v:=.slice _ _ _) (x:=.bool false) O O O) ?_));refine⟨_,_,_,false,O,⟨λh=>(by cases h),λh=>?_⟩,hF.same⟩;exfalso;have:=(h.2.2 j tX tX).2.2 r tX tX;omega;refine Va (Ha ?_);refine Od (.of []) (bQ [0,1,2,3,4,5,6,7,8] (.act 9 (.free 10 .nil))) hF ?_;rintro w hF -;refine⟨λwq=>FR w0 [] [(b1,.cells #[.slice Aa la.length ca,.slice Ba fa.length ea] 238)] wq,hF.mid 1 1,?_⟩;refine Cb O (Je O) (Cb O (Vb O) (Cb O (Vb O) (Cb O (Je O) (Cb O (Je O) (Cb O (Tf iX O) (Cb O (N9 ((l.length:Nat)) O O) ?_))))))
 refine Qa O (v:=.slice A l.length c) (λw hC=>U0 l.length Gh O O (by have:=hS.cap;omega)) ?_;refine Qa O (v:=.pointer (some ⟨b2,r,none⟩)) (λw hC=>Jb (i:=(r:Nat)) (r) Gh O O tX tX tX) ?_;refine Yp O 0 (l:=[J ((j:Int))]) (cs':=Zb (fa.length) (Xj (f) (r) ((j:Int)))) hF pZ O (v:=J ((j:Int))) O O Ue O (by rw[Pj];simp only[List.length_singleton];exact Nat.succ_le_of_lt tX) (Bj _) ?_;rintro w hF -;refine⟨hF.mid 1 1,?_⟩;refine Cb O (Nk O) (Hc (Fb ?_));have hat:=hok.at (j:=r) tX tX;have hlr2:Qj fa r<=r:=Nat.min_le_right _ _;have hp2:fa[j]<=((Qj fa r:Nat):Int)/\Qj fa r<=j:=by constructor <;> omega
 refine Cc ⟨_,?_,Qj fa r,l,A,c,sb,(Xj (f) (r) ((j:Int))),O,(hp2),(λz hz hle=>if hzr:z<=r then hok.popped hj tX tX hle hzr else hcl z hz tX),(hrl),(SlB.pop hS (by rw[hlr];simp[KU];rfl) hlen),NC,hF⟩;omega;refine Wc (Vc O ?_);refine Ha (Ja ?_);have hpe:(p:Int)=fa[j]:=by first|(have e0:tp=[]:=List.eq_nil_of_length_eq_zero tX;have:=Rts.none (e0▸hrt);omega)|omega
 refine Fa (Ca (Je O) (Ca (Vb O) (Ma (v:=.pointer (some ⟨b2,j,none⟩)) (Jb (i:=(j:Int)) (j) Gh O O tX tX tX) ?_)));refine Mg 0 (l:=[J ((-1))]) (cs':=Zb (fa.length) (Xj (f) (j) ((-1)))) hF pZ O (v:=J ((-1))) O O Ue O (by rw[Pj];simp only[List.length_singleton];exact Nat.succ_le_of_lt tX) (Bj _) ?_;rintro w hF -;refine Ea (Fa (Ca (Je O) (Ca (Vb O) ?_)));refine Bi 1 hF (Sa (cs:=#[J ((j:Int))]) iX pZ nX Pa Pa Ob) ?_;rintro b3 w hb3 hF -;refine O8 (news:=[J ((j:Int))]) (len':=(tp++[j]).length) (ys:=KU (tp++[j])) Tl hF hS O O (O) (λ_=>⟨_,O,Xb (hF.cellsAll 0 O)⟩) (by simp[Value.oneCell']) (by have:=Rts.len hrt;simp only[maxLen];omega) Da (by simp[KU]) (by have:=Rts.len hrt;omega) ?_;intro A5 c5 o_5 w hS5_o hF hE hnew;refine Ca (Nk O) (Gb (Fb (Ha (Fa (Ca (Sl (((j+1:Nat):Int)) O O) (Ca (Vb O) (Gb ?_)))))));have hok2:lfOk fa (j+1):=hok.snoc tX tX tX (λz hz hle=>hcl z hz tX);have hlf:Qj fa j=p:=by have:=hok2.at (j:=j) tX tX;omega
 have hrt2:Rts fa (j+1) (tp++[j]):=.snoc (by rw[hlf];exact hrt);refine Cc ⟨_,?_,j+1,tp++[j],A5,c5,o_5,(Xj (f) (j) ((-1))),O,tX,(hok2),(hrt2),(hS5_o),AQ,hF.drop 1⟩;omega;refine Ka (Ka (Ka (Ka (Ka (Ka (Ka (Ka (Ca (Ld O O) (Ea (Bg O ?_))))))))));refine Wc (Vc O ?_);refine Ha (Ja ?_);have hpe:(p:Int)=fa[j]:=by first|(have e0:tp=[]:=List.eq_nil_of_length_eq_zero tX;have:=Rts.none (e0▸hrt);omega)|omega
 refine Fa (Ca (Je O) (Ca (Vb O) (Ma (v:=.pointer (some ⟨b2,j,none⟩)) (Jb (i:=(j:Int)) (j) Gh O O tX tX tX) ?_)));refine Mg 0 (l:=[J ((-1))]) (cs':=Zb (fa.length) (Xj (f) (j) ((-1)))) hF pZ O (v:=J ((-1))) O O Ue O (by rw[Pj];simp only[List.length_singleton];exact Nat.succ_le_of_lt tX) (Bj _) ?_;rintro w hF -;refine Ea (Fa (Ca (Je O) (Ca (Vb O) ?_)));refine Bi 1 hF (Sa (cs:=#[J ((j:Int))]) iX pZ nX Pa Pa Ob) ?_;rintro b4 w hb4 hF -;refine O8 (news:=[J ((j:Int))]) (len':=(tp++[j]).length) (ys:=KU (tp++[j])) Tl hF hS O O (O) (λ_=>⟨_,O,Xb (hF.cellsAll 0 O)⟩) (by simp[Value.oneCell']) (by have:=Rts.len hrt;simp only[maxLen];omega) Da (by simp[KU]) (by have:=Rts.len hrt;omega) ?_;intro A6 c6 o_6 w hS6_o hF hE hnew;refine Ca (Nk O) (Gb (Fb (Ha (Fa (Ca (Sl (((j+1:Nat):Int)) O O) (Ca (Vb O) (Gb ?_)))))));have hok2:lfOk fa (j+1):=hok.snoc tX tX tX (λz hz hle=>hcl z hz tX);have hlf:Qj fa j=p:=by have:=hok2.at (j:=j) tX tX;omega
 have hrt2:Rts fa (j+1) (tp++[j]):=.snoc (by rw[hlf];exact hrt);refine Cc ⟨_,?_,j+1,tp++[j],A6,c6,o_6,(Xj (f) (j) ((-1))),O,tX,(hok2),(hrt2),(hS6_o),AQ,hF.drop 1⟩;omega;refine Wc (Vc O ?_);refine Ha (Ia (Ca (Je O) (Ca (Nk O) (Ca (Jc O) (Ea ?_)))));refine Ec (Dc (Ua (Wh (v:=.slice _ _ _) (x:=.bool true) O O O) ?_));obtain rfl:j=fa.length:=by omega
 exact⟨_,_,_,true,O,⟨λ_=>⟨hlf5.1,hlf5.2,hok⟩,λ_=>rfl⟩,hF.same⟩
theorem E_(S:Nat->Prop)(w0:World)(la:List Str)(fa:List Int)(Aa Ba:Option Addr)(ca ea:Nat)(hLa:Rep S w0 (Ud la) [.slice Aa la.length ca])(hNa:Rep S w0 (.slice (fa.map Kh)) [.slice Ba fa.length ea]):Calls prog 266 #[.agg #[.slice Aa la.length ca,.slice Ba fa.length ea]] w0 (Be λv w'=>∃b:Bool,v=.bool b/\(b=true↔Fl la fa)/\Same [] w0 w'):=by
 refine Ga func266 O ntmps266 Ib (Id _) ?_;have hF:=FR.start w0 [];refine Ia (Bf hF O ?_);rintro b1 w hb1 hF -;refine Ca (Jc O) (Lc (Sc (Of yQ nZ O hF.F 0 O O) ?_));refine Db (DW _ _ la fa Aa Ba ca ea (hF.rep hLa) (hF.rep hNa)) (Ra en_273 O O) ?_;rintro _ w ⟨A,n,c,b,rfl,hb,hE⟩;have hF:=hF.ext hE;refine Ca (So O) (Ca (yxl O O) (Ca (Tq O O) (Ca (Nk O) (Ca (Jc O) (Lc (Ca (Hd O) (Ca (Jc O) (Ea ?_))))))));refine Rd (v:=.bool _) O O ?_;exact⟨_,O,hb,hF.same⟩
def gi(m p q:Nat):Nat:=p*(m+1)+q
theorem gi_inj{m p q p' q':Nat}(hq:q<=m)(hq':q'<=m)(h:gi m p q=gi m p' q'):p=p'/\q=q':=by
  unfold gi at h;have e:p=p':=by
    have h1:(p*(m+1)+q)/(m+1)=p:=by rw[Nat.mul_comm,Nat.mul_add_div tX,Nat.div_eq_of_lt tX];omega
    have h2:(p'*(m+1)+q')/(m+1)=p':=by rw[Nat.mul_comm,Nat.mul_add_div tX,Nat.div_eq_of_lt tX];omega
    rw[<-h1,<-h2,h]
  subst e;exact⟨O,by omega⟩
theorem Lw{m n p q:Nat}(hp:p<=n)(hq:q<=m):gi m p q<(n+1)*(m+1):=by
  unfold gi;have:p*(m+1)<=n*(m+1):=Nat.mul_le_mul_right _ hp;rw[Nat.add_mul,Nat.one_mul];omega
theorem RJ{n m:Nat}(hn:n<=512)(hm:m<=512):(n+1)*(m+1)<=263169:=fQ (Nat.mul_le_mul (Nat.succ_le_succ hn) (Nat.succ_le_succ hm)) Pa
theorem FR.adopt{w0 w:World}{Ds:List Nat}{bs_:List (Nat × Obj)}{b:Nat}{o:Obj}(hF:FR w0 Ds bs_ w)(h:w.heap[b]? = some o)(hb:w0.heap.size<=b)(hn:∀q∈bs_,q.1≠b):FR w0 Ds ((b,o)::bs_) w :=
  ⟨hF.same,λq hq=>by
    rcases oQ.1 hq with rfl|hq
    ·exact⟨h,.inl hb⟩
    exact hF.own q hq,List.pairwise_cons.2 ⟨λq hq=>hn q hq,hF.desc⟩⟩
theorem RU(w0:World)(n m:Nat)(hn:n<=512)(hm:m<=512):Calls prog 268 #[J ((n:Nat):Int),J ((m:Nat):Int)] w0 (Be λv w'=>∃gb cb:Nat,v=V gb/\w'.heap[gb]? = some (.cells #[J ((m+1:Nat):Int),W cb ((n+1)*(m+1)) ((n+1)*(m+1))] 315)/\w'.heap[cb]? = some (.cells (Zb ((n+1)*(m+1)) λ_=>0) 3)/\w0.heap.size<=gb/\w0.heap.size<=cb/\gb≠cb/\Same [] w0 w'):=by
 have hN:=RJ hn hm;refine Ga func268 O ntmps268 Ib (Md _ _) ?_;have hF:=FR.start w0 [];refine Ia (Ca (JN O) (Lc (Ca (Vb O) (Ca (Sl (((m+1:Nat):Int)) O O) (Ca (Vb O) (Ca (Sl (((n+1:Nat):Int)) O O) (Ca (Vb O) (Ca (Sl (((m+1:Nat):Int)) O O) ?_))))))));refine Ma (v:=J ((((n+1)*(m+1)):Nat))) (FM O O (Im (by rw[Int.natCast_mul]) tX tX)) (Us (v:=λb=>W b (((n+1)*(m+1))) (((n+1)*(m+1)))) (o:=.cells (Zb (((n+1)*(m+1))) λ_=>0) 3) hF (Ro Tl Ob O O tX) ?_);rintro b1 w hb1 hF -;refine Ma (w':=w) (v:=.agg #[J (((m+1:Nat):Int)),W b1 (((n+1)*(m+1))) (((n+1)*(m+1)))]) Ob (Bf hF O ?_);rintro b2 w hb2 hF -;refine Ca (JN O) (Ea ?_);refine Rd (v:=.pointer _) O O ?_;have h0:=hF.ge (i:=0) rfl;have h1:=hF.ge (i:=1) rfl;exact⟨_,_,O,hF.heap (i:=0) O,hF.heap (i:=1) O,h0,h1,(by have:=(List.pairwise_cons.1 hF.desc).1 _ (List.mem_cons_self ..);exact λe=>this e.symm),hF.same⟩
theorem at_k(w0:World)(gb cb N m p q k:Nat)(i j:Int)(hi:i+1=(p:Int))(hj:j+1=(q:Int))(hg:w0.heap[gb]? = some (.cells #[J ((m+1:Nat):Int),W cb N N] 315))(hk:p*(m+1)=k)(hN:k+q<N)(hm:m<=512)(hp:p<=1000)(hNm:N<=263169):Calls prog 259 #[V gb,J i,J j] w0 (Be λv w'=>v=.pointer (some ⟨cb,gi m p q,none⟩)/\Same [] w0 w'):=by
 refine Ga func259 O ntmps259 Ib (Qm _ _ _) ?_;have hF:=FR.start w0 [];refine Ia (Ca (JN O) (Ea (Ja ?_)));refine Xg (zs:=.of []) (bQ [0,1,2,3,4,5,6,7,8,9,10,11,12,13,14,15] .nil) hF ?_;intro w hF;refine Cb O (Ze O) (Cb O (Xh O) (Cb O (Bc fa_315_1 O) (Qa O (v:=W cb N N) (λw hC=>Pb dZ O (hC.cell0 (Yb hg 1))) (Cb O (Vb O) (Cb O (Sl ((p:Nat)) O O) (Cb O (Ze O) (Cb O (Xh O) (Cb O (Bc fa_315_0 O) (Qa O (v:=J (((m+1:Nat):Int))) (λw hC=>Pb aZ O (hC.cell0 (Yb hg 0))) ?_)))))))));refine Qa O (v:=J ((k:Nat))) (λw hC=>FM O O (Im (by rw[<-hk,Int.natCast_mul]) tX tX)) (Cb O (Vb O) (Cb O (Bo O O) (Cb O (Sl (((k+q:Nat):Int)) O O) (Qa O (v:=.pointer (some ⟨cb,k+q,none⟩)) (λw hC=>Jb (i:=((k+q:Nat):Int)) (k+q) Gh O O tX tX tX) (Cb O (JN O) (Hc (Ha ?_)))))));refine Rd (v:=.pointer _) O O ?_;exact⟨by rw[gi,hk],hF.same⟩
theorem Ey(w0:World)(gb cb n m p q:Nat)(i j:Int)(hi:i+1=(p:Int))(hj:j+1=(q:Int))(hg:w0.heap[gb]? = some (.cells #[J ((m+1:Nat):Int),W cb ((n+1)*(m+1)) ((n+1)*(m+1))] 315))(hp:p<=n)(hq:q<=m)(hn:n<=512)(hm:m<=512):Calls prog 259 #[V gb,J i,J j] w0 (Be λv w'=>v=.pointer (some ⟨cb,gi m p q,none⟩)/\Same [] w0 w') :=
  at_k w0 gb cb _ m p q _ i j hi hj hg rfl (Lw hp hq) hm tX (RJ hn hm)
def Sk(N0 n:Nat)(q:Nat->Nat)(b:Nat):Prop:=b<N0/\∀i,i<n->q i≠b
structure Rk (w:World) (N0 rb pb:Nat) (q:Nat->Nat) (la:List Str) (fa:List Int) (lb:List Str) (fb:List Int) (Aa Ba Ab Bb:Option Addr) (k1 k2 k3 k4:Nat) (P:Nat->Nat->Int):Prop where
  cell:w.heap[rb]? = some (.cells #[.slice Aa la.length k1,.slice Ba fa.length k2,.slice Ab lb.length k3,.slice Bb fb.length k4,W pb la.length la.length] 311)
  La:Rep (Sk N0 la.length q) w (Ud la) [.slice Aa la.length k1]
  Na:Rep (Sk N0 la.length q) w (.slice (fa.map Kh)) [.slice Ba fa.length k2]
  Lb:Rep (Sk N0 la.length q) w (Ud lb) [.slice Ab lb.length k3]
  Nb:Rep (Sk N0 la.length q) w (.slice (fb.map Kh)) [.slice Bb fb.length k4]
  grid:Grid2 w pb la.length lb.length 48 3 q P
  lt:rb<N0/\pb<N0/\∀i,i<la.length->q i<N0
  ne:∀i,i<la.length->q i≠rb
section
variable {w w':World}{N0 rb pb:Nat}{q:Nat->Nat}{la lb:List Str}{fa fb:List Int}{Aa Ba Ab Bb:Option Addr}{k1 k2 k3 k4:Nat}{P:Nat->Nat->Int}{E:List Nat}
theorem Rk.step(h:Rk w N0 rb pb q la fa lb fb Aa Ba Ab Bb k1 k2 k3 k4 P)(hs:Same E w w')(he:∀b∈E,N0<=b):Rk w' N0 rb pb q la fa lb fb Aa Ba Ab Bb k1 k2 k3 k4 P:=by
  have ns:∀b∈E,¬Sk N0 la.length q b:=λb hb h2=>by have:=he b hb;have:=h2.1;omega
  have nl:∀x,x<N0->x∉E:=λx hx hm=>by have:=he x hm;omega
  exact⟨(hs.block _ (Oa h.cell) (nl _ h.lt.1)).trans h.cell,h.La.same hs ns,h.Na.same hs ns,h.Lb.same hs ns,h.Nb.same hs ns,h.grid.keep hs (nl _ h.lt.2.1) (λi hi=>nl _ (h.lt.2.2 i hi)),h.lt,h.ne⟩
theorem Rk.ext(h:Rk w N0 rb pb q la fa lb fb Aa Ba Ab Bb k1 k2 k3 k4 P)(hs:Same [] w w'):Rk w' N0 rb pb q la fa lb fb Aa Ba Ab Bb k1 k2 k3 k4 P:=h.step hs Da
theorem Rk.put(h:Rk w N0 rb pb q la fa lb fb Aa Ba Ab Bb k1 k2 k3 k4 P){i j:Nat}{v:Int}(hi:i<la.length)(hs:Same [q i] w w')(hn:w'.heap[q i]? = some (.cells (Zb lb.length (Xj (P i) j v)) 3)):Rk w' N0 rb pb q la fa lb fb Aa Ba Ab Bb k1 k2 k3 k4 (Bk P i j v):=by
  have ns:∀b∈[q i],¬Sk N0 la.length q b:=λb hb h2=>h2.2 i hi (pQ.1 hb).symm;exact⟨(hs.block _ (Oa h.cell) (by simpa using λe=>h.ne i hi e.symm)).trans h.cell,h.La.same hs ns,h.Na.same hs ns,h.Lb.same hs ns,h.Nb.same hs ns,h.grid.put hi hs hn,h.lt,h.ne⟩
theorem Rk.c0(h:Rk w N0 rb pb q la fa lb fb Aa Ba Ab Bb k1 k2 k3 k4 P):w.cell? ⟨rb,0,none⟩=some (.slice Aa la.length k1):=Yb h.cell 0
theorem Rk.c1(h:Rk w N0 rb pb q la fa lb fb Aa Ba Ab Bb k1 k2 k3 k4 P):w.cell? ⟨rb,1,none⟩=some (.slice Ba fa.length k2):=Yb h.cell 1
theorem Rk.c2(h:Rk w N0 rb pb q la fa lb fb Aa Ba Ab Bb k1 k2 k3 k4 P):w.cell? ⟨rb,2,none⟩=some (.slice Ab lb.length k3):=Yb h.cell 2
theorem Rk.c3(h:Rk w N0 rb pb q la fa lb fb Aa Ba Ab Bb k1 k2 k3 k4 P):w.cell? ⟨rb,3,none⟩=some (.slice Bb fb.length k4):=Yb h.cell 3
theorem Rk.c4(h:Rk w N0 rb pb q la fa lb fb Aa Ba Ab Bb k1 k2 k3 k4 P):w.cell? ⟨rb,4,none⟩=some (W pb la.length la.length):=Yb h.cell 4
theorem RY{S:Nat->Prop}{fs:List Int}{B:Option Addr}{n e:Nat}{ad:Addr}(h:Rep S w (.slice (fs.map Kh)) [.slice B n e])(hA:B=some ad){i:Nat}(hi:i<fs.length):w.cell? (ad.add (i*1))=some (J fs[i]):=by
  obtain⟨ad',hA',hc,-⟩:=h.int_elem hi;rw[hA]at hA';obtain rfl:=lQ hA';exact hc
theorem str_at{S:Nat->Prop}{ls:List Str}{B:Option Addr}{n e:Nat}{ad:Addr}(h:Rep S w (Ud ls) [.slice B n e])(hA:B=some ad){i:Nat}(hi:i<ls.length):w.cell? (ad.add (i*1))=some (I (ls[i])):=by
  obtain⟨ad',hA',hc,-⟩:=h.str_elem hi;rw[hA]at hA';obtain rfl:=lQ hA';exact hc
theorem int_ad{S:Nat->Prop}{fs:List Int}{B:Option Addr}{n e:Nat}(h:Rep S w (.slice (fs.map Kh)) [.slice B n e])(hi:0<fs.length):∃ad,B=some ad:=by
  obtain⟨ad,hA,-⟩:=h.int_elem hi;exact⟨ad,hA⟩
end
theorem turn_c(w0:World)(N0 rb pb:Nat)(q:Nat->Nat)(la:List Str)(fa:List Int)(lb:List Str)(fb:List Int)(Aa Ba Ab Bb:Option Addr)(k1 k2 k3 k4:Nat)(P:Nat->Nat->Int)(h:Rk w0 N0 rb pb q la fa lb fb Aa Ba Ab Bb k1 k2 k3 k4 P)(i j:Nat)(hi:i<la.length)(hj:j<lb.length)(hn:la.length<=512)(hm:lb.length<=512):Calls prog 269 #[V rb,J ((i:Nat):Int),J ((j:Nat):Int)] w0 (Be λv w'=>v=J ((turn (Pc la fa) (Pc lb fb) i j:Nat):Int)/\Same [] w0 w'):=by
 have turnT:turn (Pc la fa) (Pc lb fb) i j=if la[i]=lb[j] then 0 else 1:=by simp[turn,Pc,List.getD,hi,hj]
 refine Ga func269 O ntmps269 Ib (Qm _ _ _) ?_;have hF:=FR.start w0 [];refine Ia (Ca (Yc O) (Ea (Ja (Ja ?_))));refine Xg (zs:=.of []) (bQ [0,1,2,3,4,5,6,7,8,9,10,11,12,13,14,15,16] .nil) hF ?_;intro w hF;refine Cb O (Ze O) (Cb O (Xh O) (Cb O (Bc KJ O) (Cb O (Bc Lf O) (Qa O (v:=.slice Aa la.length k1) (λw hC=>Pb wQ O (hC.cell0 h.c0)) (Cb O (Vb O) ?_)))));obtain⟨ad0,hA0,hk0,hx0⟩:=h.La.str_elem (i:=i) tX;refine Qa O (v:=.pointer (some (ad0.add (i*1)))) (λw hC=>Ta (i:=(i:Nat)) Zm O hA0 O tX tX) (Qa O (v:=I (la[i])) (λw hC=>Pb fZ O (hC.cell0 hk0)) (Cb O (Ze O) (Cb O (Xh O) (Cb O (Bc NM O) (Cb O (Bc Lf O) (Qa O (v:=.slice Ab lb.length k3) (λw hC=>Pb wQ O (hC.cell0 h.c2)) (Cb O (Vb O) ?_)))))));obtain⟨ad1,hA1,hk1,hx1⟩:=h.Lb.str_elem (i:=j) tX;refine Qa O (v:=.pointer (some (ad1.add (j*1)))) (λw hC=>Ta (i:=(j:Nat)) Zm O hA1 O tX tX) (Qa O (v:=I (lb[j])) (λw hC=>Pb fZ O (hC.cell0 hk1)) (Cb O (BL O O) (Hc (Ha ?_))));refine Rc O O (λhc0=>?_) (λhc0=>?_);refine Ia (Ca (Yc O) (Ea ?_));refine Rd (v:=J 0) O O ?_;exact⟨by rw[turnT,if_pos (by assumption)];rfl,hF.same⟩;refine Va (Ha (Ia (Ca (Yc O) (Ea ?_))));refine Rd (v:=J 1) O O ?_;exact⟨by rw[turnT,if_neg (by assumption)];rfl,hF.same⟩
end Go.Scarf
