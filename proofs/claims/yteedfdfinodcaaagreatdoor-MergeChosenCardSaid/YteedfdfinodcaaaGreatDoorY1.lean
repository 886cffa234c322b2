/- A part of the proof. -/
import Derived.Test.YteedfdfinodcaaaGreatDoorP3
set_option linter.all false
set_option maxHeartbeats 8000000
set_option maxRecDepth 10000
set_option synthInstance.maxHeartbeats 0
set_option synthInstance.maxSize 9999
namespace Go.Scarf
open List renaming length->aL
open Go.RowKit Go.Proofs Go.Proofs.Tryz
variable {acc:List Str}{n u v x y:Nat}{id:Str}
def Ho(l:List Str):Bool:=(l.all λs=>decide (aL s<=1024))&&decide (aL l<=200)
theorem short_no{l:List Str}{j:Nat}(h:j<aL l)(hs:(1024:Int)<(aL l[j]:Int)):Ho l=false:=by grind [Ho]
theorem PH{l:List Str}{j:Nat}(hs:∀i (h:i<aL l),i<j->aL l[i]<=1024)(hj:∀h:j<aL l,aL l[j]<=1024):∀i (h:i<aL l),i<j+1->aL l[i]<=1024:=λi h h2=>by
  grind
theorem less_ne{a b:Str}(h:Ls a b=true):a≠b:=λe=>by
  grind [strLt_is]
theorem more_ne{a b:Str}(h:(!(Ls a b || decide (a=b)))=true):a≠b:=λe=>by
  grind
theorem none_eq{a b:Str}(h1:Ls a b=false)(h2:(!(Ls a b || decide (a=b)))=false):a=b:=qJ
theorem Q_{l:List Str}{j:Nat}(hj:∀i (h:i<aL l),i<j->aL l[i]<=1024)(he:¬(j<aL l/\j<300)):Ho l=decide ((aL l:Int)<=200):=by
  unfold Ho;by_cases h:aL l<=200
  ·have:(l.all λs=>decide (aL s<=1024))=true:=by
     rw[List.all_eq_true];intro s hs;obtain⟨i,hi,rfl⟩:=List.getElem_of_mem hs;grind
   grind
  grind
theorem JW{l:List Str}(h:Ho l=true):aL l<=200/\∀s∈l,aL s<=1024:=by grind [Ho]
open Go.RowKit in
def Ul{P:Program}{w:World}{ρ:Operand->Value}{dst:Option Nat}{ty:TypeId}{pos:String}{aft:Array Edge}{g:Option (Nat × Bool)}{t kt e:Nat}(ht:P.underlying t=some (.map kt e)) :
    (execOp ρ ⟨dst,.makeMap t none,ty,pos,aft,g⟩).run P w=.ok (.value (.map (some w.heap.size))) (w.alloc (Ub [])):=by simp[execOp,Instr.makeMap,run_underlying ht,newObj,Sem.run,Ub,Xa]
def shortL_c(l:List Str)(A:Option Addr)(c:Nat)(S:Nat->Prop)(w0:World)(hX:Rep S w0 (Wa l) [.slice A (aL l) c]):Calls prog 20 #[.slice A (aL l) c] w0 (Qb λv w'=>v=.bool (Ho l)/\Same [] w0 w'):=by
 have hXl:=hX.slice_len;refine Ha func20 ntmps20 ?_;intro hF;refine rn 12<|Za (λμ σ w=>∃(j:Nat),μ=aL l-j/\(j<=aL l/\j<=300)/\(∀i (h:i<aL l),i<j->aL l[i]<=1024)/\AllEq σ [(0,.slice A (aL l) c),(3,J<|(j:Int))]/\FR w0 [] [] w) _ ⟨0,O,fX,λi _ h=>by omega,Gc,hF⟩ ?_;rintro μ σ w ⟨j,rfl,hj,hs_,hzz,hF⟩;refine Gh hzz 9 ⟨λhg0=>?_,λhg0=>?_⟩;refine rn 6 ⟨λhc0=>?_,λhc0=>?_⟩;refine rn 8 ?_;obtain⟨ad1,hA1,hk1,hx1⟩:=hX.str_elem (i:=j) fX;refine Da (v:=.pointer<|some<|ad1.add<|j*1) (Ea (i:=(j:Int)) Hd hA1)<|Da (v:=I<|l[j]) (Ma qZ<|hF.cell0 hk1) ?_;refine rn 5 ⟨λhc1=>?_,λhc1=>?_⟩;refine rn 6 ?_;exact⟨xQ Value.bool (short_no (j:=j) fX qK).symm,hF.same⟩;refine rn 5<|Tc (Le<|((j+1:Nat):Int)) ?_;refine rn 2<|Va ⟨_,?_,j+1,O,fX,PH hs_ (λ_=>by omega),Gc,hF⟩;omega;refine rn 11 ?_;exact⟨xQ Value.bool (Q_ (j:=j) hs_ fX).symm,hF.same⟩;refine rn 17 ?_;exact⟨xQ Value.bool (Q_ (j:=j) hs_ fX).symm,hF.same⟩
theorem eq_step{a b:List Str}{j:Nat}{h1:j<aL a}{h2:j<aL b}(hq:∀i (h:i<aL a) (h2:i<aL b),i<j->a[i]=b[i])(h:a[j]=b[j]):∀i (h:i<aL a) (h2:i<aL b),i<j+1->a[i]=b[i]:=λi h3 h4 h5=>by
  grind
def ZH{a b:List Str}{j:Nat}(h:∀i (h:i<aL a) (h2:i<aL b),i<j->a[i]=b[i])(hl:aL a=aL b)(hj:aL a<=j):a=b:=List.ext_getElem hl λi h1 h2=>h i h1 h2 fX
def YG(a b:List Str)(A B:Option Addr)(c e:Nat)(S S':Nat->Prop)(w0:World)(hX:Rep S w0 (Wa a) [.slice A (aL a) c])(hY:Rep S' w0 (Wa b) [.slice B (aL b) e]):Calls prog 26 #[.slice A (aL a) c,.slice B (aL b) e] w0 (Qb λv w'=>∃n:Int,v=J n/\(n=0↔a=b)/\Same [] w0 w'):=by
 have hXl:=hX.slice_len;have hYl:=hY.slice_len;refine Ha func26 ntmps26 ?_;intro hF;refine rn 12<|Za (λμ σ w=>∃(j:Nat),μ=aL a-j/\(j<=aL a/\j<=aL b)/\(∀i (h:i<aL a) (h2:i<aL b),i<j->a[i]=b[i])/\AllEq σ [(0,.slice A (aL a) c),(1,.slice B (aL b) e),(5,J<|(j:Int))]/\FR w0 [] [] w) _ ⟨0,O,fX,λi _ _ h=>by omega,Gc,hF⟩ ?_;rintro μ σ w ⟨j,rfl,hj,hq,hzz,hF⟩;refine Gh hzz 9 ⟨λhg0=>?_,λhg0=>?_⟩;refine rn 8 ⟨λhc0=>?_,λhc0=>?_⟩;refine rn 6<|Fe (zs:=.of []) (bQ [0,1,2,3,4,5,6,7,8] .nil) hF ?_;intro w hF;refine rn 2 ?_;obtain⟨ad1,hA1,hk1,hx1⟩:=hX.str_elem (i:=j) fX;refine Fa O (v:=.pointer<|some<|ad1.add<|j*1) (λw hC=>Ea (i:=(j:Int)) Hd hA1)<|Fa O (v:=I<|a[j]) (λw hC=>Ma qZ<|hC.cell0 hk1) ?_;refine rn 2 ?_;obtain⟨ad2,hA2,hk2,hx2⟩:=hY.str_elem (i:=j) fX;refine Fa O (v:=.pointer<|some<|ad2.add<|j*1) (λw hC=>Ea (i:=(j:Int)) Hd hA2)<|Fa O (v:=I<|b[j]) (λw hC=>Ma qZ<|hC.cell0 hk2) ?_;refine rn 4 ⟨λhc1=>?_,λhc1=>?_⟩;refine rn 6 ?_;exact⟨_,rfl,⟨λh=>by omega,λh=>(less_ne hc1 (by subst h;rfl)).elim⟩,hF.same⟩;refine rn 3<|Fe (zs:=.of []) (bQ [0,1,2,3,4,5,6,7,8] .nil) hF ?_;intro w hF;refine rn 2 ?_;obtain⟨ad3,hA3,hk3,hx3⟩:=hX.str_elem (i:=j) fX;refine Fa O (v:=.pointer<|some<|ad3.add<|j*1) (λw hC=>Ea (i:=(j:Int)) Hd hA3)<|Fa O (v:=I<|a[j]) (λw hC=>Ma qZ<|hC.cell0 hk3) ?_;refine rn 2 ?_;obtain⟨ad4,hA4,hk4,hx4⟩:=hY.str_elem (i:=j) fX;refine Fa rfl (v:=.pointer<|some<|ad4.add<|j*1) (λw hC=>Ea (i:=(j:Int)) Hd (hx:=rfl) hA4 (hy:=rfl))<|Fa rfl (v:=I<|b[j]) (λw hC=>Ma qZ (hx:=rfl)<|hC.cell0 hk4)<|Fa rfl (v:=.bool<|!(Ls (a[j]) (b[j]) || decide ((a[j]:Str)=b[j]))) (λw hC=>x_gtrs rfl rfl) ?_;refine rn 3 ⟨λhc2=>?_,λhc2=>?_⟩;refine rn 6 ?_;exact⟨_,rfl,⟨λh=>by omega,λh=>(more_ne hc2 (by subst h;rfl)).elim⟩,hF.same⟩
 refine rn 5<|Tc (Le<|((j+1:Nat):Int)) ?_;refine rn 2<|Va ⟨_,?_,j+1,O,fX,eq_step hq<|none_eq qK qK,Gc,hF⟩;omega;refine rn 13 ⟨λhc3=>?_,λhc3=>?_⟩;refine rn 6 ?_;exact⟨_,rfl,⟨λh=>by omega,λh=>by subst h;omega⟩,hF.same⟩;refine rn 13 ⟨λhc4=>?_,λhc4=>?_⟩;refine rn 6 ?_;exact⟨_,rfl,⟨λh=>by omega,λh=>by subst h;omega⟩,hF.same⟩;refine rn 8 ?_;exact⟨_,O,⟨λ_=>ZH hq fX fX,λ_=>rfl⟩,hF.same⟩;refine rn 21 ⟨λhc3=>?_,λhc3=>?_⟩;refine rn 6 ?_;exact⟨_,rfl,⟨λh=>by omega,λh=>by subst h;omega⟩,hF.same⟩;refine rn 13 ⟨λhc4=>?_,λhc4=>?_⟩;refine rn 6 ?_;exact⟨_,rfl,⟨λh=>by omega,λh=>by subst h;omega⟩,hF.same⟩;refine rn 8 ?_;exact⟨_,O,⟨λ_=>ZH hq fX fX,λ_=>rfl⟩,hF.same⟩
def SZ(a b:List Str)(A B:Option Addr)(c e:Nat)(S S':Nat->Prop)(w0:World)(hX:Rep S w0 (Wa a) [.slice A (aL a) c])(hY:Rep S' w0 (Wa b) [.slice B (aL b) e]):Calls prog 9 #[.slice A (aL a) c,.slice B (aL b) e] w0 (Qb λv w'=>v=.bool (decide (a=b))/\Same [] w0 w'):=by
 refine Ha func9 ntmps9 ?_;intro hF;refine rn 9<|Yb (YG a b A B c e _ _ _ (hF.rep hX)<|hF.rep hY) ?_;rintro _ w ⟨n,rfl,hn,hE⟩;have hF:=hF.ext hE;refine rn 5 ?_;exact⟨xQ Value.bool<|decide_eq_decide.2 hn,hF.same⟩
def O_{rows:List (List Str)}{i:Nat}(h:i<aL rows):(rows.take (i+1)).flatten=(rows.take i).flatten++rows[i]:=by
  rw[iQ h,List.flatten_append];simp
theorem EZ{rows:List (List Str)}{i:Nat}(h:i<aL rows):aL (rows.take i).flatten+aL rows[i]<=aL rows.flatten:=by
  have h1:=O_ h;have h2:rows.flatten=(rows.take<|i+1).flatten++(rows.drop<|i+1).flatten:=by rw[<-List.flatten_append,List.take_append_drop]
  grind
theorem L8(l:List Str)(acc:List Str):aL (l.foldl Gq acc)<=aL acc+aL l:=by
  obtain⟨r,h,hr⟩:=PB l acc;grind
def SB{l:List Str}{j:Nat}(h:j<aL l):(l.take (j+1)).foldl Gq acc=Gq ((l.take j).foldl Gq acc) l[j]:=by
  rw[iQ h,List.foldl_append];rfl
theorem Z5(ks:List Str)(k:Str):El ks++[(k,.bool true)]=El (ks++[k]):=by grind [El]
def JS(rows:List (List Str))(R:Option Addr)(cr:Nat)(S:Nat->Prop)(w0:World)(hX:Rep S w0 (.slice (rows.map Wa)) [.slice R (aL rows) cr])(hn:aL rows.flatten<=1000000)(hlim:∀s∈Uc rows,aL s<=9223372036854775807):Calls prog 74 #[.slice R (aL rows) cr] w0 (Qb λv w'=>∃A c,v=.slice A (aL (Uc rows)) c/\Rep (Btw w0 w') w' (Wa (Uc rows)) [.slice A (aL (Uc rows)) c]/\Same [] w0 w'):=by
 have hXl:=hX.slice_len;refine Ha func74 ntmps74 ?_;intro hF;refine rn 12<|Tj (v:=λb=>.map<|some b) hF (Ul tZ) ?_;rintro b1 w hb1 hF -;refine rn 12 ?_;have hF:FR w0 [] ([(b1,Ub<|El [])]++([]++[])) w:=hF;refine Za (λμ σ w=>∃(i:Nat),∃(acc:List Str),∃(A:Option Addr),∃(c:Nat),∃(sb:List (Nat × Obj)),μ=aL rows-i/\(i<=aL rows)/\(acc=(rows.take i).flatten.foldl Gq [])/\(SlB 9 1 A (aL acc) c (acc.map λs=>Value.string<|bs s) sb)/\AllEq σ [(3,.slice A (aL acc) c),(4,.map<|some b1),(10,.slice R (aL rows) cr),(11,J<|(aL rows:Nat)),(12,J<|(i:Int))]/\FR w0 [] ([(b1,Ub<|El acc)]++(sb++[])) w) _ ⟨0,[],none,0,[],O,bZ _,O,SlB.nil _ _,Gc,hF⟩ ?_;rintro μ σ w ⟨i,acc,A,c,sb,rfl,hi,hacc,hS,hzz,hF⟩;refine Gh hzz 7 ⟨λhc0=>?_,λhc0=>?_⟩;refine rn 6 ?_;obtain⟨ad0,B0,e0,hA0,hk0,hx0⟩:=hX.row_elem (i:=i) fX;obtain⟨l,hl⟩:∃l,l=rows[i]' fX:=⟨_,rfl⟩;rw[<-hl]at hk0 hx0;have hL:=hx0;have hLl:=hL.slice_len;have hfl:=EZ (rows:=rows) (i:=i) fX;rw[<-hl]at hfl;refine Da (v:=.pointer<|some<|ad0.add<|i*1) (Ea (i:=(i:Int)) sl_129 hA0)<|Da (v:=.slice B0 (aL l) e0) (Ma mZ<|hF.cell0 hk0) ?_;refine rn 11 ?_;refine Za (λμ σ w=>∃(j:Nat),∃(acc:List Str),∃(A:Option Addr),∃(c:Nat),∃(sb:List (Nat × Obj)),μ=aL l-j/\(j<=aL l)/\(acc=(l.take j).foldl Gq ((rows.take i).flatten.foldl Gq []))/\(SlB 9 1 A (aL acc) c (acc.map λs=>Value.string<|bs s) sb)/\AllEq σ [(3,.slice A (aL acc) c),(4,.map<|some b1),(10,.slice R (aL rows) cr),(11,J<|(aL rows:Nat)),(12,J<|(i:Int)),(16,.slice B0 (aL l) e0),(17,J<|(aL l:Nat)),(18,J<|(j:Int))]/\FR w0 [] ([(b1,Ub<|El acc)]++(sb++[])) w) _ ⟨0,acc,A,c,sb,O,bZ _,by rw[hacc];rfl,hS,Gc,hF⟩ ?_;rintro μ σ w ⟨j,acc,A,c,sb,rfl,hj,hacc,hS,hzz,hF⟩;have hal:aL acc<=aL (rows.take i).flatten+j:=by rw[hacc];have h1:=L8 (l.take j)<|((rows.take i).flatten).foldl Gq [];have h2:=L8 (rows.take i).flatten [];rw[gZ]at h1;simp only[aZ]at h2;omega
 refine Gh hzz 7 ⟨λhc1=>?_,λhc1=>?_⟩;refine rn 6 ?_;obtain⟨ad1,hA1,hk1,hx1⟩:=hL.str_elem (i:=j) fX;refine Da (v:=.pointer<|some<|ad1.add<|j*1) (Ea (i:=(j:Int)) Hd hA1)<|Da (v:=I<|l[j]) (Ma qZ<|hF.cell0 hk1) ?_;refine rn 7 ?_;refine Da (v:=.bool<|decide (l[j]∈acc)) (Sf tZ bX zeroValue4 O O (hF.heap (i:=0) O) zU) ?_;refine rn 4 ⟨λhc2=>?_,λhc2=>?_⟩;refine rn 4<|Tm 0 (v:=.bool true) hF tZ bX O O O O (by rw[Vl,tQ qK]) ?_;rintro w hF -;rw[Z5]at hF;have hF:FR w0 [] ([(b1,Ub<|El<|acc++[l[j]])]++(sb++[])) w:=hF;refine rn 6 ?_;rintro b2 w hb2 hF -;refine C_ hS (len':=aL (acc++[l[j]])) (ys:=((acc++[l[j]]).map λs=>Value.string<|bs s)) Ca Ca ?_;intro A2 c2 o_2 w hS2_o hF hE hnew;refine rn 5<|Tc (Le<|((j+1:Nat):Int)) ?_;refine rn 2 ?_;refine Va ⟨_,?_,j+1,acc++[l[j]],A2,c2,o_2,O,fX,by rw[SB fX,<-hacc,Gq];exact (tQ qK).symm,hS2_o,Gc,hF.su⟩;omega;refine rn 4<|Tc (Le<|((j+1:Nat):Int)) ?_;refine rn 2 ?_;refine Va ⟨_,?_,j+1,acc,A,c,sb,O,fX,by rw[SB fX,<-hacc,Gq];exact (uQ<|Classical.not_not.1 qK).symm,hS,Gc,hF⟩;omega;refine rn 4<|Tc (Le<|((i+1:Nat):Int)) ?_;refine rn 2 ?_;refine Va ⟨_,?_,i+1,acc,A,c,sb,O,fX,(by have etl:l.take j=l:=cZ fX;rw[O_ fX,List.foldl_append,<-hl,hacc,etl]),hS,Gc,hF⟩;omega;refine rn 9 ?_;have ei:i=aL rows:=by_Om
 subst ei;rw[List.take_length]at hacc;have e2:acc=Uc rows:=hacc;subst e2;refine⟨_,_,O,?_,hF.same⟩;have hK:RX w0 [] w ((Uc rows).map Hh) _:=FE (q:=Uc rows) hlim;exact hS.rep (pre:=[_]) (post:=[]) hF hK Ca
theorem VX(x:Tree)(key:Str):Ja (Di x key).1<=Ja x:=by
  obtain⟨k,t,ks,xs⟩:=x;have hz:Ja zeroT<=Ja (.node k t ks xs):=by grind [zeroT,Ja,Oa]
  unfold Di;split
  ·cases hl : Jc (Tree.node k t ks xs).keys (Tree.node k t ks xs).items key with
   | none=>exact hz
   | some y =>
     have:=Ld<|Vj hl;have e:(Tree.node k t ks xs).items=xs:=rfl;grind [Ja]
  exact hz
theorem NS(x:Tree)(key:Str):Hb (Di x key).1<=Hb x:=by
  obtain⟨k,t,ks,xs⟩:=x;have hz:Hb zeroT<=Hb (.node k t ks xs):=by simp[zeroT,Hb,Th,Xf]
  unfold Di;split
  ·cases hl : Jc (Tree.node k t ks xs).keys (Tree.node k t ks xs).items key with
   | none=>exact hz
   | some y =>
     have:=Nd<|Vj hl;have e:(Tree.node k t ks xs).items=xs:=rfl;grind [Hb]
  exact hz
theorem XJ{x:Str}{N:Nat}(h:∀s∈acc,aL s<=N)(hx:aL x<=N):∀s∈acc++[x],aL s<=N:=λs hs=>by
  grind
theorem TR{x:Tree}{key:Str}(hm:Hb x<=1073741824):aL (AD x key)<=140737488355328:=by grind [AD,Is,Ez,Np,NS]
theorem id_c(x:Tree)(key:Str)(hsz:Ja x<=1000000000)(hm:Hb x<=1073741824)(S:Nat->Prop)(w0:World)(cs:List Value)(hR:Rep S w0 (Sa x) cs)(hG:Gl w0):Calls prog 132 #[.agg cs.toArray,I key] w0 (Qb λv w'=>v=.tuple #[I (AD x key),.bool (idB x key)]/\Same [] w0 w'):=by
 have hl:aL cs=4:=hR.length.trans<|Cb x;have ho:=hR.one_;refine Ha func132 ntmps132 ?_;intro hF;refine rn 2<|Cj (v:=.agg<|List.toArray cs) (cs:=(List.toArray cs)) hF O O ?_;rintro b1 w hb1 hF -;refine rn 6<|Da (v:=.agg<|List.toArray cs) (Qa (l:=cs) nZ rZ O hl<|hF.cellsAll 0 O) ?_;refine rn 1<|Yb (getX_c x key fX _ _ cs (hF.rep hR) (Ae x fX)<|hG.ext hF.same) ?_;rintro _ w ⟨ct,rfl,hRt,hE⟩;have hsz2:=VX x key;have hmx2:=NS x key;obtain⟨y,hy⟩:∃y,(Di x key).1=y:=⟨_,rfl⟩;rw[hy]at hRt hsz2 hmx2;obtain⟨k2,t2,ks2,xs2⟩:=y;have hRt0:=hRt;obtain⟨A2,c2,B2,e2,rfl,-,-,-,-⟩:=hRt0.tree_inv;have hF:=hF.ext hE;clear hE hRt0;refine rn 4 ?_;intro b2 w hb2 hF hE;have hRt:=hRt.ext hE;refine rn 10 ⟨λhg0=>?_,λhg0=>?_⟩;refine rn 19 ⟨?_,hF.same⟩;have hh:((Di x key).2&&idK (Di x key).1)=false:=by rw[hy,idK];simp_all[Tree.kind]
 rw[AD,idB,hh];rfl;refine rn 5 ⟨λhg1=>?_,λhg1=>?_⟩;refine rn 8 ⟨λhc0=>?_,λhc0=>?_⟩;refine rn 7 ⟨?_,hF.same⟩;have hh:((Di x key).2&&idK (Di x key).1)=false:=by rw[hy,idK];simp_all[Tree.kind]
 rw[AD,idB,hh];rfl;refine rn 5<|Ta (UR (.node k2 t2 ks2 xs2) _ _ _ hRt (hG.ext hF.same) fX fX) ?_;intro w hF hE;have hRt:=hRt.ext hE;refine rn 17 ⟨?_,hF.same⟩;have hh:((Di x key).2&&idK (Di x key).1)=true:=by rw[hy,idK];simp_all[Tree.kind]
 rw[AD,idB,hh,hy];rfl;refine rn 13<|Ta (UR (.node k2 t2 ks2 xs2) _ _ _ hRt (hG.ext hF.same) fX fX) ?_;intro w hF hE;have hRt:=hRt.ext hE;refine rn 17 ⟨?_,hF.same⟩;have hh:((Di x key).2&&idK (Di x key).1)=true:=by rw[hy,idK];simp_all[Tree.kind]
 rw[AD,idB,hh,hy];rfl
theorem LY(k:Int)(t:Str)(ks:List Str)(xs:List Tree)(key:Str)(A:Option Addr)(c:Nat)(B:Option Addr)(e:Nat)(S:Nat->Prop)(w0:World)(hsz:Ja (.node k t ks xs)<=1000000000)(hm:Hb (.node k t ks xs)<=1073741824)(hR:Rep S w0 (Sa (.node k t ks xs)) [J k,I t,.slice A (aL ks) c,.slice B (aL xs) e])(hX:Rep S w0 (.slice (Mb xs)) [.slice B (aL xs) e])(hxl:aL xs<=1000000000)(hG:Gl w0):Calls prog 104 #[.agg #[J k,I t,.slice A (aL ks) c,.slice B (aL xs) e],I key] w0 (Qb λv w'=>∃A c,v=.tuple #[.slice A (aL ((Fk (.node k t ks xs) key).getD [])) c,.bool (Fk (.node k t ks xs) key).isSome]/\Rep (Btw w0 w') w' (Wa ((Fk (.node k t ks xs) key).getD [])) [.slice A (aL ((Fk (.node k t ks xs) key).getD [])) c]/\Same [] w0 w'):=by
 refine Ha func104 ntmps104 ?_;intro hF;refine rn 3 ?_;rintro b1 w hb1 hF -;refine rn 8<|Ta (Up (.node k t ks xs) hsz _ _ _ (hF.rep hR) (Ae _ fX)<|hG.ext hF.same) ?_;rintro w hF -;refine rn 3 ⟨λhg0=>?_,λhg0=>?_⟩
 ·
  refine rn 14 ⟨none,0,?_,?_,hF.same⟩
  all_goals rw[show Fk (.node k t ks xs) key=none from (tQ (λh=>by obtain⟨h1,h2⟩:=h;simp_all[Tree.kind]))]
  ·rfl
  exact Rep.nil_slice 0 fX none
 refine rn 7 ⟨λhc0=>?_,λhc0=>?_⟩
 ·
  refine rn 7 ⟨none,0,?_,?_,hF.same⟩
  all_goals rw[show Fk (.node k t ks xs) key=none from (tQ (λh=>by obtain⟨h1,h2⟩:=h;simp_all[Tree.kind]))]
  ·rfl
  exact Rep.nil_slice 0 fX none
 refine rn 9<|Tj (v:=λb=>.map<|some b) hF (Ul tZ) ?_;rintro b2 w hb2 hF -;refine rn 13 ?_;have hr5:Eb (.node k t ks xs)=true/\k=5:=qX
 have hF:FR w0 [] ([(b2,Ub<|El []),(b1,.cells #[J k,I t,.slice A (aL ks) c,.slice B (aL xs) e] 25)]++([]++[])) w:=hF;refine Za (λμ σ w=>∃(i:Nat),∃(acc:List Str),∃(A1:Option Addr),∃(c1:Nat),∃(sb:List (Nat × Obj)),μ=aL xs-i/\(i<=aL xs)/\(Yp key (xs.drop i) acc=Yp key xs [])/\(aL acc=i)/\(∀s∈acc,aL s<=140737488355328)/\(SlB 9 1 A1 (aL acc) c1 (acc.map λs=>Value.string<|bs s) sb)/\AllEq σ [(1,I key),(6,.slice A1 (aL acc) c1),(7,.map<|some b2),(22,.slice B (aL xs) e),(23,J<|(aL xs:Nat)),(24,J<|(i:Int))]/\FR w0 [] ([(b2,Ub<|El acc),(b1,.cells #[J k,I t,.slice A (aL ks) c,.slice B (aL xs) e] 25)]++(sb++[])) w) _ ⟨0,[],none,0,[],O,bZ _,O,O,Ca,SlB.nil _ _,Gc,hF⟩ ?_;rintro μ σ w ⟨i,acc,A1,c1,sb,rfl,hi,hq,hal,hlim,hS,hzz,hF⟩;refine Gh hzz 7 ⟨λhc1=>?_,λhc1=>?_⟩
 ·
  refine rn 6 ?_;obtain⟨ad1,cs1,hA1,hl1,hk1,hx1⟩:=hX.tree_elem (i:=i) fX;have ho1:=hx1.one_;refine Da (v:=.pointer<|some<|ad1.add<|i*4) (Ea (i:=(i:Int)) Wc hA1)<|Da (v:=.agg<|List.toArray cs1) (Qa (l:=cs1) nZ rZ O hl1<|hF.cells0 hk1) ?_;refine Zm (l:=cs1) hF cX wS (by rw[hl1];rfl) (v:=.agg<|List.toArray cs1) O O (ho1) O ?_;rintro b3 w hb3 hF -;refine rn 4<|Da (v:=.agg<|List.toArray cs1) (Qa (l:=cs1) nZ rZ O hl1<|hF.cellsAll 0 O) ?_;refine rn 1 ?_;refine Ta (id_c xs[i] key (by have:=Ld<|List.getElem_mem (l:=xs) (n:=i) fX;rw[Ja]at hsz;omega) wX _ _ cs1 (hF.rep hx1) (hG.ext hF.same)) ?_;rintro w hF -;refine rn 14 ⟨λhg2=>?_,λhg2=>?_⟩
  ·
   refine rn 14 ⟨none,0,?_,?_,hF.same⟩
   all_goals rw[show Fk (.node k t ks xs) key=none from zD]
   ·rfl
   exact Rep.nil_slice 0 fX none
  refine rn 2 ?_;refine Da (v:=.bool<|decide (AD xs[i] key∈acc)) (Sf tZ bX zeroValue4 O O (hF.heap (i:=1) O) zU) ?_;refine rn 4 ⟨λhc2=>?_,λhc2=>?_⟩
  ·
   refine rn 7 ⟨none,0,?_,?_,hF.same⟩
   all_goals rw[show Fk (.node k t ks xs) key=none from zD]
   ·rfl
   exact Rep.nil_slice 0 fX none
  have hid:idB xs[i] key=true:=qX
  have hnwi:AD xs[i] key∉acc:=qX
  refine rn 6<|Tm 1 (v:=.bool true) hF tZ bX O O O O (by rw[Vl,tQ hnwi]) ?_;rintro w hF -;rw[Z5]at hF;have hF:FR w0 [] ([(b3,.cells (List.toArray cs1) 25),(b2,Ub<|El<|acc++[AD xs[i] key]),(b1,.cells #[J k,I t,.slice A (aL ks) c,.slice B (aL xs) e] 25)]++(sb++[])) w:=hF;refine rn 6 ?_;rintro b4 w hb4 hF -;refine C_ hS (len':=aL (acc++[AD xs[i] key])) (ys:=((acc++[AD xs[i] key]).map λs=>Value.string<|bs s)) Ca Ca ?_;intro A3 c3 o_3 w hS3_o hF hE hnew;refine rn 5<|Tc (Le<|((i+1:Nat):Int)) ?_;refine rn 2 ?_;refine Va ⟨_,?_,i+1,acc++[AD xs[i] key],A3,c3,o_3,O,fX,by rw[<-ZW fX hid hnwi];exact hq,by rw[dQ,hal];rfl,XJ hlim<|TR wX,hS3_o,Gc,hF.su⟩;omega
 refine rn 10 ?_;have ei:i=aL xs:=by_Om
 subst ei;have hv:Fk (.node k t ks xs) key=some acc:=by rw[Fk,uQ (show Eb (.node k t ks xs)=true/\(Tree.node k t ks xs).kind=5 from hr5)];show Yp key xs []=some acc;rw[<-hq];exact idsK_end fX
 refine⟨A1,c1,?_,?_,hF.same⟩
 all_goals rw[hv]
 ·rfl
 exact hS.rep (pre:=[_,_]) (post:=[]) hF (show RX w0 [] w (acc.map Hh) _ from FE (q:=acc) (λs hs=>by have:=hlim s hs;omega)) Ca
theorem NK(x:Tree)(key:Str)(hsz:Ja x<=1000000000)(hm:Hb x<=1073741824){S:Nat->Prop}{w0:World}(cs:List Value)(hR:Rep S w0 (Sa x) cs)(hG:Gl w0):Calls prog 104 #[.agg cs.toArray,I key] w0 (Qb λv w'=>∃A c,v=.tuple #[.slice A (aL ((Fk x key).getD [])) c,.bool (Fk x key).isSome]/\Rep (Btw w0 w') w' (Wa ((Fk x key).getD [])) [.slice A (aL ((Fk x key).getD [])) c]/\Same [] w0 w'):=by
  obtain⟨k,t,ks,xs⟩:=x;have hR0:=hR;obtain⟨A,c,B,e,rfl,-,-,-,hX⟩:=hR0.tree_inv;grind [Vd,Ja,Oa,LY]
theorem no_more{l:List Str}{key:Str}{j:Nat}(h:j<aL l)(hn:∀x∈l.take j,x≠key)(he:¬key=l[j]):∀x∈l.take (j+1),x≠key:=by
  rw[iQ h];grind
def Ob(x:Tree)(key:Str):List Str:=(Fk x key).getD []
def Io(x:Tree)(key id:Str):Tree × Bool:=if id∈Ob x key then (x.items.getD ((Ob x key).idxOf id) zeroT,true) else (zeroT,false)
theorem HC{x:Tree}{key:Str}{l:List Str}(h:Fk x key=some l):Eb x=true/\x.kind=5/\Yp key x.items []=some l:=by grind [Fk]
theorem Oy{x:Tree}{key:Str}(h:Ob x key≠[]):aL (Ob x key)=aL x.items/\Eb x=true:=by
  unfold Ob at h ⊢;cases hv:Fk x key with
  | none=>grind
  | some l =>
    obtain⟨h1,h2,h3⟩:=HC hv;have:=PK _ _ _ h3;grind
theorem item_at{k:Int}{t:Str}{ks:List Str}{xs:List Tree}{key:Str}(h:¬atZ (Ob (.node k t ks xs) key) id<0):∃(q:Nat)(hq:q<aL xs),atZ (Ob (.node k t ks xs) key) id=(q:Int)/\Io (.node k t ks xs) key id=(xs[q],true)/\Eb xs[q]=true:=by
  unfold atZ at h ⊢;by_cases hm:id∈Ob (.node k t ks xs) key
  ·have hne : Ob (.node k t ks xs) key ≠ [] := by grind
   obtain⟨h1,h2⟩:=Oy hne;have e:(Tree.node k t ks xs).items=xs:=rfl;grind [Ob,Ty,Io]
  grind
theorem item_no{x:Tree}{key:Str}(h:atZ (Ob x key) id<0):Io x key id=(zeroT,false):=by grind [atZ,Ob,Io]
def index_c(l:List Str)(key:Str)(A:Option Addr)(c:Nat)(S:Nat->Prop)(w0:World)(hX:Rep S w0 (Wa l) [.slice A (aL l) c]):Calls prog 133 #[.slice A (aL l) c,I key] w0 (Qb λv w'=>v=J (atZ l key)/\Same [] w0 w'):=by
 have hXl:=hX.slice_len;refine Ha func133 ntmps133 ?_;intro hF;refine rn 14<|Za (λμ σ w=>∃(j:Nat),μ=aL l-j/\(j<=aL l)/\(∀x∈l.take j,x≠key)/\AllEq σ [(0,.slice A (aL l) c),(1,I key),(7,J<|(aL l:Nat)),(8,J<|(j:Int))]/\FR w0 [] [] w) _ ⟨0,O,bZ _,Ca,Gc,hF⟩ ?_;rintro μ σ w ⟨j,rfl,hj,hno,hzz,hF⟩;refine Gh hzz 7 ⟨λhc0=>?_,λhc0=>?_⟩;refine rn 15 ?_;obtain⟨ad0,hA0,hk0,hx0⟩:=hX.str_elem (i:=j) fX;refine Da (v:=.pointer<|some<|ad0.add<|j*1) (Ea (i:=(j:Int)) Hd hA0)<|Da (v:=I<|l[j]) (Ma qZ<|hF.cell0 hk0) ?_;refine rn 4 ⟨λhc1=>?_,λhc1=>?_⟩;refine rn 7 ?_;exact⟨by rw[WY fX hno<|Eq.symm qK],hF.same⟩;refine rn 4<|Tc (Le<|((j+1:Nat):Int)) ?_;refine rn 2<|Va ⟨_,?_,j+1,O,fX,no_more fX hno qK,Gc,hF⟩;omega;refine rn 8 ?_;exact⟨by rw[at_none (by rw[cZ fX]at hno;exact hno)],hF.same⟩
theorem WW(k:Int)(t:Str)(ks:List Str)(xs:List Tree)(key id:Str)(A:Option Addr)(c:Nat)(B:Option Addr)(e:Nat)(S:Nat->Prop)(w0:World)(hsz:Ja (.node k t ks xs)<=1000000000)(hm:Hb (.node k t ks xs)<=1073741824)(hR:Rep S w0 (Sa (.node k t ks xs)) [J k,I t,.slice A (aL ks) c,.slice B (aL xs) e])(hX:Rep S w0 (.slice (Mb xs)) [.slice B (aL xs) e])(hxl:aL xs<=1000000000)(hG:Gl w0):Calls prog 106 #[.agg #[J k,I t,.slice A (aL ks) c,.slice B (aL xs) e],I key,I id] w0 (Qb λv w'=>∃ct:List Value,v=.tuple #[.agg ct.toArray,.bool (Io (.node k t ks xs) key id).2]/\Rep (Btw w0 w') w' (Sa (Io (.node k t ks xs) key id).1) ct/\Same [] w0 w'):=by
 refine Ha func106 ntmps106 ?_;intro hF;refine rn 3 ?_;rintro b1 w hb1 hF -;refine rn 1 ?_;rintro b2 w hb2 hF -;refine rn 7<|Yb (NK (.node k t ks xs) key hsz hm [J k,I t,.slice A (aL ks) c,.slice B (aL xs) e] (hF.rep hR)<|hG.ext hF.same) ?_;rintro _ w ⟨A1,c1,rfl,hL,hE⟩;have hL2:Rep (λ_=>True) w (Wa<|Ob (.node k t ks xs) key) [.slice A1 (aL (Ob (.node k t ks xs) key)) c1]:=hL.weaken λ_ _ _=>trivial;have hF:=hF.ext hE;clear hE hL;refine rn 11<|Ta (index_c (Ob (.node k t ks xs) key) id A1 c1 _ _ hL2) ?_;intro w hF hE;have hL2:=hL2.ext hE;refine rn 11 ⟨λhc0=>?_,λhc0=>?_⟩;refine rn 2<|Da (w':=w) (v:=.agg #[J 0,I [],aQ,aQ]) Ib ?_;refine rn 1 ?_;rintro w hF -;refine rn 4 ?_;rw[item_no qK];exact⟨_,O,Zf _ _,hF.same⟩;obtain⟨q,hqx,hq,hit,hrq⟩:=item_at (id:=id) qK;rw[hq];refine rn 7 ?_;obtain⟨ad0,cs0,hA0,hl0,hk0,hx0⟩:=hX.tree_elem (i:=q) hqx;have ho0:=hx0.one_;refine Da (v:=.pointer<|some<|ad0.add<|q*4) (Ea (i:=(q:Int)) Wc hA0)<|Da (v:=.agg<|List.toArray cs0) (Qa (l:=cs0) nZ rZ O hl0<|hF.cells0 hk0) ?_;refine Yb (OD xs[q] (by have:=Ld<|eQ hqx;rw[Ja]at hsz;omega) _ _ cs0 (hF.rep hx0) (Ae _ (by have:=Nd<|eQ hqx;rw[Hb]at hm;omega)) (hG.ext hF.same)) ?_;rintro _ w ⟨ct,rfl,hRt,hE⟩;rw[Hl hrq]at hRt;have hlt:aL ct=4:=hRt.length.trans<|Cb _;have hot:=hRt.one_;have hYX:=RX.made (ids:=[b2,b1]) hF.same.size (λx hx=>hF.lt_ids qJ) hRt;have hF:=hF.ext hE;clear hE hRt;refine Cd 0 (l:=ct) (cs':=(List.toArray ct)) hF (by rw[hlt];exact rZ) O (v:=.agg<|List.toArray ct) O O (hot) O (by rw[hlt];exact Nat.le_of_ble_eq_true O) (Vg (by rw[hlt];rfl)) ?_;intro w hF hE;have hYX:=hYX.store hE Ca;refine rn 3<|Bo<|Ej λ_ hr=>Ug (QE hr (l:=ct) O nZ rZ hlt (hF.cellsAll 0 O) (v:=.bool true) O) ?_
 rw[hit]
 ·exact⟨_,O,hYX.done,hF.same⟩
theorem HX(x:Tree)(key id:Str)(hsz:Ja x<=1000000000)(hm:Hb x<=1073741824)(S:Nat->Prop)(w0:World)(cs:List Value)(hR:Rep S w0 (Sa x) cs)(hG:Gl w0):Calls prog 106 #[.agg cs.toArray,I key,I id] w0 (Qb λv w'=>∃ct:List Value,v=.tuple #[.agg ct.toArray,.bool (Io x key id).2]/\Rep (Btw w0 w') w' (Sa (Io x key id).1) ct/\Same [] w0 w'):=by
  obtain⟨k,t,ks,xs⟩:=x;have hR0:=hR;obtain⟨A,c,B,e,rfl,-,-,-,hX⟩:=hR0.tree_inv;grind [Vd,Ja,Oa,WW]
structure Nodes where
  lab:Nat->Str
  lf:Nat->Nat
  le:∀x,lf x<=x
def turn(a b:Nodes)(x y:Nat):Nat:=if a.lab x=b.lab y then 0 else 1
def L9(a b:Nodes):Nat->Nat->Nat->Nat->Nat->Nat
  | 0,i,k,j,l=>(k-i)+(l-j)
  | f + 1, i, k, j, l =>
    if k<=i then l-j else if l<=j then k-i else
      let m:=min (L9 a b f i (k-1) j l) (L9 a b f i k j (l-1))+1
      if i<=a.lf (k-1)/\j<=b.lf (l-1) then min m (L9 a b f i (a.lf (k-1)) j (b.lf (l-1))+L9 a b f (a.lf (k-1)) (k-1) (b.lf (l-1)) (l-1)+turn a b (k-1) (l-1)) else m
def fd(a b:Nodes)(i k j l:Nat):Nat:=L9 a b ((k-i)+(l-j)) i k j l
theorem W7(a b:Nodes):∀(f g i k j l:Nat),(k-i)+(l-j)<=f->(k-i)+(l-j)<=g->L9 a b f i k j l=L9 a b g i k j l
  | 0,0,_,_,_,_,_,_=>rfl
  | 0,g+1,i,k,j,l,h,_=>by rw[L9,L9,uQ fX];omega
  | f+1,0,i,k,j,l,_,h=>by rw[L9,L9,uQ fX];omega
  | f + 1, g + 1, i, k, j, l, h1, h2 => by
    rw[L9,L9];split
    ·rfl
    split
    ·rfl
    have ha:=a.le<|k-1;have hb:=b.le<|l-1;have e1:L9 a b f i (k-1) j l=L9 a b g i (k-1) j l:=W7 a b f g _ _ _ _ fX fX;have e2:L9 a b f i k j (l-1)=L9 a b g i k j (l-1):=W7 a b f g _ _ _ _ fX fX;simp only[e1,e2];split
    ·rename_i hh
     rw[W7 a b f g i (a.lf<|k-1) j (b.lf<|l-1) fX fX,W7 a b f g (a.lf<|k-1) (k-1) (b.lf<|l-1) (l-1) fX fX]
    rfl
section
variable {a b:Nodes}{i k j l:Nat}
theorem Fp(h:k<=i):fd a b i k j l=l-j:=by
  rw[fd];cases hf:(k-i)+(l-j)with
  | zero =>
    rw[L9];omega
  | succ f=>grind [L9]
theorem Cu(h:l<=j):fd a b i k j l=k-i:=by
  rw[fd];cases hf:(k-i)+(l-j)with
  | zero =>
    rw[L9];omega
  | succ f=>grind [L9]
theorem Iy(h1:i<k)(h2:j<l):fd a b i k j l =
    if i<=a.lf (k-1)/\j<=b.lf (l-1) then min (min (fd a b i (k-1) j l) (fd a b i k j (l-1))+1) (fd a b i (a.lf (k-1)) j (b.lf (l-1))+fd a b (a.lf (k-1)) (k-1) (b.lf (l-1)) (l-1)+turn a b (k-1) (l-1))
    else min (fd a b i (k-1) j l) (fd a b i k j (l-1))+1:=by
  obtain⟨f,hf⟩:∃f,(k-i)+(l-j)=f+1:=⟨(k-i)+(l-j)-1,by_Om⟩;have ha:=a.le<|k-1;have hb:=b.le<|l-1;grind [fd,L9,W7]
def CE(h:i<k):fd a b i k j l<=fd a b i (k-1) j l+1:=by
  by_cases h2:j<l
  ·rw[Iy h h2]
   split <;> omega
  rw[Cu fX,Cu fX];omega
def GM(h:j<l):fd a b i k j l<=fd a b i k j (l-1)+1:=by
  by_cases h2:i<k
  ·rw[Iy h2 h]
   split <;> omega
  rw[Fp fX,Fp fX];omega
def OH(h1:i<k)(h2:j<l)(h3:i<=a.lf (k-1))(h4:j<=b.lf (l-1)) :
    fd a b i k j l<=fd a b i (a.lf (k-1)) j (b.lf (l-1))+fd a b (a.lf (k-1)) (k-1) (b.lf (l-1)) (l-1)+turn a b (k-1) (l-1):=by
  rw[Iy h1 h2,uQ ⟨h3,h4⟩];omega
def O7(h1:i<k)(h2:j<l):fd a b i k j l=fd a b i (k-1) j l+1\/fd a b i k j l=fd a b i k j (l-1)+1 \/
    (i<=a.lf (k-1)/\j<=b.lf (l-1)/\fd a b i k j l=fd a b i (a.lf (k-1)) j (b.lf (l-1))+fd a b (a.lf (k-1)) (k-1) (b.lf (l-1)) (l-1)+turn a b (k-1) (l-1)):=by
  rw[Iy h1 h2];split
  ·rename_i h
   omega
  omega
end
def fd_sub(a b:Nodes):∀(n i p k j q l:Nat),(k-p)+(l-q)<=n->i<=p->p<=k->j<=q->q<=l->fd a b i k j l<=fd a b i p j q+fd a b p k q l:=by
  intro n
  induction n with
  | zero =>
    intro i p k j q l hn h1 h2 h3 h4;obtain rfl:p=k:=by_Om
    obtain rfl:q=l:=by_Om
    omega
  | succ n ih =>
    intro i p k j q l hn h1 h2 h3 h4;by_cases hk:p<k
    ·by_cases hl : q<l
     ·rcases O7 (a := a) (b := b) hk hl with h|h|⟨h5, h6, h⟩
      ·have e := ih i p (k-1) j q l fX h1 fX h3 h4
       have e2:=CE (a:=a) (b:=b) (i:=i) (k:=k) (j:=j) (l:=l) fX;omega
      ·have e := ih i p k j q (l-1) fX h1 h2 h3 fX
       have e2:=GM (a:=a) (b:=b) (i:=i) (k:=k) (j:=j) (l:=l) fX;omega
      have ha := a.le (k-1);have hb:=b.le<|l-1;have e:=ih i p (a.lf<|k-1) j q (b.lf<|l-1) fX h1 h5 h3 h6;have e2:=OH (a:=a) (b:=b) (i:=i) (k:=k) (j:=j) (l:=l) fX fX fX fX;omega
     have e := ih i p (k-1) j q l fX h1 fX h3 h4;have e2:=CE (a:=a) (b:=b) (i:=i) (k:=k) (j:=j) (l:=l) fX;rw[Cu (by omega:l<=q)]at e ⊢;omega
    by_cases hl : q<l
    ·have e := ih i p k j q (l-1) fX h1 h2 h3 fX
     have e2:=GM (a:=a) (b:=b) (i:=i) (k:=k) (j:=j) (l:=l) fX;rw[Fp (by omega:k<=p)]at e ⊢;omega
    obtain rfl : p = k := by omega
    obtain rfl:q=l:=by_Om
    omega
def Kn(a b:Nodes):∀(n i k j l:Nat),(k-i)+(l-j)<=n->fd a b i k j l<=(k-i)+(l-j)/\k-i<=fd a b i k j l+(l-j)/\l-j<=fd a b i k j l+(k-i):=by
  intro n
  induction n with
  | zero =>
    intro i k j l hn;rw[Fp fX];omega
  | succ n ih =>
    intro i k j l hn;by_cases hk:i<k
    ·by_cases hl : j<l
     ·have h0 := CE (a := a) (b := b) (i := i) (k := k) (j := j) (l := l) hk
      have h1:=ih i (k-1) j l fX;have h2:=ih i k j (l-1) fX;have ha:=a.le<|k-1;have hb:=b.le<|l-1;rcases O7 (a:=a) (b:=b) hk hl with h|h|⟨h5,h6,h⟩
      ·omega
      ·omega
      have h3 := ih i (a.lf<|k-1) j (b.lf<|l-1) fX;have h4:=ih (a.lf<|k-1) (k-1) (b.lf<|l-1) (l-1) fX;omega
     rw[Cu fX];omega
    rw[Fp fX];omega
def Closed(a:Nodes)(i k:Nat):Prop:=∀z,i<=z->z<k->i<=a.lf z
def Nested(a:Nodes)(n:Nat):Prop:=∀x,x<n->Closed a (a.lf x) x
def td(a b:Nodes)(x y:Nat):Nat:=fd a b (a.lf x) (x+1) (b.lf y) (y+1)
def td_le(a b:Nodes)(x y:Nat):td a b x y<=fd a b (a.lf x) x (b.lf y) y+turn a b x y:=by
  have ha:=a.le x;have hb:=b.le y;have h:=OH (a:=a) (b:=b) (i:=a.lf x) (k:=x+1) (j:=b.lf y) (l:=y+1) fX fX Ca Ca;simp only[Nat.add_sub_cancel]at h;rw[Fp<|gQ<|a.lf x]at h;unfold td;omega
theorem fd_parts(a b:Nodes){i j:Nat}(h1:i<=a.lf x)(h2:j<=b.lf y) :
    fd a b i (x+1) j (y+1)=min (min (fd a b i x j (y+1)) (fd a b i (x+1) j y)+1) (fd a b i (a.lf x) j (b.lf y)+td a b x y):=by
  have ha:=a.le x;have hb:=b.le y;have d1:=CE (a:=a) (b:=b) (i:=i) (k:=x+1) (j:=j) (l:=y+1) fX;have d2:=GM (a:=a) (b:=b) (i:=i) (k:=x+1) (j:=j) (l:=y+1) fX;have s:=fd_sub a b _ i (a.lf x) (x+1) j (b.lf y) (y+1) (gQ _) h1 fX h2 fX;have t:=td_le a b x y;rcases O7 (a:=a) (b:=b) (i:=i) (k:=x+1) (j:=j) (l:=y+1) fX fX with h|h|⟨h5,h6,h⟩ <;> simp only[Nat.add_sub_cancel]at h d1 d2 <;> unfold td at * <;> omega
theorem fd_root(a b:Nodes) :
    fd a b (a.lf x) (x+1) (b.lf y) (y+1)=min (min (fd a b (a.lf x) x (b.lf y) (y+1)) (fd a b (a.lf x) (x+1) (b.lf y) y)+1) (fd a b (a.lf x) x (b.lf y) y+turn a b x y):=by
  have ha:=a.le x;have hb:=b.le y;have h:=Iy (a:=a) (b:=b) (i:=a.lf x) (k:=x+1) (j:=b.lf y) (l:=y+1) fX fX;simp only[Nat.add_sub_cancel]at h;rw[uQ ⟨gQ _,gQ _⟩,Fp<|gQ<|a.lf x,Nat.sub_self,Nat.zero_add]at h;exact h
def lfOk(fs:List Int)(n:Nat):Prop:=∀j (h:j<aL fs),j<n->0<=fs[j]/\fs[j]<=(j:Int)/\∀i (hi:i<j),fs[j]<=(i:Int)->fs[j]<=fs[i]' fX
def Wh(ls:List Str)(fs:List Int):Prop:=aL ls=aL fs/\aL ls<=512/\lfOk fs (aL fs)
def Qg(fs:List Int)(x:Nat):Nat:=min (fs.getD x 0).toNat x
def Gb(ls:List Str)(fs:List Int):Nodes:=⟨λx=>ls.getD x [],Qg fs,λ_=>Nat.min_le_right _ _⟩
theorem lfOk.at{fs:List Int}{j:Nat}(h:lfOk fs n)(hj:j<aL fs)(hn:j<n):((Qg fs j:Nat):Int)=fs[j]:=by
  obtain⟨h1,h2,-⟩:=h j hj hn;grind [Qg]
def lfOk.nest{fs:List Int}(h:lfOk fs n)(hn:n<=aL fs)(ls:List Str):Nested (Gb ls fs) n:=by
  intro x hx z hz1 hz2;have e1:=h.at (j:=x) fX hx;have e2:=h.at (j:=z) fX fX;have hz1':Qg fs x<=z:=hz1;have:=(h x fX hx).2.2 z hz2 fX;show Qg fs x<=Qg fs z;omega
inductive Rts (fs:List Int):Nat->List Nat->Prop
  | nil:Rts fs 0 []
  | snoc {r:Nat} {l:List Nat}:Rts fs (Qg fs r) l->Rts fs (r+1) (l++[r])
theorem Rts.last{fs:List Int}{p r:Nat}{l:List Nat}(h:Rts fs p (l++[r])):p=r+1/\Rts fs (Qg fs r) l:=by
  generalize e:l++[r]=m at h;cases h with
  | nil=>simp at e
  | snoc h1=>simp_all
def Rts.none{fs:List Int}{p:Nat}(h:Rts fs p []):p=0:=by
  generalize e:([]:List Nat)=m at h;cases h with
  | nil=>rfl
  | snoc h1=>simp at e
theorem Rts.len{fs:List Int}{p:Nat}{l:List Nat}(h:Rts fs p l):aL l<=p:=by
  induction h with
  | nil=>simp
  | snoc h1 ih=>grind [Qg]
theorem lfOk.snoc{fs:List Int}{j:Nat}(h:lfOk fs j)(hj:j<aL fs)(h0:0<=fs[j])(h1:fs[j]<=(j:Int))(hc:∀z (hz:z<j),fs[j]<=(z:Int)->fs[j]<=fs[z]' fX):lfOk fs (j+1):=by
  intro i hi hn;by_cases e:i=j
  ·grind
  exact h i hi fX
theorem lfOk.popped{fs:List Int}{j r:Nat}(h:lfOk fs j)(hj:j<=aL fs)(hr:r<j){left:Int}(hl:left<=((Qg fs r:Nat):Int)){z:Nat}(h1:Qg fs r<=z)(h2:z<=r):left<=fs[z]' fX:=by
  have e1:=h.at (j:=r) fX hr;by_cases e:z=r
  ·grind
  have := (h r fX hr).2.2 z fX fX;omega
def kroot(fs:List Int)(i:Nat):Bool:=decide (∀j,j<aL fs->i<j->fs.getD j 0≠fs.getD i 0)
def Pb(fs:List Int):List Nat:=(List.range (aL fs)).filter λi=>kroot fs i
theorem Lg{fs:List Int}{i:Nat}:i∈Pb fs↔i<aL fs/\∀j,j<aL fs->i<j->fs.getD j 0≠fs.getD i 0:=by grind [Pb,kroot]
theorem Su(fs:List Int):(Pb fs).Pairwise (· < ·):=List.Pairwise.filter _ List.pairwise_lt_range
theorem Z4(fs:List Int):∀(n x:Nat),aL fs-x<=n->x<aL fs->∃k,x<=k/\k∈Pb fs/\fs.getD k 0=fs.getD x 0:=by
  intro n
  induction n with
  | zero=>grind
  | succ n ih =>
    intro x h1 h2;by_cases h:∀j,j<aL fs->x<j->fs.getD j 0≠fs.getD x 0
    ·exact⟨x,gQ _,Lg.2 ⟨h2,h⟩,O⟩
    grind
theorem Es{fs:List Int}{j:Nat}(h:j<aL fs):fs.getD j 0=fs[j]:=qJ
theorem R1{fs:List Int}(h:lfOk fs (aL fs)){k:Nat}(hk:k∈Pb fs)(h1:Qg fs k<=x)(h2:x<=k)(hne:Qg fs x≠Qg fs k):∃k',k'<k/\k'∈Pb fs/\Qg fs k'=Qg fs x:=by
  have hkl:=(Lg.1 hk).1;obtain⟨k',h3,h4,h5⟩:=Z4 fs _ x (gQ _) fX;have hkl':=(Lg.1 h4).1;have e1:=h.at hkl hkl;have e2:=h.at hkl' hkl';have e3:=h.at (j:=x) fX fX;rw[Es hkl',Es fX]at h5;refine⟨k',?_,h4,by_Om⟩;refine Classical.byContradiction λhn=>?_;have hx:=(h k hkl hkl).2.2;have hxx:Qg fs x<=x:=Nat.min_le_right _ _;have hxk:Qg fs k<=Qg fs x:=qJ
  by_cases e:k'=k
  ·grind
  have := (h k' hkl' hkl').2.2 k fX fX;omega
theorem G2{l:List Nat}(h:l.Pairwise (· < ·))(hu:u<aL l)(hx:x∈l)(hlt:x<l[u]):x∈l.take u:=by
  obtain⟨i,hi,rfl⟩:=List.getElem_of_mem hx;have:i<u:=by
    refine Classical.byContradiction λhn=>?_;by_cases e:i=u
    ·grind
    have:=List.pairwise_iff_getElem.1 h u i hu hi fX;omega
  rw[List.mem_take_iff_getElem];grind
def Yx(fs gs:List Int)(u v:Nat)(x y:Nat):Prop :=
  (∃k∈(Pb fs).take u,Qg fs k=Qg fs x)\/(∃h:u<aL (Pb fs),Qg fs (Pb fs)[u]=Qg fs x/\∃l∈(Pb gs).take v,Qg gs l=Qg gs y)
def FG{fs gs:List Int}(h:lfOk fs (aL fs))(h':lfOk gs (aL gs))(hu:u<aL (Pb fs))(hv:v<aL (Pb gs))
    (hx1:Qg fs (Pb fs)[u]<=x) (hx2:x<=(Pb fs)[u]) (hy1:Qg gs (Pb gs)[v]<=y) (hy2:y<=(Pb gs)[v])
    (hne:¬(Qg fs x=Qg fs (Pb fs)[u]/\Qg gs y=Qg gs (Pb gs)[v])):Yx fs gs u v x y:=by
  by_cases e:Qg fs x=Qg fs (Pb fs)[u]
  ·obtain⟨k', h1, h2, h3⟩ := R1 h' (eQ hv) hy1 hy2 (λq => hne ⟨e, q⟩)
   exact .inr ⟨hu,e.symm,k',G2 (Su gs) hv h2 h1,h3⟩
  obtain⟨k', h1, h2, h3⟩ := R1 h (eQ hu) hx1 hx2 e;exact .inl ⟨k',G2 (Su fs) hu h2 h1,h3⟩
theorem IM{fs gs:List Int}(hu:u<aL (Pb fs))(hv:v<aL (Pb gs))(h:Yx fs gs u (v+1) x y):Yx fs gs u v x y\/(Qg fs x=Qg fs (Pb fs)[u]/\Qg gs y=Qg gs (Pb gs)[v]):=by
  rcases h with h|⟨_,h1,l,hl,h2⟩
  ·exact .inl<|.inl h
  rw[iQ hv, mQ, pQ]at hl;rcases hl with hl|rfl
  ·exact .inl<|.inr ⟨hu,h1,l,hl,h2⟩
  grind
theorem OT{fs gs:List Int}(hu:u<aL (Pb fs))(hy:y<aL gs)(hg:lfOk gs (aL gs))(h:Yx fs gs (u+1) 0 x y):Yx fs gs u (aL (Pb gs)) x y:=by
  rcases h with ⟨k,hk,h1⟩|⟨_,_,l,hl,_⟩
  ·rw[iQ hu, mQ, pQ]at hk
   rcases hk with hk|rfl
   ·exact .inl ⟨k,hk,h1⟩
   obtain⟨l, h2, h3, h4⟩ := Z4 gs _ y (gQ _) hy;have hl:=(Lg.1 h3).1;have e1:=hg.at hl hl;have e2:=hg.at hy hy;rw[Es hl,Es hy]at h4;exact .inr ⟨hu,h1,l,by rw[cZ<|gQ _];exact h3,by_Om⟩
  grind
def XU{fs gs:List Int}(hf:lfOk fs (aL fs))(hx:x<aL fs):Yx fs gs (aL (Pb fs)) 0 x y:=by
  obtain⟨l,h2,h3,h4⟩:=Z4 fs _ x (gQ _) hx;have hl:=(Lg.1 h3).1;have e1:=hf.at hl hl;have e2:=hf.at hx hx;rw[Es hl,Es hx]at h4;exact .inl ⟨l,by rw[cZ<|gQ _];exact h3,by_Om⟩
theorem LP{fs gs:List Int}:¬Yx fs gs 0 0 x y:=by
  rintro (⟨k,hk,_⟩|⟨_,_,l,hl,_⟩)
  ·grind
  grind
def Tx(ls:List Str)(fs:List Int)(gs:List Str)(hs:List Int):Nat:=fd (Gb ls fs) (Gb gs hs) 0 (aL ls) 0 (aL gs)
section
variable {ls gs ks:List Str}{fs hs is:List Int}
theorem Ot:Tx ls fs gs hs<=aL ls+aL gs/\aL ls<=Tx ls fs gs hs+aL gs/\aL gs<=Tx ls fs gs hs+aL ls:=by
  have:=Kn (Gb ls fs) (Gb gs hs) _ 0 (aL ls) 0 (aL gs)<|gQ _;grind [Tx]
end
section
variable {ls gs:List Str}{fs hs:List Int}{r:Str}
end
def RM(k:Str):Str:=107::Is (.node 4 k [] [])
mutual
def Jg:Tree->List Str
  | .node k t ks xs=>if k=5 then Lf xs++[[91]] else if k=6 then Xd xs ks++[[123]] else [Is (.node k t ks xs)]
def Lf:List Tree->List Str
  | []=>[]
  | x::xs=>Jg x++Lf xs
def Xd:List Tree->List Str->List Str
  | [],_=>[]
  | x::xs,ks=>Jg x++(RM (ks.headD [])::Xd xs ks.tail)
end
mutual
def Bl:Tree->Nat->List Int
  | .node k _ ks xs,b=>if k=5 then Bj xs b++[(b:Int)] else if k=6 then Ei xs ks b++[(b:Int)] else [(b:Int)]
def Bj:List Tree->Nat->List Int
  | [],_=>[]
  | x::xs,b=>Bl x b++Bj xs (b+aL (Jg x))
def Ei:List Tree->List Str->Nat->List Int
  | [],_,_=>[]
  | x::xs,ks,b=>Bl x b++((b:Int)::Ei xs ks.tail (b+aL (Jg x)+1))
end
theorem Sz:∀(xs:List Tree),(∀x∈xs,∀b,aL (Bl x b)=aL (Jg x))->∀b,aL (Bj xs b)=aL (Lf xs)
  | [],_,b=>by rw[Bj,Lf];rfl
  | x::xs,h,b=>by rw[Bj,Lf,dQ,dQ,h x Ca,Sz xs λy hy=>h y qD]
theorem J0:∀(xs:List Tree)(ks:List Str),(∀x∈xs,∀b,aL (Bl x b)=aL (Jg x))->∀b,aL (Ei xs ks b)=aL (Xd xs ks)
  | [],_,_,b=>by rw[Ei,Xd];rfl
  | x :: xs, ks, h, b => by
    rw[Ei,Xd,dQ,dQ,kQ,kQ,h x Ca,J0 xs _ λy hy=>h y qD]
theorem As(x:Tree):∀b,aL (Bl x b)=aL (Jg x):=Tree.ind (Q:=λx=>∀b,aL (Bl x b)=aL (Jg x)) (λk t ks xs ih b=>by
  rw[Bl,Jg];split
  ·rw[dQ,dQ,Sz xs ih];rfl
  split
  ·rw[dQ,dQ,J0 xs ks ih];rfl
  rfl) x
theorem WG:∀(xs:List Tree),(∀x∈xs,aL (Jg x)<=Ja x+Dl x)->aL (Lf xs)<=Oa xs+Ek xs
  | [],_=>by rw[Lf];simp
  | x :: xs, h => by
    have h1:=h x Ca;have h2:=WG xs λy hy=>h y qD;rw[Lf,Oa,Ek,dQ];omega
theorem LK:∀(xs:List Tree)(ks:List Str),(∀x∈xs,aL (Jg x)<=Ja x+Dl x)->aL (Xd xs ks)<=Oa xs+Ek xs+aL xs
  | [],_,_=>by rw[Xd];simp
  | x :: xs, ks, h => by
    have h1:=h x Ca;have h2:=LK xs ks.tail λy hy=>h y qD;rw[Xd,Oa,Ek,dQ,kQ,kQ];omega
theorem lab_le(x:Tree):Zb nodeB x=true->aL (Jg x)<=Ja x+Dl x:=Tree.ind (Q:=λx=>Zb nodeB x=true->aL (Jg x)<=Ja x+Dl x) (λk t ks xs ih h=>by
  obtain⟨hn,hx⟩:=Sc h;rw[Jg,Ja,Dl];split
  ·have := WG xs λy hy => ih y hy (hx y hy)
   rw[dQ,List.length_singleton];omega
  split
  ·rename_i h6
   subst h6;have h2:=(Hk hn).2;have:=LK xs ks λy hy=>ih y hy<|hx y hy;rw[dQ,List.length_singleton];omega
  rw[List.length_singleton];omega) x
theorem lab_pos(x:Tree):0<aL (Jg x):=by
  obtain⟨k,t,ks,xs⟩:=x;grind [Jg]
def Beh(fs:List Int)(b:Nat):Prop:=∀j (h:j<aL fs),b<=j->(b:Int)<=fs[j]
theorem lfOk.more{fs gs:List Int}{n:Nat}(h:lfOk fs n)(hn:n<=aL fs):lfOk (fs++gs) n:=by
  intro j hj hjn;have h1:=h j fX hjn;grind
def Beh.more{fs gs:List Int}{b c:Nat}(h:Beh fs b)(hc:Beh (fs++gs) c)(h1:b<=c)(h2:c<=aL fs):Beh (fs++gs) b:=by
  intro j hj hb;by_cases e:j<aL fs
  ·rw[List.getElem_append_left e]
   exact h j e hb
  have:=hc j hj fX;omega
theorem NC{fs:List Int}{b:Nat}(h:lfOk fs (aL fs))(hb:Beh fs b)(hl:b<=aL fs):lfOk (fs++[(b:Int)]) (aL (fs++[(b:Int)]))/\Beh (fs++[(b:Int)]) b:=by
  have hlen:aL (fs++[(b:Int)])=aL fs+1:=Ca
  refine⟨?_,λj hj hbj=>?_⟩
  ·rw[hlen]
   refine (h.more (gs:=[(b:Int)])<|gQ _).snoc fX ?_ ?_ ?_
   ·grind
   ·grind
   intro z hz hle;rw[List.getElem_append_right<|gQ _]at hle ⊢;rw[List.getElem_append_left hz];simp only[Nat.sub_self,List.getElem_singleton]at hle ⊢;exact hb z hz fX
  by_cases e : j<aL fs
  ·rw[List.getElem_append_left e]
   exact hb j e hbj
  grind
def Beh.all(fs:List Int):Beh fs (aL fs):=λj hj h=>by omega
def DS(x:Tree):Prop:=∀fs:List Int,lfOk fs (aL fs)->lfOk (fs++Bl x (aL fs)) (fs++Bl x (aL fs)).length/\Beh (fs++Bl x (aL fs)) (aL fs)
theorem goodTs:∀(xs:List Tree),(∀x∈xs,DS x)->∀fs:List Int,lfOk fs (aL fs)->lfOk (fs++Bj xs (aL fs)) (fs++Bj xs (aL fs)).length/\Beh (fs++Bj xs (aL fs)) (aL fs)
  | [],_,fs,h=>by rw[Bj,qQ];exact⟨h,Beh.all fs⟩
  | x :: xs, hx, fs, h => by
    obtain⟨h1,h2⟩:=hx x Ca fs h;obtain⟨h3,h4⟩:=goodTs xs (λy hy=>hx y qD) _ h1;have e:(fs++Bl x (aL fs)).length=aL fs+aL (Jg x):=by rw[dQ,As]
    have e2:fs++Bj (x::xs) (aL fs)=(fs++Bl x (aL fs))++Bj xs (fs++Bl x (aL fs)).length:=by rw[Bj,e,sQ]
    rw[e2];exact⟨h3,h2.more h4 fX<|gQ _⟩
theorem goodKs:∀(xs:List Tree)(ks:List Str),(∀x∈xs,DS x)->∀fs:List Int,lfOk fs (aL fs)->lfOk (fs++Ei xs ks (aL fs)) (fs++Ei xs ks (aL fs)).length/\Beh (fs++Ei xs ks (aL fs)) (aL fs)
  | [],_,_,fs,h=>by rw[Ei,qQ];exact⟨h,Beh.all fs⟩
  | x :: xs, ks, hx, fs, h => by
    obtain⟨h1,h2⟩:=hx x Ca fs h;have e:(fs++Bl x (aL fs)).length=aL fs+aL (Jg x):=by rw[dQ,As]
    obtain⟨h5,h6⟩:=NC h1 h2 fX;obtain⟨h3,h4⟩:=goodKs xs ks.tail (λy hy=>hx y qD) _ h5;have e3:(fs++Bl x (aL fs)++[(aL fs:Int)]).length=aL fs+aL (Jg x)+1:=by rw[dQ,e];rfl
    have e2:fs++Ei (x::xs) ks (aL fs)=(fs++Bl x (aL fs)++[(aL fs:Int)])++Ei xs ks.tail (fs++Bl x (aL fs)++[(aL fs:Int)]).length:=by
      rw[Ei,e3];simp[sQ]
    rw[e2];exact⟨h3,h6.more h4 fX<|gQ _⟩
def good(x:Tree):DS x:=Tree.ind (Q:=DS) (λk t ks xs ih fs h=>by
  rw[Bl];split
  ·obtain⟨h1, h2⟩ := goodTs xs ih fs h
   have:=NC h1 h2 Ca;rw[sQ]at this;exact this
  split
  ·obtain⟨h1, h2⟩ := goodKs xs ks ih fs h
   have:=NC h1 h2 Ca;rw[sQ]at this;exact this
  exact NC h (Beh.all fs)<|gQ _) x
theorem LG(x:Tree)(h:aL (Jg x)<=512):Wh (Jg x) (Bl x 0):=by
  refine⟨(As x 0).symm,h,?_⟩;have:=(good x [] (λj hj=>by simp at hj)).1;grind
section
variable {x:Nat}{A:Option Addr}{d:D}{cs:List Value}
variable {w w' w0:World}{Ds E:List Nat}{bs_:List (Nat × Obj)}{B pb:Nat}{ls ls':List Str}{fs fs':List Int}
def YA:Obj->Bool
  | .cells _ e _=>e==9 || e==3
  | _=>false
def Oo(w:World)(b:Nat):Bool:=match w.heap[b]? with|some o=>YA o|none=>false
def Wk2(w:World)(B pb:Nat):List Nat:=pb::(List.range w.heap.size).filter λb=>decide (B<=b)&&Oo w b
theorem Bi:x∈Wk2 w B pb↔x=pb\/(x<w.heap.size/\B<=x/\Oo w x=true):=by simp[Wk2]
theorem Un{b:Nat}{o:Obj}(h:w.heap[b]? = some o):Oo w b=YA o:=by simp[Oo,h]
def SVs(ls:List Str):List Value:=ls.map λs=>Value.string (bs s)
def OU(fs:List Int):List Value:=fs.map λn=>Value.int .i64 n
theorem SlB.typ{e m n c:Nat}{xs:List Value}{sb:List (Nat × Obj)}(h:SlB e m A n c xs sb):aL sb<=1/\∀q∈sb,∃cur,q.2=.cells cur e:=by
  rcases h.2 with ⟨-,-,rfl⟩|⟨g,cur,-,rfl,-⟩
  ·grind
  grind
structure Tb (w:World) (B pb:Nat) (ls:List Str) (fs:List Int):Prop where
  lt:pb<B
  le:B<=w.heap.size
  ex:∃(A:Option Addr)(c:Nat)(sl:List (Nat × Obj))(A':Option Addr)(c':Nat)(sf:List (Nat × Obj)),w.heap[pb]? = some (.cells #[.slice A (aL ls) c,.slice A' (aL fs) c'] 250) /\
    SlB 9 1 A (aL ls) c (SVs ls) sl/\SlB 3 1 A' (aL fs) c' (OU fs) sf/\∀q∈sl++sf,w.heap[q.1]? = some q.2/\B<=q.1
def Tb.ltw(h:Tb w B pb ls fs):pb<w.heap.size:=Nat.lt_of_lt_of_le h.lt h.le
theorem Tb.len(h:Tb w B pb ls fs):∃A c A' c',w.heap[pb]? = some (.cells #[.slice A (aL ls) c,.slice A' (aL fs) c'] 250):=by
  obtain⟨-,-,A,c,sl,A',c',sf,h1,-⟩:=h;grind
theorem Wk2.step(hs:Same (Wk2 w B pb) w w')(hx:x∈Wk2 w' B pb):x∈Wk2 w B pb\/w.heap.size<=x:=by
  by_cases h:x<w.heap.size
  ·by_cases hm : x ∈ Wk2 w B pb
   ·grind
   rcases Bi.1 hx with rfl|⟨h1, h2, h3⟩
   ·grind [Bi]
   refine absurd (Bi.2<|.inr ⟨h, h2, ?_⟩) hm;rw[Oo,<-hs.block x h hm];exact h3
  grind
theorem Tb.same(h:Tb w B pb ls fs)(hs:Same E w w')(hp:pb∉E)(he:∀x∈E,B<=x->Oo w x=false):Tb w' B pb ls fs:=by
  have hlt:=h.ltw;obtain⟨h1,h2,A,c,sl,A',c',sf,h3,h4,h5,h6⟩:=h;refine⟨h1,fQ h2 hs.size,A,c,sl,A',c',sf,(hs.block pb hlt hp).trans h3,h4,h5,λq hq=>?_⟩;obtain⟨h7,h8⟩:=h6 q hq;have ht:Oo w q.1=true:=by
    rw[Un h7];rcases mQ.1 hq with hq|hq
    ·obtain⟨cur, e⟩ := h4.typ.2 q hq
     rw[e];rfl
    obtain⟨cur, e⟩ := h5.typ.2 q hq;rw[e];rfl
  refine⟨(hs.block q.1 (Ga h7) λhm=>?_).trans h7,h8⟩;grind
def Tb.ext(h:Tb w B pb ls fs)(hs:Same [] w w'):Tb w' B pb ls fs:=h.same hs Ca Ca
structure TW (w0:World) (Ds:List Nat) (w:World) (B pb:Nat) (ls:List Str) (fs:List Int):Prop where
  tb:Tb w B pb ls fs
  sub:∀x∈Wk2 w B pb,x<w0.heap.size->x∈Ds
  ge:w0.heap.size<=w.heap.size
theorem TW.start(h:Tb w0 B pb ls fs):TW w0 (Wk2 w0 B pb) w0 B pb ls fs:=⟨h,λx hx _=>hx,gQ _⟩
def TW.own(h:Tb w B pb ls fs)(hp:w0.heap.size<=pb)(hg:w0.heap.size<=w.heap.size):TW w0 Ds w B pb ls fs :=
  ⟨h,λx hx hl=>by
    have:=h.lt;rcases Bi.1 hx with rfl|⟨-,h2,-⟩ <;> omega,hg⟩
def TW.lt(h:TW w0 Ds w B pb ls fs):pb<w.heap.size:=h.tb.ltw
def TW.wrote(h:TW w0 Ds w B pb ls fs)(hb:Tb w' B pb ls' fs')(hs:Same (Wk2 w B pb) w w'):TW w0 Ds w' B pb ls' fs' :=
  ⟨hb,λx hx hl=>by
    rcases Wk2.step hs hx with h1|h1
    ·exact h.sub x h1 hl
    have:=h.ge;omega,fQ h.ge hs.size⟩
theorem FR.wrote2(hF:FR w0 Ds bs_ w)(h:TW w0 Ds w B pb ls fs)(hs:Same (Wk2 w B pb) w w')(hb:∀q∈bs_,(YA q.2=false\/q.1<B)/\q.1≠pb):FR w0 Ds bs_ w' :=
  hF.touch hs λx hx=>⟨h.sub x hx,λq hq e=>by
    have h1:=hb q hq;rcases Bi.1 hx with h2|⟨-,h4,h3⟩
    ·exact h1.2<|e.trans h2
    rcases h1.1 with h5|h5
    ·rw[<-e,Un<|hF.memHeap hq,h5]at h3;cases h3
    omega⟩
def TW.step(h:TW w0 Ds w B pb ls fs)(hs:Same E w w')(hp:pb∉E)(he:∀x∈E,Oo w x=false)(he':∀x∈E,Oo w' x=false):TW w0 Ds w' B pb ls fs :=
  ⟨h.tb.same hs hp λx hx _=>he x hx,λx hx hl=>by
    refine h.sub x (Bi.2 ?_) hl;have hl2:=Nat.lt_of_lt_of_le hl h.ge;rcases Bi.1 hx with rfl|⟨-,h2,h3⟩
    ·exact .inl O
    refine .inr ⟨hl2, h2, ?_⟩;have hn:x∉E:=λhm=>by rw[he' x hm]at h3;cases h3
    rw[Oo,<-hs.block x hl2 hn];exact h3,fQ h.ge hs.size⟩
def TW.ext(h:TW w0 Ds w B pb ls fs)(hs:Same [] w w'):TW w0 Ds w' B pb ls fs:=h.step hs Ca Ca Ca
def Rep.off2(h:Rep (λx=>x∉Wk2 w B pb) w d cs)(hs:Same (Wk2 w B pb) w w'):Rep (λx=>x∉Wk2 w' B pb) w' d cs :=
  ((h.old).same hs (λb hb hn=>hn.1 hb)).weaken λx hx _ hm=>by
    rcases Wk2.step hs hm with h1|h1
    ·exact hx.1 h1
    have:=hx.2;omega
def Rep.off2_ext(h:Rep (λx=>x∉Wk2 w B pb) w d cs)(hs:Same [] w w'):Rep (λx=>x∉Wk2 w' B pb) w' d cs:=h.off2 (hs.mono Ca)
theorem TW.open_(h:TW w0 Ds w B pb ls fs)(hF:FR w0 Ds bs_ w)(hb:∀q∈bs_,(YA q.2=false\/q.1<B)/\q.1≠pb) :
    ∃(A : Option Addr)(c : Nat)(sl : List (Nat × Obj))(A' : Option Addr)(c' : Nat)(sf : List (Nat × Obj)), SlB 9 1 A (aL ls) c (SVs ls) sl /\ SlB 3 1 A' (aL fs) c' (OU fs) sf /\
      FR w0 Ds ((bs_++[(pb,.cells #[.slice A (aL ls) c,.slice A' (aL fs) c'] 250)])++(sl++(sf++[]))) w/\(∀q∈sl++sf,B<=q.1):=by
  obtain⟨⟨h1,h2,A,c,sl,A',c',sf,h3,h4,h5,h6⟩,hsub,hge⟩:=h;refine⟨A,c,sl,A',c',sf,h4,h5,⟨hF.same,?_,?_⟩,λq hq=>(h6 q hq).2⟩
  ·intro q hq
   simp only[qQ,sQ,mQ,pQ]at hq;rcases hq with hq|rfl|hq
   ·exact hF.own q hq
   ·grind [Bi]
   have hq' : q ∈ sl ++ sf := by grind
   obtain⟨h7,h8⟩:=h6 q hq';refine⟨h7,?_⟩;by_cases e:w0.heap.size<=q.1
   ·grind
   refine .inr<|hsub q.1 (Bi.2<|.inr ⟨Ga h7, h8, ?_⟩) fX;rw[Un h7];rcases hq with hq|hq
   ·obtain⟨cur, e⟩ := h4.typ.2 q hq
    rw[e];rfl
   obtain⟨cur, e⟩ := h5.typ.2 q hq;rw[e];rfl
  have one:∀{l:List (Nat × Obj)},aL l<=1->List.Pairwise (λp q=>q.1≠p.1) l:=fun {l} hl=>by
    match l,hl with
    | [],_=>exact .nil
    | [x],_=>simp
  have hrow:∀q∈sl++sf,YA q.2=true:=λq hq=>by
    rcases mQ.1 hq with hq|hq
    ·obtain⟨cur,e⟩:=h4.typ.2 q hq;rw[e];rfl
    obtain⟨cur,e⟩:=h5.typ.2 q hq;rw[e];rfl
  rw[qQ,sQ,List.pairwise_append];refine⟨hF.desc,?_,?_⟩
  ·rw[List.pairwise_append]
   refine⟨Ca,?_,?_⟩
   ·rw[List.pairwise_append]
    refine⟨one h4.typ.1,one h5.typ.1,λq hq r hr e=>?_⟩;obtain⟨cu,e1⟩:=h4.typ.2 q hq;obtain⟨cv,e2⟩:=h5.typ.2 r hr;grind
   grind
  intro q hq r hr e;have hb1:=hb q hq;rcases mQ.1 hr with hr|hr
  ·simp only[pQ]at hr
   subst hr;exact hb1.2 e.symm
  have h7 := (h6 r hr).1;have h9:=hrow r hr;rcases hb1.1 with h10|h10
  ·rw[e, hF.memHeap hq]at h7
   rw[<-lQ h7,h10]at h9;cases h9
  have := (h6 r hr).2;omega
theorem Tb.made{A':Option Addr}{c c':Nat}{sl sf:List (Nat × Obj)}(hF:FR w0 Ds ((bs_++[(pb,.cells #[.slice A (aL ls) c,.slice A' (aL fs) c'] 250)])++(sl++(sf++[]))) w)(hp:pb<B)(hB:B<=w.heap.size)
    (hL:SlB 9 1 A (aL ls) c (SVs ls) sl) (hN:SlB 3 1 A' (aL fs) c' (OU fs) sf) (hq:∀q∈sl++sf,B<=q.1):Tb w B pb ls fs:=by
  refine⟨hp,hB,A,c,sl,A',c',sf,hF.memHeap (p:=(pb,_)) Ca,hL,hN,λq h=>⟨?_,hq q h⟩⟩;refine hF.memHeap (p:=q) ?_;grind
end
end Go.Scarf
namespace Go.Scarf
open List renaming length->aL
open Go.RowKit Go.Proofs Go.Proofs.Tryz
variable {e n:Nat}{A:Option Addr}{xs:List Value}{sb:List (Nat × Obj)}
section
variable {P:Program}{w:World}
def Ml{ρ:Operand->Value}{dst:Option Nat}{ty:TypeId}{pos:String}{aft:Array Edge}{g:Option (Nat × Bool)}{t sz:Nat}{x y:Operand}{c:Nat}{k:IntKind}(m:Nat)(ht:Se P t e sz)(hx:ρ x=.slice A n c)(hy:ρ y=.int k (m:Int))(hm:m<=c) :
    (execOp ρ ⟨dst,.slice t x none (some y) none,ty,pos,aft,g⟩).run P w=.ok (.value (.slice A m c)) w:=by
  have he:=I4 ht.1;have ht':P.underlying t=some (.slice<|P.elem t):=by rw[he];exact ht.1
  have h:=run_slice_h (P:=P) w t A n c ht' k m fX fX;have hs:(sizeOf<|P.elem t).run P w=.ok sz w:=by rw[he];exact ht.2 w
  rw[hs]at h;have e1:sliced A 0 (m:Int).toNat c sz=.slice A m c:=by
    unfold sliced;simp only[Int.toNat_natCast,Nat.zero_mul,Nat.sub_zero];split
    ·rfl
    cases A <;> simp[Mn]
  simp only[execOp,Option.map_none,Option.map_some,hx,hy,run_sliceAt_slice w t _ _ _ _ ht',Sem.run_bind,h,Result.andThen,e1];rfl
end
def FX(tp:List Nat):List Value:=tp.map λi:Nat=>Value.int .i64 (i:Int)
def SlB.pop{m c:Nat}{ys:List Value}{v:Value}(h:SlB e 1 A n c xs sb)(hx:xs=ys++[v])(hn:n=m+1):SlB e 1 A m c ys sb:=by
  subst hn;obtain⟨h1,h2⟩:=h;rw[hx,dQ,List.length_singleton]at h1;refine⟨by_Om,.inr ?_⟩;rcases h2 with ⟨h3,-⟩|⟨g,cur,h3,h4,h5,h6,h7,h8⟩
  ·omega
  refine⟨g, cur, h3, h4, by omega, h6, h7, ?_⟩;have e1:(cur.toList.take<|(m+1)*1).take (m*1)=cur.toList.take (m*1):=by rw[List.take_take];congr 1;omega
  rw[<-e1,h8,hx,List.take_left'];omega
theorem YZ{w0 w:World}{Ds:List Nat}{pre post:List (Nat × Obj)}{c:Nat}(hS:SlB e 1 A n c xs sb)(hF:FR w0 Ds (pre++(sb++post)) w)(j:Nat){u:Value}(hu:xs[j]? = some u) :
    ∃ad,A=some ad/\w.cell? (ad.add (j*1))=some u:=by
  have hA:∃ad,A=some ad:=by
    rcases hS.2 with ⟨h1,-⟩|⟨g,cur,hA,-⟩
    ·have h2 := hS.1
     grind
    grind
  obtain⟨ad,hA⟩:=hA;exact⟨ad,hA,by rw[Nat.mul_one];exact hS.cells hF ad hA j u hu⟩
theorem last_of{tp:List Nat}(h:0<aL tp):∃l r,tp=l++[r]:=by
  cases hr:tp.reverse with
  | nil=>simp_all
  | cons r l=>simp_all
def DH(l:List Nat)(r:Nat):(FX (l++[r]))[aL l]? = some (J (r:Int)):=by simp[FX]
def SW(S:Nat->Prop)(w0:World)(la:List Str)(fa:List Int)(Aa Ba:Option Addr)(ca ea:Nat)(hLa:Rep S w0 (Wa la) [.slice Aa (aL la) ca])(hNa:Rep S w0 (.slice (fa.map Pd)) [.slice Ba (aL fa) ea]):Calls prog 271 #[.agg #[.slice Aa (aL la) ca,.slice Ba (aL fa) ea]] w0 (Qb λv w'=>∃(A:Option Addr)(n c:Nat)(b:Bool),v=.tuple #[.slice A n c,.bool b]/\(b=true↔Wh la fa)/\Same [] w0 w'):=by
 have hLla:=hLa.slice_len;have hNla:=hNa.slice_len;rw[rQ]at hLla hNla;refine Ha func271 ntmps271 ?_;intro hF;refine rn 3 ?_;rintro b1 w hb1 hF -;refine rn 16 ⟨λhg0=>?_,λhg0=>?_⟩;refine rn 15 ⟨_,_,_,false,O,⟨λh=>bJ,λh=>?_⟩,hF.same⟩;exfalso;have:=h.1;have:=h.2.1;omega;refine rn 8 ⟨λhc0=>?_,λhc0=>?_⟩;refine rn 7 ⟨_,_,_,false,O,⟨λh=>bJ,λh=>?_⟩,hF.same⟩;exfalso;have:=h.1;have:=h.2.1;omega;refine rn 7<|Tj (v:=λb=>W b (aL fa) (aL fa)) (o:=.cells (Nc (aL fa) λ_=>0) 3) hF (GQ JR Ib O O fX) ?_;rintro b2 w hb2 hF -;refine rn 10 ?_;have hlf5:aL la=aL fa/\aL la<=512:=by_Om
 have hF:FR w0 [] ([(b2,.cells (Nc (aL fa) λ_=>0) 3),(b1,.cells #[.slice Aa (aL la) ca,.slice Ba (aL fa) ea] 223)]++([]++[])) w:=hF;refine rn 8<|Za (λμ σ w=>∃(j:Nat),∃(tp:List Nat),∃(A:Option Addr),∃(c:Nat),∃(sb:List (Nat × Obj)),∃(f:Nat->Int),μ=aL fa-j/\(j<=aL fa)/\(lfOk fa j)/\(Rts fa j tp)/\(SlB 3 1 A (aL tp) c (FX tp) sb)/\AllEq σ [(1,V b1),(4,W b2 (aL fa) (aL fa)),(5,.slice A (aL tp) c),(27,.slice Ba (aL fa) ea),(28,J<|(aL fa:Nat)),(29,J<|(j:Int))]/\FR w0 [] ([(b2,.cells (Nc (aL fa) f) 3),(b1,.cells #[.slice Aa (aL la) ca,.slice Ba (aL fa) ea] 223)]++(sb++[])) w) _ ⟨0,[],none,0,[],λ_=>0,O,bZ _,λi _ h=>by omega,.nil,SlB.nil _ _,ae6,hF⟩ ?_;rintro μ σ w ⟨j,tp,A,c,sb,f,rfl,hj,hok,hrt,hS,hzz,hF⟩;refine Gh hzz 7 ⟨λhc1=>?_,λhc1=>?_⟩;refine rn 7 ?_;obtain⟨ad1,hA1,hk1,hx1⟩:=hNa.int_elem (i:=j) fX;refine Da (v:=.pointer<|some<|ad1.add<|j*1) (Ea (i:=(j:Int)) Ud hA1)<|Da (v:=J<|fa[j]) (Ma oZ<|hF.cell0 hk1) ?_;refine rn 11 ⟨λhg2=>?_,λhg2=>?_⟩;refine rn 14 ⟨_,_,_,false,O,⟨λh=>bJ,λh=>?_⟩,hF.same⟩;exfalso;have:=h.2.2 j fX fX;omega;refine rn 7 ⟨λhc2=>?_,λhc2=>?_⟩;refine rn 7 ⟨_,_,_,false,O,⟨λh=>bJ,λh=>?_⟩,hF.same⟩;exfalso;have:=h.2.2 j fX fX;omega;refine rn 4<|Za (λμ σ w=>∃(p:Nat),∃(tp:List Nat),∃(A:Option Addr),∃(c:Nat),∃(sb:List (Nat × Obj)),∃(f:Nat->Int),μ=aL tp/\(fa[j]<=(p:Int)/\p<=j)/\(∀z (hz:z<j),p<=z->fa[j]<=fa[z])/\(Rts fa p tp)/\(SlB 3 1 A (aL tp) c (FX tp) sb)/\AllEq σ [(1,V b1),(4,W b2 (aL fa) (aL fa)),(5,.slice A (aL tp) c),(6,J<|(j:Int)),(7,J<|fa[j]),(27,.slice Ba (aL fa) ea),(28,J<|(aL fa:Nat)),(29,J<|(j:Int))]/\FR w0 [] ([(b2,.cells (Nc (aL fa) f) 3),(b1,.cells #[.slice Aa (aL la) ca,.slice Ba (aL fa) ea] 223)]++(sb++[])) w) _ ⟨j,tp,A,c,sb,f,O,fX,λz hz h=>by omega,hrt,hS,ae8,hF⟩ ?_
 rintro μ σ w ⟨p,tp,A,c,sb,f,rfl,hp,hcl,hrt,hS,hzz,hF⟩;refine Gh hzz 8 ⟨λhg3=>?_,λhg3=>?_⟩;refine rn 3 ?_;obtain⟨l,r,hlr⟩:=last_of (tp:=tp) fX;have hlen:aL tp=aL l+1:=by rw[hlr];simp
 have hlb5:aL l<=512:=by have:=Rts.len hrt;omega
 obtain⟨hpr,hrl⟩:=Rts.last<|hlr▸hrt;refine Tc (W4<|(aL l:Nat)) ?_;obtain⟨adp,hAp,hkp⟩:=YZ (pre:=[(b2,.cells (Nc (aL fa) f) 3),(b1,.cells #[.slice Aa (aL la) ca,.slice Ba (aL fa) ea] 223)]) (post:=[]) hS hF (aL l) (u:=J (r:Int)) (by rw[hlr];exact DH l r);refine Da (v:=.pointer<|some<|adp.add<|aL l*1) (Ea (i:=((aL l:Nat):Int)) Ud hAp)<|Da (v:=J<|(r:Nat)) (Ma oZ hkp) ?_;refine rn 6 ⟨λhc3=>?_,λhc3=>?_⟩;refine rn 8<|Tc (W4<|(aL l:Nat)) ?_;obtain⟨adq,hAq,hkq⟩:=YZ (pre:=[(b2,.cells (Nc (aL fa) f) 3),(b1,.cells #[.slice Aa (aL la) ca,.slice Ba (aL fa) ea] 223)]) (post:=[]) hS hF (aL l) (u:=J (r:Int)) (by rw[hlr];exact DH l r);refine Da (v:=.pointer<|some<|adq.add<|aL l*1) (Ea (i:=((aL l:Nat):Int)) Ud hAq)<|Da (v:=J<|(r:Nat)) (Ma oZ hkq) ?_;refine rn 9 ?_;obtain⟨ad4,hA4,hk4,hx4⟩:=hNa.int_elem (i:=r) fX;refine Da (v:=.pointer<|some<|ad4.add<|r*1) (Ea (i:=(r:Nat)) Ud hA4)<|Da (v:=J<|fa[r]) (Ma oZ<|hF.cell0 hk4) ?_;refine rn 5 ⟨λhc4=>?_,λhc4=>?_⟩;refine rn 7 ⟨_,_,_,false,O,⟨λh=>bJ,λh=>?_⟩,hF.same⟩;exfalso;have:=(h.2.2 j fX fX).2.2 r fX fX;omega;refine rn 2<|Vb (.of []) (bQ [0,1,2,3,4,5,6,7,8]<|.act 9<|.free 10 .nil) hF ?_;rintro w hF -;refine⟨λwq=>FR w0 [] [(b1,.cells #[.slice Aa (aL la) ca,.slice Ba (aL fa) ea] 223)] wq,hF.mid 1 1,?_⟩;refine rn 6<|Wu O (W4<|(aL l:Nat)) ?_;refine Fa O (v:=.slice A (aL l) c) (λw hC=>Ml (aL l) Ud O O (by have:=hS.cap;omega)) ?_;refine Fa O (v:=.pointer<|some ⟨b2,r,none⟩) (λw hC=>Ua (i:=(r:Nat)) (r) Ud O O fX fX fX) ?_;refine SE O 0 (l:=[J<|(j:Int)]) (cs':=Nc (aL fa)<|Nf (f) (r)<|(j:Int)) hF sZ O (v:=J<|(j:Int)) O O Cm O qN (Bf _) ?_
 rintro w hF -;refine⟨hF.mid 1 1,?_⟩;refine rn 3 ?_;have hat:=hok.at (j:=r) fX fX;have hlr2:Qg fa r<=r:=Nat.min_le_right _ _;have hp2:fa[j]<=((Qg fa r:Nat):Int)/\Qg fa r<=j:=by constructor <;> omega
 refine Va ⟨_,?_,Qg fa r,l,A,c,sb,Nf (f) (r)<|(j:Int),O,hp2,λz hz hle=>if hzr:z<=r then hok.popped hj fX fX hle hzr else hcl z hz fX,hrl,SlB.pop hS (by rw[hlr];simp[FX];rfl) hlen,ae8,hF⟩;omega;refine rn 3 ?_;have hpe:(p:Int)=fa[j]:=by first|(have e0:tp=[]:=List.eq_nil_of_length_eq_zero fX;have:=Rts.none<|e0▸hrt;omega)|omega
 refine rn 3<|Da (v:=.pointer<|some ⟨b2,j,none⟩) (Ua (i:=(j:Int)) (j) Ud O O fX fX fX) ?_;refine Cd 0 (l:=[J<|(-1)]) (cs':=Nc (aL fa)<|Nf (f) (j)<|(-1)) hF sZ O (v:=J<|(-1)) O O Cm O qN (Bf _) ?_;rintro w hF -;refine rn 6 ?_;rintro b3 w hb3 hF -;refine RQ (news:=[J<|(j:Int)]) (len':=aL (tp++[j])) (ys:=FX<|tp++[j]) JR hF hS O O (O) (λ_=>⟨_,O,Ce<|hF.cellsAll 0 O⟩) jH (by have:=Rts.len hrt;simp only[maxLen];omega) Ca (by simp[FX]) (by have:=Rts.len hrt;omega) ?_;intro A5 c5 o_5 w hS5_o hF hE hnew;refine rn 5<|Tc (Le<|((j+1:Nat):Int)) ?_;refine rn 2 ?_;have hok2:lfOk fa (j+1):=hok.snoc fX fX fX λz hz hle=>hcl z hz fX;have hlf:Qg fa j=p:=by have:=hok2.at (j:=j) fX fX;omega
 have hrt2:Rts fa (j+1) (tp++[j]):=.snoc (by rw[hlf];exact hrt);refine Va ⟨_,?_,j+1,tp++[j],A5,c5,o_5,Nf (f) (j)<|(-1),O,fX,hok2,hrt2,hS5_o,ae6,hF.drop 1⟩;omega;refine rn 15 ?_;have hpe:(p:Int)=fa[j]:=by first|(have e0:tp=[]:=List.eq_nil_of_length_eq_zero fX;have:=Rts.none<|e0▸hrt;omega)|omega
 refine rn 3<|Da (v:=.pointer<|some ⟨b2,j,none⟩) (Ua (i:=(j:Int)) (j) Ud O O fX fX fX) ?_;refine Cd 0 (l:=[J<|(-1)]) (cs':=Nc (aL fa)<|Nf (f) (j)<|(-1)) hF sZ O (v:=J<|(-1)) O O Cm O qN (Bf _) ?_;rintro w hF -;refine rn 6 ?_;rintro b4 w hb4 hF -;refine RQ (news:=[J<|(j:Int)]) (len':=aL (tp++[j])) (ys:=FX<|tp++[j]) JR hF hS O O (O) (λ_=>⟨_,O,Ce<|hF.cellsAll 0 O⟩) jH (by have:=Rts.len hrt;simp only[maxLen];omega) Ca (by simp[FX]) (by have:=Rts.len hrt;omega) ?_;intro A6 c6 o_6 w hS6_o hF hE hnew;refine rn 5<|Tc (Le<|((j+1:Nat):Int)) ?_;refine rn 2 ?_;have hok2:lfOk fa (j+1):=hok.snoc fX fX fX λz hz hle=>hcl z hz fX;have hlf:Qg fa j=p:=by have:=hok2.at (j:=j) fX fX;omega
 have hrt2:Rts fa (j+1) (tp++[j]):=.snoc (by rw[hlf];exact hrt);refine Va ⟨_,?_,j+1,tp++[j],A6,c6,o_6,Nf (f) (j)<|(-1),O,fX,hok2,hrt2,hS6_o,ae6,hF.drop 1⟩;omega;refine rn 10 ?_;obtain rfl:j=aL fa:=by_Om
 exact⟨_,_,_,true,O,⟨λ_=>⟨hlf5.1,hlf5.2,hok⟩,λ_=>rfl⟩,hF.same⟩
def I7(S:Nat->Prop)(w0:World)(la:List Str)(fa:List Int)(Aa Ba:Option Addr)(ca ea:Nat)(hLa:Rep S w0 (Wa la) [.slice Aa (aL la) ca])(hNa:Rep S w0 (.slice (fa.map Pd)) [.slice Ba (aL fa) ea]):Calls prog 262 #[.agg #[.slice Aa (aL la) ca,.slice Ba (aL fa) ea]] w0 (Qb λv w'=>∃b:Bool,v=.bool b/\(b=true↔Wh la fa)/\Same [] w0 w'):=by
 refine Ha func262 ntmps262 ?_;intro hF;refine rn 3 ?_;rintro b1 w hb1 hF -;refine rn 6<|Yb (SW _ _ la fa Aa Ba ca ea (hF.rep hLa)<|hF.rep hNa) ?_;rintro _ w ⟨A,n,c,b,rfl,hb,hE⟩;have hF:=hF.ext hE;refine rn 14 ?_;exact⟨_,O,hb,hF.same⟩
end Go.Scarf
namespace Go.Scarf
open List renaming length->aL
open Go.RowKit Go.Proofs Go.Proofs.Tryz
variable {d:D}{cs:List Value}{b:Nat}{o:Obj}
section
variable {w w' w0:World}{Ds E:List Nat}{bs_:List (Nat × Obj)}{B pb:Nat}{ls ls':List Str}{fs fs':List Int}
theorem Tb.made2{A A':Option Addr}{c c':Nat}{sl sf:List (Nat × Obj)}(hF:FR w0 (Wk2 w0 B pb) ((bs_++[(pb,.cells #[.slice A (aL ls) c,.slice A' (aL fs) c'] 250)])++(sl++(sf++[]))) w)(hp:pb<B)(hB:B<=w0.heap.size)
    (hL:SlB 9 1 A (aL ls) c (SVs ls) sl) (hN:SlB 3 1 A' (aL fs) c' (OU fs) sf):Tb w B pb ls fs:=by
  refine Tb.made hF hp (fQ hB hF.same.size) hL hN λq hq=>?_;have hm:q∈(bs_++[(pb,Obj.cells #[.slice A (aL ls) c,.slice A' (aL fs) c'] 250)])++(sl++(sf++[])):=qJ
  have hne:q.1≠pb:=by
    have:=(List.pairwise_append.1 hF.desc).2.2 (pb,Obj.cells #[.slice A (aL ls) c,.slice A' (aL fs) c'] 250) Ca q (by rcases mQ.1 hq with h|h <;> simp[h]);grind
  rcases (hF.own q hm).2 with h|h
  ·omega
  grind [Bi]
def S0(w0:World)(Ds:List Nat)(b:Nat):Prop:=b<w0.heap.size/\b∉Ds
def Rep.offS(h:Rep (S0 w0 Ds) w d cs)(hB:TW w0 Ds w B pb ls fs)(hs:Same (Wk2 w B pb) w w'):Rep (S0 w0 Ds) w' d cs:=h.same hs λb hb hn=>hn.2<|hB.sub b hb hn.1
def Rep.toOff(h:Rep (S0 w0 Ds) w d cs)(hB:TW w0 Ds w B pb ls fs):Rep (λb=>b∉Wk2 w B pb) w d cs:=h.weaken λb hb _ hm=>hb.2<|hB.sub b hm hb.1
def Rep.toS0(h:Rep (λb=>b∉Wk2 w0 B pb) w0 d cs):Rep (S0 w0 (Wk2 w0 B pb)) w0 d cs:=h.old.weaken λb hb _=>⟨hb.2,hb.1⟩
theorem D9(h:w.heap[b]? = some o)(hr:YA o=false)(hb:b≠pb)(hs:Same (Wk2 w B pb) w w'):w'.heap[b]? = some o:=by
  refine (hs.block b (Ga h) λhm=>?_).trans h;grind [Bi,Un]
def Oc(h:w.heap[b]? = some o)(hs:Same [] w w'):w'.heap[b]? = some o:=(hs.block b (Ga h) Ca).trans h
def Gl.wrote2(h:Gl w0)(hs:Same (Wk2 w0 B pb) w0 w)(hb:8<=B)(hp:8<=pb):Gl w:=h.same hs λx hx=>by
  rcases Bi.1 hx with rfl|⟨-,h1,-⟩ <;> omega
end
def IS(x:Tree)(S:Nat->Prop)(w0:World)(cs:List Value)(hR:Rep S w0 (Sa x) cs)(hG:Gl w0)(hsz:Ja x<=1000000000)(hm:Hb x<=1073741824):Calls prog 242 #[.agg cs.toArray] w0 (Qb λv w'=>v=I (Is x)/\Same [] w0 w'):=by
 have hl:aL cs=4:=hR.length.trans<|Cb x;have ho:=hR.one_;refine Ha func242 ntmps242 ?_;intro hF;refine rn 2<|Cj (v:=.agg<|List.toArray cs) (cs:=(List.toArray cs)) hF O O ?_;rintro b1 w hb1 hF -;refine rn 5<|Da (v:=.agg<|List.toArray cs) (Qa (l:=cs) nZ rZ O hl<|hF.cellsAll 0 O) ?_;refine Ta (GZ x _ _ cs (hF.rep hR) (hG.ext hF.same) hsz hm) ?_;rintro w hF -;refine rn 14 ?_;exact⟨O,hF.same⟩
def ZP(w0:World)(B pb K:Nat)(caps:Array Value)(hen:Ia prog K)(ls ls':List Str)(fs fs':List Int)(lab:Str)(hT:Tb w0 B pb ls fs)(hkids:Calls prog K caps w0 (Qb λv w'=>v=.tuple #[]/\Tb w' B pb (ls') (fs')/\Same (Wk2 w0 B pb) w0 w'))(hl1:aL ls'<=512)(hl2:aL fs'<=512):Calls prog 239 #[V pb,I lab,.func (.func K) #[] caps] w0 (Qb λv w'=>v=.tuple #[]/\Tb w' B pb (ls'++[lab]) (fs'++[(aL ls:Int)])/\Same (Wk2 w0 B pb) w0 w'):=by
 refine Wb func239 ntmps239 O O ?_;have hB:=TW.start hT;have hF:=FR.start w0<|Wk2 w0 B pb;obtain⟨P0,q0,P9,q9,hpb⟩:=hT.len;refine rn 6<|Da (v:=.slice P0 (aL ls) q0) (Ma mZ<|Ra hpb 0) ?_;refine rn 7<|Ed hkids (x_callv0 O hen Ca) ?_;rintro _ w ⟨rfl,hT2,hE⟩;have hF:=hF.wrote2 hB hE Ca;have hB:=hB.wrote hT2 hE;obtain⟨P1,q1,sl,P2,q2,sf,hL,hN,hF2,-⟩:=hB.open_ hF Ca;clear hF;have hF:FR w0 (Wk2 w0 B pb) ([(pb,.cells #[.slice P1 (aL ls') q1,.slice P2 (aL fs') q2] 250)]++(sl++(sf++[]))) w:=hF2;clear hF2;refine rn 10<|Da (v:=.bool true) (Ah (x_leq O O) fX) ?_;refine rn 3<|Vb (.of [25]) (bQ [0,1,2,3,4,5,7,10,11,12,13,14,15]<|.alt 6 (.alt 8 (.alt 9 (.act 16<|.act 17<|bQ [18,19,20]<|cQ [21,22,23]<|.free 24<|.act 25 .nil)<|cQ [16,9,17]<|bQ [18,19,20]<|cQ [21,22,23]<|.free 24<|.act 25 .nil)<|cQ [16,8,9,17]<|bQ [18,19,20]<|cQ [21,22,23]<|.free 24<|.act 25 .nil)<|.alt 8 (.alt 6 (.alt 9 (.act 16<|.act 17<|bQ [18,19,20]<|cQ [21,22,23]<|.free 24<|.act 25 .nil)<|cQ [16,9,17]<|bQ [18,19,20]<|cQ [21,22,23]<|.free 24<|.act 25 .nil)<|cQ [16,6,9,17]<|bQ [18,19,20]<|cQ [21,22,23]<|.free 24<|.act 25 .nil)<|.act 16<|.alt 6 (cQ [8,9,17]<|bQ [18,19,20]<|cQ [21,22,23]<|.free 24<|.act 25 .nil)<|cQ [8,6,9,17]<|bQ [18,19,20]<|cQ [21,22,23]<|.free 24<|.act 25 .nil) hF ?_;rintro w hF -;refine⟨λwq=>FR w0 (Wk2 w0 B pb) [] wq/\wq.cell? ⟨pb,1,none⟩=some (.slice P2 (aL fs') q2),⟨hF.mid 1 0,hF.cell 0 O O⟩,?_⟩;refine rn 11 ?_;refine Fa O (v:=.slice P2 (aL fs') q2) (λw hC=>Ma pZ hC.2)<|rn 1 ?_
 repeat' first
  |refine Ip ?_ ?_
  |
   refine Bh 6 ?_
   first|refine Hm rfl (v:=.slice P1 (aL ls') q1) (Ma mZ (hx:=rfl)<|hF.cell 2 rfl rfl) (⟨hF.mid 3 0,hF.cell 2 rfl rfl⟩) ?_|refine Hm rfl (v:=.slice P1 (aL ls') q1) (Ma mZ (hx:=rfl)<|hF.cell 1 rfl rfl) (⟨hF.mid 2 0,hF.cell 1 rfl rfl⟩) ?_|refine Hm rfl (v:=.slice P1 (aL ls') q1) (Ma mZ (hx:=rfl)<|hF.cell 0 rfl rfl) (⟨hF.mid 1 0,hF.cell 0 rfl rfl⟩) ?_
  |refine Bh 8<|rn 1 ?_;rintro b301 w hb301 hF -|refine Bh 9<|D4 hL (len':=aL (ls'++[lab])) (ys:=SVs<|ls'++[lab]) Ca (by simp[SVs]) ?_;intro A302 c302 L_302 w hS302_L hF hE hnew|refine Bh 16<|rn 1 ?_;rintro b303 w hb303 hF -|refine Bh 17<|D4 hN (len':=(fs'++[(aL ls:Int)]).length) (ys:=OU<|fs'++[(aL ls:Int)]) Ca (by simp[OU]) ?_;intro A304 c304 N_304 w hS304_N hF hE hnew|refine Bh 21<|rn 1 ?_;rintro w hF -|refine Bh 25<|rn 1 ?_;rintro w hF -|refine rn 2 ?_;exact⟨O,Tb.made2 (bs_:=[_,_]) (sl:=L_302) (sf:=N_304) hF hT.lt hT.le hS302_L hS304_N,hF.same⟩|refine rn 1 ?_
end Go.Scarf
namespace Go.Scarf
open List renaming length->aL
open Go.RowKit Go.Proofs Go.Proofs.Tryz
variable {b e i m n:Nat}{S:Nat->Prop}{w0:World}{fs:List Int}{B:Option Addr}{ad:Addr}
def LW(x:Tree):Prop:=∀(w0:World)(B pb:Nat)(ls:List Str)(fs:List Int)(cs:List Value),Tb w0 B pb ls fs->Rep (λb=>b∉Wk2 w0 B pb) w0 (Sa x) cs->Gl w0->8<=pb->aL ls=aL fs->Zb nodeB x=true->Ja x<=1000000000->Hb x<=1073741824->aL ls+aL (Jg x)<=512 ->
  Calls prog 205 #[V pb,.agg cs.toArray] w0 (Qb λv w'=>v=.tuple #[]/\Tb w' B pb (ls++Jg x) (fs++Bl x (aL ls))/\Same (Wk2 w0 B pb) w0 w')
theorem H6{w:World}{l:List Value}{T:TypeId}(h:w.heap[b]? = some (.cells l.toArray T)):∀j (hj:j<aL l),w.cell? ((⟨b,0,none⟩:Addr).add j)=some l[j]:=λj hj=>by
  have e:(⟨b,0,none⟩:Addr).add j=⟨b,j,none⟩:=by unfold Addr.add;split <;> simp_all
  rw[e,Ra h j];simp[hj]
theorem Vx(xs:List Tree)(b:Nat):aL (Bj xs b)=aL (Lf xs):=by grind [Sz,As]
theorem Fr(xs:List Tree)(ks:List Str)(b:Nat):aL (Ei xs ks b)=aL (Xd xs ks):=by grind [J0,As]
theorem Iw:∀(xs:List Tree)(j:Nat)(h:j<aL xs),Lf (xs.take (j+1))=Lf (xs.take j)++Jg xs[j]
  | x::xs,0,_=>by simp[Lf]
  | x :: xs, j + 1, h => by
    rw[List.take_succ_cons,List.take_succ_cons,Lf,Lf,Iw xs j (aS h),sQ];rfl
theorem N7:∀(xs:List Tree)(j:Nat)(h:j<aL xs)(b:Nat),Bj (xs.take (j+1)) b=Bj (xs.take j) b++Bl xs[j] (b+aL (Lf (xs.take j)))
  | x::xs,0,_,b=>by simp[Bj,Lf]
  | x :: xs, j + 1, h, b => by
    rw[List.take_succ_cons,List.take_succ_cons,Bj,Bj,Lf,N7 xs j (aS h),sQ,dQ,Nat.add_assoc];rfl
theorem I_(xs:List Tree)(j:Nat):aL (Lf (xs.take j))<=aL (Lf xs):=by
  induction xs generalizing j with
  | nil=>simp
  | cons x xs ih =>
    cases j with
    | zero=>simp[Lf]
    | succ j=>grind [Lf]
theorem Qv:∀(xs:List Tree)(ks:List Str)(j:Nat)(h:j<aL xs)(h2:j<aL ks),Xd (xs.take (j+1)) ks=Xd (xs.take j) ks++(Jg xs[j]++[RM ks[j]])
  | x::xs,k::ks,0,_,_=>by simp[Xd]
  | x :: xs, k :: ks, j + 1, h, h2 => by
    rw[List.take_succ_cons,List.take_succ_cons,Xd,Xd,List.tail_cons,Qv xs ks j (aS h) (aS h2)];simp
  | _::_,[],_,_,h2=>by simp at h2
theorem D5:∀(xs:List Tree)(ks:List Str)(j:Nat)(h:j<aL xs)(h2:j<aL ks)(b:Nat),Ei (xs.take (j+1)) ks b=Ei (xs.take j) ks b++(Bl xs[j] (b+aL (Xd (xs.take j) ks))++[((b+aL (Xd (xs.take j) ks):Nat):Int)])
  | x::xs,k::ks,0,_,_,b=>by simp[Ei,Xd]
  | x :: xs, k :: ks, j + 1, h, h2, b => by
    rw[List.take_succ_cons,List.take_succ_cons,Ei,Ei,Xd,List.tail_cons,D5 xs ks j (aS h) (aS h2)];have e:b+aL (Jg x++RM ((k::ks).headD [])::Xd (xs.take j) ks)=b+aL (Jg x)+1+aL (Xd (xs.take j) ks):=by simp;omega
    rw[e];simp
  | _::_,[],_,_,h2,_=>by simp at h2
theorem W9(xs:List Tree)(ks:List Str)(j:Nat):aL (Xd (xs.take j) ks)<=aL (Xd xs ks):=by
  induction xs generalizing j ks with
  | nil=>simp
  | cons x xs ih =>
    cases j with
    | zero=>simp[Xd]
    | succ j=>grind [Xd]
def cat_keyL(k:Str):([107]:Str)++Is (.node 4 k [] [])=RM k:=rfl
theorem Oz(x:Tree)(hm:Hb x<=1073741824):aL (Is x)<=140737488355328:=by grind [Is,Ez]
def flatR{w:World}{s:Str}(h:aL s<=9223372036854775807):Rep S w (Sa (.node 4 s [] [])) [J 4,I s,aQ,aQ] :=
  Rep.tree_mk ⟨by_Om,by_Om⟩ h (Rep.nil_slice 0 fX none) (Rep.nil_slice 0 fX none)
def Bz(s:Str):Hb (.node 4 s [] [])=aL s:=by simp[Hb,Th,Xf]
def nnone_c(w0:World)(B pb:Nat)(ls:List Str)(fs:List Int)(hT:Tb w0 B pb ls fs):Calls prog 245 #[] w0 (Qb λv w'=>v=.tuple #[]/\Tb w' B pb (ls) (fs)/\Same (Wk2 w0 B pb) w0 w'):=by
  refine Wb func245 ntmps245 O O ?_;have hB:=TW.start hT;have hF:=FR.start w0<|Wk2 w0 B pb;refine rn 2 ?_;exact⟨O,hB.tb,hF.same⟩
def nkid_c(x:Tree)(ih:LW x)(w0:World)(B pb:Nat)(ls:List Str)(fs:List Int)(hT:Tb w0 B pb ls fs)(hG:Gl w0)(hpN:8<=pb)(hlf:aL ls=aL fs)(k0 k1:Nat)(cs:List Value)(h0:w0.heap[k0]? = some (.cells #[V pb] 278))(h1:w0.heap[k1]? = some (.cells cs.toArray 25))(hR:Rep (λb=>b∉Wk2 w0 B pb) w0 (Sa x) cs)(hn:Zb nodeB x=true)(hsz:Ja x<=1000000000)(hm:Hb x<=1073741824)(hlen:aL ls+aL (Jg x)<=512):Calls prog 244 #[V k0,V k1] w0 (Qb λv w'=>v=.tuple #[]/\Tb w' B pb (ls++Jg x) (fs++Bl x (aL ls))/\Same (Wk2 w0 B pb) w0 w'):=by
 have hl:aL cs=4:=hR.length.trans<|Cb x;have ho:=hR.one_;refine Wb func244 ntmps244 O O ?_;have hB:=TW.start hT;have hF:=FR.start w0<|Wk2 w0 B pb;refine rn 1<|Da (v:=V pb) (Ma isAgg278<|Ra h0 0)<|Da (v:=.agg<|List.toArray cs) (Qa (l:=cs) nZ rZ O hl<|H6 h1) ?_;refine Yb (ih w0 B pb ls fs cs hT hR hG hpN hlf hn hsz hm hlen) ?_;rintro _ w ⟨rfl,hT2,hE⟩;have hF:=hF.wrote2 hB hE Ca;have hB:=hB.wrote hT2 hE;refine rn 2 ?_;exact⟨O,hB.tb,hF.same⟩
def nitems_c(k:Int)(t:Str)(ks:List Str)(xs:List Tree)(A D:Option Addr)(c e:Nat)(w0:World)(B pb:Nat)(ls:List Str)(fs:List Int)(hT:Tb w0 B pb ls fs)(hG:Gl w0)(hpN:8<=pb)(hlf:aL ls=aL fs)(ih:∀x∈xs,LW x)(hns:∀x∈xs,Zb nodeB x=true)(hsz:Oa xs<=1000000000)(hm:Xf xs<=1073741824)(k0 k1:Nat)(h0:w0.heap[k0]? = some (.cells #[J k,I t,.slice A (aL ks) c,.slice D (aL xs) e] 25))(hp:w0.heap[k1]? = some (.cells #[V pb] 278))(hk1:k1≠pb)(hX0:Rep (λb=>b∉Wk2 w0 B pb) w0 (.slice (Mb xs)) [.slice D (aL xs) e])(hlen:aL ls+aL (Lf xs)<=512):Calls prog 240 #[V k0,V k1] w0 (Qb λv w'=>v=.tuple #[]/\Tb w' B pb (ls++Lf xs) (fs++Bj xs (aL ls))/\Same (Wk2 w0 B pb) w0 w'):=by
 have hX:=hX0.toS0;have hXl:=hX.slice_len;have hxn:=Vd xs;refine Wb func240 ntmps240 O O ?_;have hB:=TW.start hT;have hF:=FR.start w0<|Wk2 w0 B pb;refine rn 3<|Da (v:=.slice D (aL xs) e) (Ma isAgg23<|Ra h0 3) ?_;refine rn 5<|Za (λμ σ w=>∃(j:Nat),μ=aL xs-j/\(j<=aL xs)/\(TW w0 (Wk2 w0 B pb) w B pb (ls++Lf (xs.take j))<|fs++Bj (xs.take j) (aL ls))/\(Rep (S0 w0<|Wk2 w0 B pb) w (.slice<|Mb xs) [.slice D (aL xs) e])/\(w.heap[k1]? = some (.cells #[V pb] 278))/\AllEq σ [(1,V k1),(5,.slice D (aL xs) e),(6,J<|(aL xs:Nat)),(7,J<|(j:Int))]/\FR w0 (Wk2 w0 B pb) [] w) _ ⟨0,O,bZ _,by simpa[Lf,Bj]using hB,hX,hp,Gc,hF⟩ ?_;rintro μ σ w ⟨j,rfl,hj,hB,hX,hp,hzz,hF⟩;refine Gh hzz 7 ⟨λhc0=>?_,λhc0=>?_⟩;refine rn 6 ?_;obtain⟨ad0,cs0,hA0,hl0,hk0,hx0⟩:=hX.tree_elem (i:=j) fX;have ho0:=hx0.one_;have hxe:=hx0;refine Da (v:=.pointer<|some<|ad0.add<|j*4) (Ea (i:=(j:Int)) Wc hA0)<|Da (v:=.agg<|List.toArray cs0) (Qa (l:=cs0) nZ rZ O hl0 hk0) ?_;refine Zm (l:=cs0) hF cX jB bB (v:=.agg<|List.toArray cs0) O O (ho0) O ?_;intro b1 w hb1 hF hE;have hnb1:b1≠pb:=by have:=hB.lt;omega
 have hB:=hB.ext hE;have hX:=hX.ext hE;have hxe:=hxe.ext hE;have hp:=Oc hp hE;refine rn 3<|Da (v:=V pb) (Ma isAgg278<|Ra hp 0)<|Da (v:=.agg<|List.toArray cs0) (Qa (l:=cs0) nZ rZ O hl0<|hF.cellsAll 0 O) ?_;refine Yb (ih _ (List.getElem_mem (l:=xs) (n:=j) fX) _ B pb _ _ cs0 hB.tb (hxe.toOff hB) (hG.wrote2 hF.same bV hpN) hpN (by rw[dQ,dQ,Vx];omega) (hns _<|eQ _) zY (by have:=Nd<|List.getElem_mem (l:=xs) (n:=j) fX;omega) (by have h1:=I_ xs<|j+1;rw[Iw xs j fX,dQ]at h1;rw[dQ];omega)) ?_;rintro _ w ⟨rfl,hT2,hE⟩;have hX:=hX.offS hB hE;have hp:=D9 hp rfl hk1 hE;have hF:=hF.wrote2 hB hE wU;have hB:=hB.wrote hT2 hE;refine rn 4<|Tc (Le<|((j+1:Nat):Int)) ?_;refine rn 2 ?_;refine Va ⟨_,?_,j+1,O,fX,by rw[Iw xs j fX,N7 xs j fX,<-sQ,<-sQ,<-dQ];exact hB,hX,hp,Gc,hF.su⟩;omega;refine rn 2 ?_;obtain rfl:j=aL xs:=by_Om
 rw[List.take_length]at hB;exact⟨O,hB.tb,hF.same⟩
def gi(m p q:Nat):Nat:=p*(m+1)+q
theorem gi_inj{p q p' q':Nat}(hq:q<=m)(hq':q'<=m)(h:gi m p q=gi m p' q'):p=p'/\q=q':=by
  unfold gi at h;have e:p=p':=by
    have h1:(p*(m+1)+q)/(m+1)=p:=by rw[Nat.mul_comm,Nat.mul_add_div fX,Nat.div_eq_of_lt fX];omega
    have h2:(p'*(m+1)+q')/(m+1)=p':=by rw[Nat.mul_comm,Nat.mul_add_div fX,Nat.div_eq_of_lt fX];omega
    grind
  grind
theorem Ms{p q:Nat}(hp:p<=n:=by omega)(hq:q<=m:=by omega):gi m p q<(n+1)*(m+1):=by
  unfold gi;have:p*(m+1)<=n*(m+1):=Nat.mul_le_mul_right _ hp;grind
def AK(hn:n<=512)(hm:m<=512):(n+1)*(m+1)<=263169:=fQ (Nat.mul_le_mul (Nat.succ_le_succ hn)<|Nat.succ_le_succ hm) Pa
theorem FR.adopt{w:World}{Ds:List Nat}{bs_:List (Nat × Obj)}{o:Obj}(hF:FR w0 Ds bs_ w)(h:w.heap[b]? = some o)(hb:w0.heap.size<=b)(hn:∀q∈bs_,q.1≠b):FR w0 Ds ((b,o)::bs_) w :=
  ⟨hF.same,λq hq=>by
    rcases oQ.1 hq with rfl|hq
    ·exact⟨h,.inl hb⟩
    exact hF.own q hq,List.pairwise_cons.2 ⟨λq hq=>hn q hq,hF.desc⟩⟩
def IX(w0:World)(n m:Nat)(hn:n<=512)(hm:m<=512):Calls prog 264 #[J ((n:Nat):Int),J ((m:Nat):Int)] w0 (Qb λv w'=>∃gb cb:Nat,v=V gb/\w'.heap[gb]? = some (.cells #[J ((m+1:Nat):Int),W cb ((n+1)*(m+1)) ((n+1)*(m+1))] 310)/\w'.heap[cb]? = some (.cells (Nc ((n+1)*(m+1)) λ_=>0) 3)/\w0.heap.size<=gb/\w0.heap.size<=cb/\gb≠cb/\Same [] w0 w'):=by
 have hN:=AK hn hm;refine Ha func264 ntmps264 ?_;intro hF;refine rn 8<|Tc (Le<|((m+1:Nat):Int)) ?_;refine rn 1<|Tc (Le<|((n+1:Nat):Int)) ?_;refine rn 1<|Tc (Le<|((m+1:Nat):Int)) ?_;refine Da (v:=J<|(((n+1)*(m+1)):Nat)) (F8 O O<|Yf (by rw[Int.natCast_mul]) fX fX)<|rn 1 ⟨by_Om,?_⟩;rintro b1 w hb1 hF -;refine Da (w':=w) (v:=.agg #[J<|((m+1:Nat):Int),W b1 (((n+1)*(m+1)))<|((n+1)*(m+1))]) Ib<|rn 1 ?_;rintro b2 w hb2 hF -;refine rn 4 ?_;have h0:=hF.ge (i:=0) rfl;have h1:=hF.ge (i:=1) rfl;exact⟨_,_,O,hF.heap (i:=0) O,hF.heap (i:=1) O,h0,h1,(by have:=(List.pairwise_cons.1 hF.desc).1 _ (zQ ..);exact λe=>this e.symm),hF.same⟩
def at_k(w0:World)(gb cb N m p q k:Nat)(i j:Int)(hi:i+1=(p:Int))(hj:j+1=(q:Int))(hg:w0.heap[gb]? = some (.cells #[J ((m+1:Nat):Int),W cb N N] 310))(hk:p*(m+1)=k)(hN:k+q<N)(hm:m<=512)(hp:p<=1000)(hNm:N<=263169):Calls prog 248 #[V gb,J i,J j] w0 (Qb λv w'=>v=.pointer (some ⟨cb,gi m p q,none⟩)/\Same [] w0 w'):=by
 refine Ha func248 ntmps248 ?_;intro hF;refine rn 6<|Fe (zs:=.of []) (bQ [0,1,2,3,4,5,6,7,8,9,10,11,12,13,14,15] .nil) hF ?_;intro w hF;refine rn 3 ?_;refine Fa O (v:=W cb N N) (λw hC=>Ma pZ<|hC.cell0<|Ra hg 1)<|rn 1 ?_;refine Wu O (Le<|(p:Nat))<|rn 3 ?_;refine Fa O (v:=J<|((m+1:Nat):Int)) (λw hC=>Ma oZ<|hC.cell0<|Ra hg 0)<|Fa O (v:=J<|(k:Nat)) (λw hC=>F8 O O<|Yf (by rw[<-hk,Int.natCast_mul]) fX fX) ?_;refine rn 1<|Wu O Fj<|Wu O (Le<|((k+q:Nat):Int))<|Fa O (v:=.pointer<|some ⟨cb,k+q,none⟩) (λw hC=>Ua (i:=((k+q:Nat):Int)) (k+q) Ud O O fX fX fX) ?_;refine rn 4 ?_;exact⟨by rw[gi,hk],hF.same⟩
def Tt(gb cb n m p q:Nat)(i j:Int)(hg:w0.heap[gb]? = some (.cells #[J ((m+1:Nat):Int),W cb ((n+1)*(m+1)) ((n+1)*(m+1))] 310))(hi:i+1=(p:Int):=by omega)(hj:j+1=(q:Int):=by omega)(hp:p<=n:=by omega)(hq:q<=m:=by omega)(hn:n<=512:=by omega)(hm:m<=512:=by omega):Calls prog 248 #[V gb,J i,J j] w0 (Qb λv w'=>v=.pointer (some ⟨cb,gi m p q,none⟩)/\Same [] w0 w') :=
  at_k w0 gb cb _ m p q _ i j hi hj hg rfl (Ms (hp:=hp) (hq:=hq)) hm fX (AK hn hm)
def Sk(N0 n:Nat)(q:Nat->Nat)(b:Nat):Prop:=b<N0/\∀i,i<n->q i≠b
structure Rk (w:World) (N0 rb pb:Nat) (q:Nat->Nat) (la:List Str) (fa:List Int) (lb:List Str) (fb:List Int) (Aa Ba Ab Bb:Option Addr) (k1 k2 k3 k4:Nat) (P:Nat->Nat->Int):Prop where
  cell:w.heap[rb]? = some (.cells #[.slice Aa (aL la) k1,.slice Ba (aL fa) k2,.slice Ab (aL lb) k3,.slice Bb (aL fb) k4,W pb (aL la) (aL la)] 306)
  La:Rep (Sk N0 (aL la) q) w (Wa la) [.slice Aa (aL la) k1]
  Na:Rep (Sk N0 (aL la) q) w (.slice (fa.map Pd)) [.slice Ba (aL fa) k2]
  Lb:Rep (Sk N0 (aL la) q) w (Wa lb) [.slice Ab (aL lb) k3]
  Nb:Rep (Sk N0 (aL la) q) w (.slice (fb.map Pd)) [.slice Bb (aL fb) k4]
  grid:Grid2 w pb (aL la) (aL lb) 42 3 q P
  lt:rb<N0/\pb<N0/\∀i,i<aL la->q i<N0
  ne:∀i,i<aL la->q i≠rb
section
variable {w w':World}{N0 rb pb:Nat}{q:Nat->Nat}{la lb:List Str}{fa fb:List Int}{Aa Ba Ab Bb:Option Addr}{k1 k2 k3 k4:Nat}{P:Nat->Nat->Int}{E:List Nat}
theorem Rk.step(h:Rk w N0 rb pb q la fa lb fb Aa Ba Ab Bb k1 k2 k3 k4 P)(hs:Same E w w')(he:∀b∈E,N0<=b):Rk w' N0 rb pb q la fa lb fb Aa Ba Ab Bb k1 k2 k3 k4 P:=by
  have ns:∀b∈E,¬Sk N0 (aL la) q b:=λb hb h2=>by have:=he b hb;have:=h2.1;omega
  have nl:∀x,x<N0->x∉E:=qJ
  exact⟨(hs.block _ (Ga h.cell)<|nl _ h.lt.1).trans h.cell,h.La.same hs ns,h.Na.same hs ns,h.Lb.same hs ns,h.Nb.same hs ns,h.grid.keep hs (nl _ h.lt.2.1) λi hi=>nl _<|h.lt.2.2 i hi,h.lt,h.ne⟩
def Rk.ext(h:Rk w N0 rb pb q la fa lb fb Aa Ba Ab Bb k1 k2 k3 k4 P)(hs:Same [] w w'):Rk w' N0 rb pb q la fa lb fb Aa Ba Ab Bb k1 k2 k3 k4 P:=h.step hs Ca
theorem Rk.put(h:Rk w N0 rb pb q la fa lb fb Aa Ba Ab Bb k1 k2 k3 k4 P){j:Nat}{v:Int}(hi:i<aL la)(hs:Same [q i] w w')(hn:w'.heap[q i]? = some (.cells (Nc (aL lb) (Nf (P i) j v)) 3)):Rk w' N0 rb pb q la fa lb fb Aa Ba Ab Bb k1 k2 k3 k4 (Rm P i j v):=by
  have ns:∀b∈[q i],¬Sk N0 (aL la) q b:=λb hb h2=>h2.2 i hi (pQ.1 hb).symm;exact⟨(hs.block _ (Ga h.cell) bF).trans h.cell,h.La.same hs ns,h.Na.same hs ns,h.Lb.same hs ns,h.Nb.same hs ns,h.grid.put hi hs hn,h.lt,h.ne⟩
def Rk.c0(h:Rk w N0 rb pb q la fa lb fb Aa Ba Ab Bb k1 k2 k3 k4 P):w.cell? ⟨rb,0,none⟩=some (.slice Aa (aL la) k1):=Ra h.cell 0
def Rk.c1(h:Rk w N0 rb pb q la fa lb fb Aa Ba Ab Bb k1 k2 k3 k4 P):w.cell? ⟨rb,1,none⟩=some (.slice Ba (aL fa) k2):=Ra h.cell 1
def Rk.c2(h:Rk w N0 rb pb q la fa lb fb Aa Ba Ab Bb k1 k2 k3 k4 P):w.cell? ⟨rb,2,none⟩=some (.slice Ab (aL lb) k3):=Ra h.cell 2
def Rk.c3(h:Rk w N0 rb pb q la fa lb fb Aa Ba Ab Bb k1 k2 k3 k4 P):w.cell? ⟨rb,3,none⟩=some (.slice Bb (aL fb) k4):=Ra h.cell 3
def Rk.c4(h:Rk w N0 rb pb q la fa lb fb Aa Ba Ab Bb k1 k2 k3 k4 P):w.cell? ⟨rb,4,none⟩=some (W pb (aL la) (aL la)):=Ra h.cell 4
theorem int_at(h:Rep S w (.slice (fs.map Pd)) [.slice B n e])(hA:B=some ad)(hi:i<aL fs):w.cell? (ad.add (i*1))=some (J fs[i]):=by
  obtain⟨ad',hA',hc,-⟩:=h.int_elem hi;grind
theorem str_at{ls:List Str}(h:Rep S w (Wa ls) [.slice B n e])(hA:B=some ad)(hi:i<aL ls):w.cell? (ad.add (i*1))=some (I (ls[i])):=by
  obtain⟨ad',hA',hc,-⟩:=h.str_elem hi;grind
theorem int_ad(h:Rep S w (.slice (fs.map Pd)) [.slice B n e])(hi:0<aL fs):∃ad,B=some ad:=by
  obtain⟨ad,hA,-⟩:=h.int_elem hi;grind
end
def turn_c(w0:World)(N0 rb pb:Nat)(q:Nat->Nat)(la:List Str)(fa:List Int)(lb:List Str)(fb:List Int)(Aa Ba Ab Bb:Option Addr)(k1 k2 k3 k4:Nat)(P:Nat->Nat->Int)(h:Rk w0 N0 rb pb q la fa lb fb Aa Ba Ab Bb k1 k2 k3 k4 P)(i j:Nat)(hi:i<aL la)(hj:j<aL lb)(hn:aL la<=512)(hm:aL lb<=512):Calls prog 265 #[V rb,J ((i:Nat):Int),J ((j:Nat):Int)] w0 (Qb λv w'=>v=J ((turn (Gb la fa) (Gb lb fb) i j:Nat):Int)/\Same [] w0 w'):=by
 have turnT:turn (Gb la fa) (Gb lb fb) i j=if la[i]=lb[j] then 0 else 1:=by simp[turn,Gb,List.getD,hi,hj]
 refine Ha func265 ntmps265 ?_;intro hF;refine rn 7<|Fe (zs:=.of []) (bQ [0,1,2,3,4,5,6,7,8,9,10,11,12,13,14,15,16] .nil) hF ?_;intro w hF;refine rn 4 ?_;refine Fa O (v:=.slice Aa (aL la) k1) (λw hC=>Ma mZ<|hC.cell0 h.c0)<|rn 1 ?_;obtain⟨ad0,hA0,hk0,hx0⟩:=h.La.str_elem (i:=i) fX;refine Fa O (v:=.pointer<|some<|ad0.add<|i*1) (λw hC=>Ea (i:=(i:Nat)) Hd hA0)<|Fa O (v:=I<|la[i]) (λw hC=>Ma qZ<|hC.cell0 hk0) ?_;refine rn 4 ?_;refine Fa O (v:=.slice Ab (aL lb) k3) (λw hC=>Ma mZ<|hC.cell0 h.c2)<|rn 1 ?_;obtain⟨ad1,hA1,hk1,hx1⟩:=h.Lb.str_elem (i:=j) fX;refine Fa O (v:=.pointer<|some<|ad1.add<|j*1) (λw hC=>Ea (i:=(j:Nat)) Hd hA1)<|Fa O (v:=I<|lb[j]) (λw hC=>Ma qZ<|hC.cell0 hk1) ?_;refine rn 4 ⟨λhc0=>?_,λhc0=>?_⟩;refine rn 6 ?_;exact⟨by rw[turnT,uQ qK];rfl,hF.same⟩;refine rn 8 ?_;exact⟨by rw[turnT,tQ qK];rfl,hF.same⟩
end Go.Scarf
namespace Go.Scarf
open List renaming length->aL
open Go.RowKit Go.Proofs Go.Proofs.Tryz
variable {b it t:Nat}{kt:TypeId}{e:Bool}{x:Operand}{v:Value}{seen:Array Nat}
def nkeys_c(k:Int)(t:Str)(ks:List Str)(xs:List Tree)(A D:Option Addr)(c e:Nat)(w0:World)(B pb:Nat)(ls:List Str)(fs:List Int)(hT:Tb w0 B pb ls fs)(hG:Gl w0)(hpN:8<=pb)(hlf:aL ls=aL fs)(ih:∀x∈xs,LW x)(hns:∀x∈xs,Zb nodeB x=true)(hsz:Oa xs<=1000000000)(hm:Xf xs<=1073741824)(hkx:aL ks=aL xs)(hkm:∀s∈ks,aL s<=1073741824)(k0 k1:Nat)(h0:w0.heap[k0]? = some (.cells #[J k,I t,.slice A (aL ks) c,.slice D (aL xs) e] 25))(hp:w0.heap[k1]? = some (.cells #[V pb] 278))(hne0:k0≠pb)(hne1:k1≠pb)(hX0:Rep (λb=>b∉Wk2 w0 B pb) w0 (.slice (Mb xs)) [.slice D (aL xs) e])(hK0:Rep (λb=>b∉Wk2 w0 B pb) w0 (Wa ks) [.slice A (aL ks) c])(hlen:aL ls+aL (Xd xs ks)<=512):Calls prog 241 #[V k0,V k1] w0 (Qb λv w'=>v=.tuple #[]/\Tb w' B pb (ls++Xd xs ks) (fs++Ei xs ks (aL ls))/\Same (Wk2 w0 B pb) w0 w'):=by
 have hX:=hX0.toS0;have hKs:=hK0.toS0;have hXl:=hX.slice_len;have hKl:=hKs.slice_len;have hxn:=Vd xs;refine Wb func241 ntmps241 O O ?_;have hB:=TW.start hT;have hF:=FR.start w0<|Wk2 w0 B pb;refine rn 3<|Da (v:=.slice D (aL xs) e) (Ma isAgg23<|Ra h0 3) ?_;refine rn 5<|Za (λμ σ w=>∃(j:Nat),μ=aL xs-j/\(j<=aL xs)/\(TW w0 (Wk2 w0 B pb) w B pb (ls++Xd (xs.take j) ks)<|fs++Ei (xs.take j) ks (aL ls))/\(Rep (S0 w0<|Wk2 w0 B pb) w (.slice<|Mb xs) [.slice D (aL xs) e])/\(Rep (S0 w0<|Wk2 w0 B pb) w (Wa ks) [.slice A (aL ks) c])/\(w.heap[k1]? = some (.cells #[V pb] 278))/\(w.heap[k0]? = some (.cells #[J k,I t,.slice A (aL ks) c,.slice D (aL xs) e] 25))/\AllEq σ [(0,V k0),(1,V k1),(5,.slice D (aL xs) e),(6,J<|(aL xs:Nat)),(7,J<|(j:Int))]/\FR w0 (Wk2 w0 B pb) [] w) _ ⟨0,O,bZ _,by simpa[Xd,Ei]using hB,hX,hKs,hp,h0,Gc,hF⟩ ?_;rintro μ σ w ⟨j,rfl,hj,hB,hX,hKs,hp,hv,hzz,hF⟩;refine Gh hzz 7 ⟨λhc0=>?_,λhc0=>?_⟩;refine rn 7 ?_;obtain⟨ad0,cs0,hA0,hl0,hk0,hx0⟩:=hX.tree_elem (i:=j) fX;have ho0:=hx0.one_;have hxe:=hx0;refine Da (v:=.pointer<|some<|ad0.add<|j*4) (Ea (i:=(j:Int)) Wc hA0)<|Da (v:=.agg<|List.toArray cs0) (Qa (l:=cs0) nZ rZ O hl0 hk0) ?_;refine rn 1 ?_;intro b1 w hb1 hF hE;have hnb1:b1≠pb:=by have:=hB.lt;omega
 have hgb1:w0.heap.size<=b1:=by have:=hB.ge;omega
 have hkb1:k0≠b1/\k1≠b1:=⟨by have:=Ga hv;omega,by have:=Ga hp;omega⟩;have hrb1:Oo w b1=false:=(Un<|hF.heap (i:=0) rfl).trans rfl;have hB:=hB.ext hE;have hX:=hX.ext hE;have hKs:=hKs.ext hE;have hxe:=hxe.ext hE;have hp:=Oc hp hE;have hv:=Oc hv hE;refine rn 1 ?_;refine Cd 0 (l:=cs0) (cs':=(List.toArray cs0)) hF jB O (v:=.agg<|List.toArray cs0) O O (ho0) O (by rw[hl0];exact Nat.le_of_ble_eq_true O) (Vg bB) ?_;intro w hF hE;have hB:=hB.step hE (by simpa using λe=>hnb1 e.symm) (by intro z hz;obtain rfl:=pQ.1 hz;exact hrb1) (by intro z hz;obtain rfl:=pQ.1 hz;exact (Un<|hF.heap (i:=0) rfl).trans rfl);have hX:=hX.same hE (λz hz hs=>by obtain rfl:=pQ.1 hz;have:=hs.1;omega);have hKs:=hKs.same hE (λz hz hs=>by obtain rfl:=pQ.1 hz;have:=hs.1;omega);have hxe:=hxe.same hE (λz hz hs=>by obtain rfl:=pQ.1 hz;have:=hs.1;omega);have hp:=(hE.block k1 (Ga hp) (aS hkb1.2)).trans hp;have hv:=(hE.block k0 (Ga hv) (aS hkb1.1)).trans hv;refine rn 2 ?_;obtain⟨adk,hAk,-⟩:=hKs.str_elem (i:=j) fX;have hkl:=hkm ks[j] (eQ _);refine Vb (.of []) (bQ [0,1,2,3,4,5,9]<|.act 6<|.act 7<|.free 8<|.act 10 .nil) hF ?_;intro w hF hE;have hB:=hB.ext hE;have hX:=hX.ext hE;have hKs:=hKs.ext hE;have hxe:=hxe.ext hE;have hp:=Oc hp hE;have hv:=Oc hv hE;refine⟨λwq=>FR w0 (Wk2 w0 B pb) _ wq/\wq.heap[k1]? = some (.cells #[V pb] 278)/\wq.heap[k0]? = some (.cells #[J k,I t,.slice A (aL ks) c,.slice D (aL xs) e] 25)/\Rep (S0 w0<|Wk2 w0 B pb) wq (Wa ks) [.slice A (aL ks) c],⟨hF,⟨hp,hv,hKs⟩⟩,?_⟩;refine Fa O (v:=V pb) (λw hC=>Ma isAgg278<|Ra hC.2.1 0)<|rn 1 ?_;refine Fa O (v:=.slice A (aL ks) c) (λw hC=>Ma mZ<|Ra hC.2.2.1 2)<|rn 1 ?_;refine Fa O (v:=.pointer<|some<|adk.add<|j*1) (λw hC=>Ea (i:=((j:Nat):Int)) Hd hAk)<|Fa O (v:=I<|ks[j]) (λw hC=>Ma qZ<|str_at hC.2.2.2 hAk fX)<|Fa O (v:=.func (.func 244) #[] #[V k1,V b1]) (λw hC=>Ui) ?_
 refine Me (of_c ks[j] _) ?_;rintro _ w ⟨rfl,hE⟩;have hF:=hF.ext hE;have hB:=hB.ext hE;have hX:=hX.ext hE;have hKs:=hKs.ext hE;have hxe:=hxe.ext hE;have hp:=Oc hp hE;have hv:=Oc hv hE;refine⟨⟨hF,⟨hp,hv,hKs⟩⟩,?_⟩;refine Me (IS (.node 4 ks[j] [] []) (λ_=>True) _ [J 4,I<|ks[j],aQ,aQ] (flatR fX) (hG.wrote2 hF.same bV hpN) (by simp[Ja,Oa]) (by rw[Bz];omega)) ?_;rintro _ w ⟨rfl,hE⟩;have hF:=hF.ext hE;have hB:=hB.ext hE;have hX:=hX.ext hE;have hKs:=hKs.ext hE;have hxe:=hxe.ext hE;have hp:=Oc hp hE;have hv:=Oc hv hE;refine⟨⟨hF,⟨hp,hv,hKs⟩⟩,?_⟩;refine Fa O (v:=I<|RM ks[j]) (λw hC=>by rw[<-cat_keyL _];exact Xq O O (by have:=Oz (.node 4 ks[j] [] []) (by rw[Bz];omega);simp only[kQ,aZ];omega)) ?_;have hlb1:=W9 xs ks<|j+1;rw[Qv xs ks j fX fX,dQ,dQ,List.length_singleton]at hlb1;have hlb2:aL (ls++Xd (xs.take j) ks)=aL ls+aL (Xd (xs.take j) ks):=dQ;refine Me (ZP w B pb 244 #[V k1,V b1] en_244 (ls++Xd (xs.take j) ks) _ (fs++Ei (xs.take j) ks (aL ls)) _ (RM ks[j]) hB.tb (nkid_c xs[j] (ih _<|eQ _) w B pb (ls++Xd (xs.take j) ks) (fs++Ei (xs.take j) ks (aL ls)) hB.tb (hG.wrote2 hF.same bV hpN) hpN (by rw[dQ,dQ,Fr];omega) k1 b1 _ hp (hF.heap (i:=0) O) (hxe.toOff hB) (hns _<|eQ _) zY (by have:=Nd<|List.getElem_mem (l:=xs) (n:=j) fX;omega) fX) bN (by rw[dQ,As,dQ,Fr];omega)) ?_;rintro _ w ⟨rfl,hT2,hE⟩;have hX:=hX.offS hB hE;have hKs:=hKs.offS hB hE;have hp:=D9 hp rfl hne1 hE;have hv:=D9 hv rfl hne0 hE;have hF:=hF.wrote2 hB hE wU;have hB:=hB.wrote hT2 hE;refine⟨⟨hF,⟨hp,hv,hKs⟩⟩,?_⟩;refine rn 4<|Tc (Le<|((j+1:Nat):Int)) ?_
 refine rn 2 ?_;refine Va ⟨_,?_,j+1,O,fX,(by rw[Qv xs ks j fX fX,D5 xs ks j fX fX];simp only[<-sQ];rw[show (aL ls)+aL (Xd (xs.take j) ks)=aL (ls++Xd (xs.take j) ks) from dQ.symm];exact hB),hX,hKs,hp,hv,Gc,hF.su⟩;omega;refine rn 2 ?_;obtain rfl:j=aL xs:=by_Om
 rw[List.take_length]at hB;exact⟨O,hB.tb,hF.same⟩
open Go.RowKit
abbrev MapI:=List (Int × Value)
def E1(x:(Int × Value) × Nat):MapEntry:=⟨J x.1.1,x.1.2,x.2⟩
def Bc(l:MapI)(n:Nat):List MapEntry:=(l.zipIdx n).map E1
def Bk(l:MapI):Obj:=.map (Bc l 0).toArray (aL l)
def LR(l:MapI)(k:Int):Option Value:=(l.find? (λx=>decide (x.1=k))).map (·.2)
theorem O3(k:Int):∀(l:MapI)(n i:Nat),Instr.findNow (.int .i64) (J k) (Bc l n) i=some ((l.findIdx? (λx=>decide (x.1=k))).bind λj=>(l[j]?).map λx=>(i+j,x.2))
  | [],n,i=>by simp[Bc,Instr.findNow]
  | x :: l, n, i => by
    have ih:=O3 k l (n+1)<|i+1;unfold Bc at ih ⊢;rw[List.zipIdx_cons,iZ,Instr.findNow,List.findIdx?_cons];have hs:Instr.sameNow (.int .i64) (J k) (E1 (x,n)).key=some (decide (x.1=k)):=by
      simp only[E1,Instr.sameNow,if_true]
      congr 1
      by_cases h:k=x.1
      ·simp[h]
      simp[h,show ¬x.1=k from λe=>h e.symm]
    rw[hs];by_cases h:x.1=k
    ·simp[h,E1]
    simp only[h, decide_false, Bool.false_eq_true, if_false];rw[ih];cases hf:List.findIdx? (λx=>decide (x.1=k)) l with
    | none=>simp
    | some j=>simp;congr 1;funext y;congr 1;omega
def VW(l:MapI)(k:Int):((l.findIdx? (λx=>decide (x.1=k))).bind λj=>l[j]?)=l.find? (λx=>decide (x.1=k)):=by
  induction l with
  | nil=>rfl
  | cons x l ih =>
    rw[List.findIdx?_cons,List.find?_cons];by_cases h:x.1=k
    ·simp[h]
    simp only[h, decide_false, Bool.false_eq_true, if_false];rw[<-ih];cases List.findIdx? (λx=>decide (x.1=k)) l <;> simp
section
variable {P:Program}{R:Exit->Act->World->Prop}{n:Nat}{k:Kt}{s:Nat->Value}{w:World}{ops rest:List Oper}
variable {d:Nat}{ty:TypeId}{pos:String}{aft:Array Edge}{g:Option (Nat × Bool)}
variable {w0:World}{Ds:List Nat}{bs_:List (Nat × Obj)}{ρ:Operand->Value}{dst:Option Nat}
def M2{l:MapI}(h:w.heap[b]? = some (Bk l)):(getObj b).run P w=.ok (.map (Bc l 0).toArray (aL l)) w:=by simp[getObj,Sem.run,h,Bk]
def Y5(m:Nat){x:Int}(hk:P.underlying kt=some (.int .i64)):(Instr.checkKey e (m+1) kt (J x)).run P w=.ok () w:=by simp[Instr.checkKey,run_underlying hk]
def Hv{x:Int}(hk:P.underlying kt=some (.int .i64)):(Instr.checkKey e 10000 kt (J x)).run P w=.ok () w:=Y5 9999 hk
def Px{l:MapI}{x:Int}(hk:P.underlying kt=some (.int .i64)) :
    (Instr.findKey kt (J x) (Bc l 0)).run P w=.ok ((l.findIdx? (λy=>decide (y.1=x))).bind λj=>(l[j]?).map λy=>(j,y.2)) w:=by
  simp only[Instr.findKey,Sem.run_bind,run_underlying hk,Result.andThen_ok,O3,Nat.zero_add];rfl
theorem J7(l:MapI)(x:Int):((l.findIdx? (λy=>decide (y.1=x))).bind λj=>(l[j]?).map λy=>(j,y.2)).map (·.2)=LR l x:=by
  unfold LR;rw[<-VW];cases List.findIdx? (λy=>decide (y.1=x)) l with
  | none=>rfl
  | some j=>grind
theorem G_(l:MapI)(x:Int × Value)(n:Nat):Bc (l++[x]) n=Bc l n++[⟨J x.1,x.2,n+aL l⟩]:=by grind [Bc,E1]
def G3{l:MapI}{o:Obj}(h:w.heap[b]? = some (Bk l))(ho:∃es c,o=.map es c):(setObj b o).run P w=.ok () { w with heap:=w.heap.setIfInBounds b o }:=by
  obtain⟨es,c,rfl⟩:=ho;simp[setObj,Sem.run,h,Bk]
def AE{kt e:Nat}{y z:Operand}{l:MapI}{key:Int}(ht:P.underlying t=some (.map kt e))(hk:P.underlying kt=some (.int .i64))
    (hx:ρ x=.map (some b)) (hy:ρ y=J key) (hv:ρ z=v) (hb:w.heap[b]? = some (Bk l)) (hn:LR l key=none) :
    (execOp ρ ⟨dst,.mapUpdate t x y z,ty,pos,aft,g⟩).run P w=.ok .skip { w with heap:=w.heap.setIfInBounds b (Bk (l++[(key,v)])) }:=by
  have h:=J7 l key;rw[hn]at h;have hf:((l.findIdx? λy=>decide (y.1=key)).bind λj=>(l[j]?).map λy=>(j,y.2))=none:=by
    cases hf:((l.findIdx? λy=>decide (y.1=key)).bind λj=>(l[j]?).map λy=>(j,y.2))with
    | none=>rfl
    | some q =>
      rw[hf]at h;cases h
  have ho:Bk (l++[(key,v)])=.map (Bc l 0++[(⟨J key,v,aL l⟩:MapEntry)]).toArray (aL l+1):=by simp[Bk,G_]
  have hs:=G3 (P:=P) (o:=Bk<|l++[(key,v)]) hb ⟨_,_,rfl⟩;rw[ho]at hs ⊢;simp[execOp,Instr.mapUpdate,hx,hy,hv,run_underlying ht,M2 hb,Hv hk,Px hk,hf,hs]
def XY{kt e:Nat}{l:MapI}(ht:P.underlying t=some (.map kt e))(hx:ρ x=.map (some b))(hb:w.heap[b]? = some (Bk l)) :
    (execOp ρ ⟨dst,.range t x,ty,pos,aft,g⟩).run P w=.ok (.value (.pointer (some ⟨w.heap.size,0,none⟩))) (w.alloc (.mapIter (some b) (aL l) #[] (aL l))):=by
  have hr:=run_range_map (P:=P) w t kt e b (Bc l 0).toArray (aL l) ht hb;simp[execOp,hx,hr]
theorem Mv(l:MapI)(n:Nat):(Bc l n).map (·.born)=List.range' n (aL l):=by
  induction l generalizing n with
  | nil=>rfl
  | cons x l ih =>
    have:=ih<|n+1;unfold Bc at this ⊢;rw[List.zipIdx_cons,iZ,iZ,this,kQ,List.range'_succ];rfl
theorem Jj(l:MapI)(n:Nat):aL (Bc l n)=aL l:=by simp[Bc]
theorem Mk(l:MapI)(n i:Nat)(h:i<aL l):(Bc l n)[i]'(by rw[Jj];exact h)=⟨J l[i].1,l[i].2,n+i⟩:=by
  simp[Bc,E1]
theorem F2(l:MapI):∀x∈(Bc l 0).toArray.toList,x.born<aL l:=by
  intro x hx;have:x.born∈(Bc l 0).map (·.born):=qJ
  grind [Mv]
def YU{ty:TypeId}{l:MapI}(hi:w.heap[it]? = some (.mapIter (some b) (aL l) seen (aL l)))(hb:w.heap[b]? = some (Bk l)) :
    ((∀i,i<aL l->seen.contains i=true)/\(Instr.next (V it) false ty).run P w=.ok (.tuple #[.bool false]) w) \/
    ∃(i : Nat)(h : i<aL l)(w' : World), seen.contains i = false /\ (Instr.next (V it) false ty).run P w = .ok (.tuple #[.bool true, J l[i].1, l[i].2]) w' /\
      Same [it] w w'/\w'.heap[it]? = some (.mapIter (some b) (aL l) (seen.push i) (aL l)):=by
  have hb':w.heap[b]? = some (.map (Bc l 0).toArray (aL l)):=hb;simp only[Instr.next,getObj,Sem.run_bind,Sem.run,hi,hb',Result.andThen,next_test_false seen _ _ _ (F2 l)<|gQ _,Bool.false_eq_true,if_false];have hmem:∀x∈(Array.filter (λe=>!seen.contains e.born) (Bc l 0).toArray).toList,x.born<aL l:=λx hx=>F2 l x (by simp at hx ⊢;exact hx.1);generalize hL:Array.filter (λe=>!seen.contains e.born) (Bc l 0).toArray=L at hmem ⊢;have e1:L.filter (λx=>decide (x.born<aL l))=L:=Array.filter_eq_self.2 (λx hx=>by simpa using hmem x (aS hx));have e2:L.filter (λx=>decide (x.born ≥ (aL l)))=#[]:=by
    rw[Array.filter_eq_empty_iff];intro x hx;have:=hmem x (aS hx);simp;omega
  simp only[e1,e2,Array.append_empty];by_cases h0:L.size=0
  ·left
   have:L=#[]:=Array.eq_empty_of_size_eq_zero h0;subst this;refine⟨λi hi'=>?_,by simp[choose,Sem.run,Question.forced]⟩;rw[Array.filter_eq_empty_iff]at hL;have:=hL (⟨J l[i].1,l[i].2,0+i⟩) (by
     rw[<-Mk l 0 i hi'];simp)
   simpa using this
  right;have hne:L.isEmpty=false:=by simp[Array.isEmpty,h0]
  simp only[hne,Bool.false_eq_true,if_false,Array.empty_append,Array.size_map];have hch:∃(j:Nat)(w1:World),j<L.size/\Same [] w w1/\w1.heap=w.heap/\(choose<|Question.mapNext L.size).run P w=.ok j w1:=by
    by_cases hf:L.size<=1
    ·exact⟨0,w,by_Om,Same.refl _ _,O,by simp[choose,Sem.run,Question.forced,hf]⟩
    exact⟨_,w.drew,Nat.mod_lt _ fX,Same.drew w,O,by
      simp only[choose,Sem.run,Question.forced,wQ,hf,if_false,Question.cut];rfl⟩
  obtain⟨j,w1,hj,hs,hh,hrun⟩:=hch;have hjm:L[j]∈Array.filter (λe=>!seen.contains e.born) (Bc l 0).toArray:=by rw[hL];simp
  have hjm':=Array.mem_filter.1 hjm;have hje:L[j]∈Bc l 0:=aS hjm'.1
  obtain⟨i,hi',he⟩:=List.getElem_of_mem hje;rw[Jj]at hi';rw[Mk l 0 i hi',Nat.zero_add]at he;have hns:seen.contains i=false:=by
    have:=hjm'.2;rw[<-he]at this;simpa using this
  have hset:(setObj it<|.mapIter (some b) (aL l) (seen.push i) (aL l)).run P w1=.ok () { w1 with heap:=w1.heap.setIfInBounds it (.mapIter (some b) (aL l) (seen.push i) (aL l)) }:=by
    simp[setObj,Sem.run,hh,hi]
  refine⟨i,hi',{ w1 with heap:=w1.heap.setIfInBounds it (.mapIter (some b) (aL l) (seen.push i) (aL l)) },hns,?_,(hs.mono Ca).trans (Ok w1 it _),?_⟩
  ·simp only[hrun, Array.getElem?_map, Array.getElem?_eq_getElem hj, Option.map_some, Sem.run_bind, <- he, hset, Result.andThen]
   rfl
  have hlt := Ga hi;simp[hh,hlt]
theorem FP{i:Nat}{l:MapI}(h:i<aL l)(hi:w.heap[it]? = some (.mapIter (some b) (aL l) (seen.push i) (aL l)))(hb:w.heap[b]? = some (Bk l)) :
    (Instr.entry (V it)).run P w=.ok (.tuple #[J l[i].1,l[i].2]) w:=by
  have hb':w.heap[b]? = some (.map (Bc l 0).toArray (aL l)):=hb;have hn:((Bc l 0).map (·.born)).Nodup:=by grind [Mv]
  have hm:(⟨J l[i].1,l[i].2,0+i⟩:MapEntry)∈Bc l 0:=by rw[<-Mk l 0 i h];simp
  have hf:(Bc l 0).toArray.find? (·.born==i)=some ⟨J l[i].1,l[i].2,0+i⟩:=by
    have:=find_born _ _ hn hm;grind
  simp only[Instr.entry,getObj,Sem.run_bind,Sem.run,hi,hb',Result.andThen,Array.back?_push,bne_self_eq_false,Bool.false_eq_true,if_false,hf];rfl
def o_nextJ(i:Nat){l:MapI}(hF:FR w0 Ds bs_ w)(hx:ev n s x=V it)(hi:bs_[i]? = some (it,.mapIter (some b) (aL l) seen (aL l)))(hb:w.heap[b]? = some (Bk l))
    (hend:(∀i,i<aL l->seen.contains i=true)->Og P R n ops k rest (Lc s d (.tuple #[.bool false])) w)
    (hnext:∀j w' (h:j<aL l),seen.contains j=false->FR w0 Ds (bs_.set i (it,.mapIter (some b) (aL l) (seen.push j) (aL l))) w'->Same [it] w w'->w'.heap[b]? = some (Bk l) ->
      Og P R n ops k rest (Lc s d (.tuple #[.bool true,J l[j].1,l[j].2])) w')
    (hw:Ka ops n s ⟨some d,.next x false,ty,pos,aft,g⟩=true:=by rfl):Og P R n ops k (⟨some d,.next x false,ty,pos,aft,g⟩::rest) s w:=by
  have hit:=hF.heap hi;have hbit:b≠it:=by
    rintro rfl;rw[hb]at hit;injection hit with hit
    cases hit
  rcases YU (P:=P) (ty:=ty) hit hb with ⟨hall,hr⟩|⟨j,hj,w',hn,hr,hs,hh⟩
  ·refine Da (v := .tuple #[.bool false]) (w' := w) ?_ (hend hall) hw
   simp[execOp,hx,hr]
  refine Da (v := .tuple #[.bool true, J l[j].1, l[j].2]) (w' := w') ?_ (hnext j w' hj hn (hF.change i hi hs hh) hs<|(hs.block b (Ga hb) (aS hbit)).trans hb) hw;simp[execOp,hx,hr]
def x_entryJ{j:Nat}{l:MapI}(hx:ρ x=V it)(h:j<aL l)(hi:w.heap[it]? = some (.mapIter (some b) (aL l) (seen.push j) (aL l)))(hb:w.heap[b]? = some (Bk l))(hv:l[j].2=v) :
    (execOp ρ ⟨dst,.entry x,ty,pos,aft,g⟩).run P w=.ok (.value (.tuple #[J l[j].1,v])) w:=by
  subst hv;simp[execOp,hx,FP h hi hb]
end
end Go.Scarf
namespace Go.Scarf
open List renaming length->aL
variable {b e i j kt t v:Nat}{fs:List Int}{x y z:Operand}
abbrev LN:=List (Int × Nat)
def EK(l:LN)(k:Int)(v:Nat):LN:=match l.findIdx? (λx=>decide (x.1=k))with
  | some i=>l.set i (k,v)
  | none=>l++[(k,v)]
def Yo(l:LN):MapI:=l.map λx=>(x.1,Value.int .i64 (x.2:Int))
theorem X4(l:LN):aL (Yo l)=aL l:=by simp[Yo]
def LastOk(fs:List Int)(j:Nat)(l:LN):Prop:=(l.map (·.1)).Nodup/\∀k v,(k,v)∈l↔v<j/\fs.getD v 0=k/\∀i,v<i->i<j->fs.getD i 0≠k
def LastOk.nil(fs:List Int):LastOk fs 0 []:=⟨Ca,λk v=>by simp⟩
theorem EX{l:LN}{k:Int}(h:l.findIdx? (λx=>decide (x.1=k))=none):∀v,(k,v)∉l:=λv hv=>by
  grind
theorem RA{l:LN}{k:Int}(h:l.findIdx? (λx=>decide (x.1=k))=some i):∃hi:i<aL l,l[i].1=k:=by
  rw[List.findIdx?_eq_some_iff_getElem]at h;grind
theorem AG{l:LN}(hn:(l.map (·.1)).Nodup)(hi:i<aL l)(hj:j<aL l)(h:l[i].1=l[j].1):i=j:=by
  have hp:=List.pairwise_iff_getElem.1 hn;grind
theorem LastOk.step{l:LN}(h:LastOk fs j l):LastOk fs (j+1) (EK l (fs.getD j 0) j):=by
  obtain⟨hn,hm⟩:=h;unfold EK;cases hf:l.findIdx? (λx=>decide (x.1=fs.getD j 0))with
  | none =>
    have hno:=EX hf;refine⟨?_,λk v=>?_⟩
    all_goals grind
  | some i =>
    obtain⟨hi,hik⟩:=RA hf;have hmem:∀k v,(k,v)∈l.set i (fs.getD j 0,j)↔(k=fs.getD j 0/\v=j)\/((k,v)∈l/\k≠fs.getD j 0):=λk v=>by
      rw[List.mem_iff_getElem];constructor
      ·rintro⟨q, hq, he⟩
       rw[List.length_set]at hq;by_cases e:i=q
       ·subst e
        rw[List.getElem_set_self]at he;obtain⟨rfl,rfl⟩:=Prod.mk.inj he;exact .inl ⟨O,O⟩
       rw[List.getElem_set_ne e]at he;refine .inr ⟨by rw[<-he];exact eQ _,λe2=>e ?_⟩;refine AG hn hi hq ?_;rw[hik,he];exact e2.symm
      rintro (⟨rfl, rfl⟩|⟨h1, h2⟩)
      ·exact⟨i,by rw[List.length_set];exact hi,List.getElem_set_self _⟩
      obtain⟨q, hq, he⟩ := List.mem_iff_getElem.1 h1;have e:i≠q:=λe=>by subst e;rw[he]at hik;exact h2 hik
      exact⟨q,by rw[List.length_set];exact hq,by rw[List.getElem_set_ne e];exact he⟩
    refine⟨?_,λk v=>?_⟩
    ·have e:(l.set i (fs.getD j 0,j)).map (·.1)=l.map (·.1):=by
       rw[List.map_set];show (l.map (·.1)).set i (fs.getD j 0)=_;rw[<-hik];have:(l.map (·.1))[i]'(aS hi)=l[i].1:=Ca
       rw[<-this];exact List.set_getElem_self _
     grind
    grind
theorem J3{α:Type}[DecidableEq α]{a b:List α}(ha:a.Nodup)(hb:b.Nodup)(h:∀x,x∈a↔x∈b):a.Perm b:=qJ
theorem LastOk.perm{l:LN}(h:LastOk fs (aL fs) l):(l.map (·.2)).Perm (Pb fs):=by
  obtain⟨hn,hm⟩:=h;refine J3 ?_ ((Su fs).imp λh=>by omega) λv=>?_
  ·refine List.pairwise_iff_getElem.2 λi j hi hj hij e => ?_
   grind [AG]
  rw[Lg];constructor
  ·grind
  rintro⟨h1, h2⟩;simp_all
theorem WJ{vs:List Nat}(h:vs.Perm (Pb fs)):(vs.map λi:Nat=>(i:Int)).mergeSort (λx y=>decide (x<=y))=(Pb fs).map λi:Nat=>(i:Int):=by
  have hp:((vs.map λi:Nat=>(i:Int)).mergeSort (λx y=>decide (x<=y))).Perm ((Pb fs).map λi:Nat=>(i:Int)):=(List.mergeSort_perm _ _).trans (h.map _);refine hp.eq_of_pairwise (le:=λx y=>x<=y) (λa b _ _ h1 h2=>by omega) ?_ ?_
  ·have := List.pairwise_mergeSort (le := λ(x y : Int) => decide (x <= y)) (λa b c h1 h2 => by simp only[wQ]at *;omega) (λa b => by simp only[Bool.or_eq_true, wQ];omega) (vs.map λi : Nat => (i : Int))
   grind
  grind [Su]
theorem JT{l:LN}{seen:List Nat}(hn:seen.Nodup)(hl:∀i∈seen,i<aL l)(ha:∀i,i<aL l->i∈seen):(seen.map λi=>(l.getD i (0,0)).2).Perm (l.map (·.2)):=by
  have hp:seen.Perm (List.range (aL l)):=qJ
  refine (hp.map _).trans ?_;have e:(List.range (aL l)).map (λi=>(l.getD i (0,0)).2)=l.map (·.2):=by
    apply List.ext_getElem Ca;grind
  rw[e]
open Go.RowKit
section
variable {P:Program}{R:Exit->Act->World->Prop}{n:Nat}{k:Kt}{s:Nat->Value}{w:World}{ops rest:List Oper}
variable {d:Nat}{ty:TypeId}{pos:String}{aft:Array Edge}{g:Option (Nat × Bool)}
variable {w0:World}{Ds:List Nat}{bs_:List (Nat × Obj)}{ρ:Operand->Value}{dst:Option Nat}
def SI(ht:P.underlying t=some (.map kt e)) :
    (execOp ρ ⟨dst,.makeMap t none,ty,pos,aft,g⟩).run P w=.ok (.value (.map (some w.heap.size))) (w.alloc (Bk [])):=by simp[execOp,Instr.makeMap,run_underlying ht,newObj,Sem.run,Bk,Bc]
theorem JD(l:LN){key:Int}(hi:i<aL l) :
    ((Bc (Yo l) 0).toArray.modify i λe=>{ e with key:=J key,val:=J (v:Int) })=(Bc (Yo (l.set i (key,v))) 0).toArray:=by grind [Jj,Yo,X4,Mk]
def ZJ(l:LN)(key:Int):(Yo l).findIdx? (λy=>decide (y.1=key))=l.findIdx? (λx=>decide (x.1=key)):=by
  unfold Yo;rw[List.findIdx?_map];rfl
theorem x_mapUpd{l:LN}{key:Int}(ht:P.underlying t=some (.map kt e))(hk:P.underlying kt=some (.int .i64))
    (hx:ρ x=.map (some b)) (hy:ρ y=J key) (hv:ρ z=J (v:Int)) (hb:w.heap[b]? = some (Bk (Yo l))) :
    (execOp ρ ⟨dst,.mapUpdate t x y z,ty,pos,aft,g⟩).run P w=.ok .skip { w with heap:=w.heap.setIfInBounds b (Bk (Yo (EK l key v))) }:=by
  unfold EK;cases hf:l.findIdx? (λx=>decide (x.1=key))with
  | none =>
    have hn:LR (Yo l) key=none:=by
      rw[<-J7,ZJ,hf];rfl
    have:=AE (dst:=dst) (ty:=ty) (pos:=pos) (aft:=aft) (g:=g) ht hk hx hy hv hb hn;grind [Yo]
  | some i =>
    obtain⟨hi,hik⟩:=RA hf;have hfk:((Yo l).findIdx? (λy=>decide (y.1=key))).bind (λj=>((Yo l)[j]?).map λy=>(j,y.2))=some (i,J (l[i].2:Int)):=by
      rw[ZJ,hf];simp[Yo,hi]
    have hs:=G3 (P:=P) (o:=Bk<|Yo<|l.set i (key,v)) hb ⟨_,_,rfl⟩;have ho:Bk (Yo<|l.set i (key,v))=.map ((Bc (Yo l) 0).toArray.modify i λe=>{ e with key:=J key,val:=J (v:Int) }) (aL (Yo l)):=by
      rw[JD l hi,Bk];simp[Yo]
    rw[ho]at hs ⊢;have hes:(((Bc (Yo l) 0).toArray[i]?).map (·.key)).getD (J key)=J key:=by grind [Mk,Yo,X4,Jj]
    have hkt:(Instr.keyThatStays (J key)<|J key).run P w=.ok (J key) w:=by simp[Instr.keyThatStays,Instr.sameBits]
    simp only[execOp,Instr.mapUpdate,hx,hy,hv,Sem.run_bind,run_underlying ht,M2 hb,Hv hk,Px hk,Result.andThen,hfk,hes,hkt,hs];rfl
def o_mapUpd(i:Nat){l:LN}{key:Int}(hF:FR w0 Ds bs_ w)(ht:P.underlying t=some (.map kt e))(hk:P.underlying kt=some (.int .i64))
    (hx:ev n s x=.map (some b)) (hy:ev n s y=J key) (hv:ev n s z=J (v:Int)) (hi:bs_[i]? = some (b,Bk (Yo l)))
    (h:∀w',FR w0 Ds (bs_.set i (b,Bk (Yo (EK l key v)))) w'->Same [b] w w'->Og P R n ops k rest s w')
    (hw:Ka ops n s ⟨none,.mapUpdate t x y z,ty,pos,aft,g⟩=true:=by rfl):Og P R n ops k (⟨none,.mapUpdate t x y z,ty,pos,aft,g⟩::rest) s w :=
  Nt (x_mapUpd ht hk hx hy hv<|hF.heap hi) (h _ (hF.setObj i hi)<|Ok w b _) hw
end
end Go.Scarf
