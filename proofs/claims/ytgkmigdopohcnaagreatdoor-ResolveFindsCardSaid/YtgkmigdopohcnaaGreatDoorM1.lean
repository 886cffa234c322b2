/- A part of the proof. -/
import Derived.Test.YtgkmigdopohcnaaGreatDoorRow6
set_option linter.all false
set_option maxHeartbeats 8000000
set_option maxRecDepth 10000
namespace Go.Scarf
open Go.RowKit Go.Proofs Go.Proofs.Tryz
theorem VZ(x:Tv)(w0:World):Calls prog 117 #[.agg (x.cells).toArray] w0 (Pc λv w'=>v=.agg #[.bool true,J (x.k),I (x.t),.slice x.A x.n x.c,.slice x.B x.m x.e]/\Same [] w0 w'):=by
 refine Ea func117 O ntmps117 Db (Rb _) ?_;have hF:=FR.start w0 [];refine Da (Le hF O ?_);rintro b1 w hb1 hF -;refine Jc (cs:=#[.bool false,J 0,I [],aQ,aQ]) hF lX O ?_;rintro b2 w hb2 hF -;refine Qb (Tb (He aZ mZ O hF.F 1 O O) ?_);refine Ja (w':=w) (v:=.agg #[.bool true,J (x.k),I (x.t),.slice x.A x.n x.c,.slice x.B x.m x.e]) Ib (Xd hF nZ O O Qg ?_);rintro w hF -;refine Ca (Ab (Za (Ka (Uh O (l:=[.bool true,J (x.k),I (x.t),.slice x.A x.n x.c,.slice x.B x.m x.e]) O bZ nZ O (hF.cellsAll 0 O)) ?_)));exact⟨O,hF.same⟩
structure SdOk (s:Sd):Prop where
  sz:Mb s.val<=1000000000
  ok:Co s.val
theorem noS_ok:SdOk noS:=⟨by simp[noS,zeroT,Mb,Vb],by simp[noS,zeroT,Co,Iz]⟩
theorem H4(s:Sd)(x:Sv)(S:Nat->Prop)(w0:World)(hX:Rep S w0 (Od s) x.cells)(hs:SdOk s)(hG:Gl w0):Calls prog 168 #[.agg x.cells.toArray] w0 (Pc λv w'=>∃y:Sv,v=.agg y.cells.toArray/\Rep (Btw w0 w') w' (Od (Th s)) y.cells/\Same [] w0 w'):=by
 have hx:=Dd hX;refine Ea func168 O ntmps168 Db (Rb _) ?_;have hF:=FR.start w0 [];refine Da (Le hF O ?_);rintro b1 w hb1 hF -;refine Jc (cs:=#[.bool false,J 0,I [],aQ,aQ]) hF lX O ?_;rintro b2 w hb2 hF -;refine Ca (Fa (Da (Aa (Ob Ni O) (Tb (D6 eZ O hF.F 1 O O) (Aa (Oh O) (Ca ?_))))));refine Fe O O (λhc0=>?_) (λhc0=>?_);have h0:s.has=false:=by rw[<-hx.1];simpa using hc0
 refine Da (Ja (w':=w) (v:=.agg #[.bool false,J 0,I [],aQ,aQ]) Ib ?_);refine Xd hF nZ O O Qg ?_;rintro w hF -;refine Ca (Ab (Za (Ka (Uh O (l:=[.bool false,J 0,I [],aQ,aQ]) O bZ nZ O (hF.cellsAll 0 O)) ?_)));have e:Th s=noS:=by rw[Th,if_neg (by rw[h0];decide)]
 rw[e];exact⟨⟨false,O5⟩,O,Tm,hF.same⟩;have h0:s.has=true:=by rw[<-hx.1];simpa using hc0
 refine Na (Ga (Da (Aa (Ob Xe O) (Ja (v:=.agg (x.v.cells).toArray) (Xa (l:=x.v.cells) aZ mZ O O (hF.part 1 1 O O)) ?_))));refine Ya (SJ s.val hs.sz _ _ x.v.cells (hF.rep hx.2.2.2.2) hs.ok (hG.ext hF.same)) (Ma LZ O O) ?_;rintro _ w ⟨ct,rfl,hRt,hE⟩;obtain⟨q,rfl,-⟩:=Di hRt;have hYX:=RX.made (ids:=[b2,b1]) hF.same.size (λx hx=>hF.lt_ids (by grind)) hRt;have hF:=hF.ext hE;clear hE hRt;refine Ya (VZ q _) (Ma CP O O) ?_;rintro _ w ⟨rfl,hE⟩;have hF:=hF.ext hE;have hYX:=hYX.ext hE;refine Xd hF nZ O O Qg ?_;intro w hF hE;have hYX:=hYX.store hE (by grind);refine Ca (Ab (Za (Ka (Uh O (l:=[.bool true,J (q.k),I (q.t),.slice q.A q.n q.c,.slice q.B q.m q.e]) O bZ nZ O (hF.cellsAll 0 O)) ?_)));have e:Th s=⟨true,Ms s.val⟩:=by rw[Th,if_pos h0]
 rw[e]
 ·exact⟨⟨true,q⟩,O,F3 (s:=⟨true,Ms s.val⟩) hYX.done,hF.same⟩
open Go.RowKit
def H0(l:MapL)(k:Str)(v:Value):MapL:=match l.findIdx? (λx=>decide (x.1=k))with
  | some i=>l.set i (k,v)
  | none=>l++[(k,v)]
theorem D2{l:MapL}{k:Str}{i:Nat}(h:l.findIdx? (λx=>decide (x.1=k))=some i):∃hi:i<l.length,l[i].1=k:=by
  obtain⟨hi,h1,-⟩:=List.findIdx?_eq_some_iff_getElem.1 h;exact⟨hi,by simpa using h1⟩
theorem Yj(x:Str × Value)(l:MapL)(k:Str):Yf (x::l) k=if x.1=k then some x.2 else Yf l k:=by
  unfold Yf;rw[List.find?_cons];by_cases h:x.1=k <;> simp[h]
theorem W6(v:Value)(k k':Str):∀l:MapL,Yf (H0 l k v) k'=if k=k' then some v else Yf l k'
  | [] => by
    have e:H0 [] k v=[(k,v)]:=rfl;rw[e,Yj]
  | x :: l => by
    have ih:=W6 v k k' l;unfold H0 at ih ⊢;rw[List.findIdx?_cons];by_cases h:x.1=k
    ·simp only[h, decide_true, if_true, List.set_cons_zero]
     rw[Yj,Yj];by_cases h2:k=k'
     ·rw[if_pos h2,if_pos h2]
     rw[if_neg h2,if_neg h2,if_neg (λe=>h2 (h▸e))]
    simp only[h, decide_false, Bool.false_eq_true, if_false];cases hf:l.findIdx? (λx=>decide (x.1=k))with
    | none =>
      rw[hf]at ih;simp only[Option.map_none,List.cons_append]at ih ⊢;rw[Yj,ih,Yj];by_cases h2:x.1=k'
      ·rw[if_pos h2,if_neg (λe=>h (h2.trans e.symm)),if_pos h2]
      rw[if_neg h2,if_neg h2]
    | some i =>
      rw[hf]at ih;simp only[Option.map_some,List.set_cons_succ]at ih ⊢;rw[Yj,ih,Yj];by_cases h2:x.1=k'
      ·rw[if_pos h2,if_neg (λe=>h (h2.trans e.symm)),if_pos h2]
      rw[if_neg h2,if_neg h2]
section
variable {P:Program}{R:Exit->Act->World->Prop}{n:Nat}{k:Kt}{s:Nat->Value}{w:World}{ops rest:List Oper}
variable {d:Nat}{ty:TypeId}{pos:String}{aft:Array Edge}{g:Option (Nat × Bool)}
variable {w0:World}{Ds:List Nat}{bs_:List (Nat × Obj)}{ρ:Operand->Value}{dst:Option Nat}
theorem VB(l:MapL){i:Nat}{v:Value}{key:Str}(hi:i<l.length) :
    ((Zb l 0).toArray.modify i λe=>{ e with key:=I key,val:=v })=(Zb (l.set i (key,v)) 0).toArray:=by
  apply Array.ext
  ·simp[Ng]
  intro q h1 h2;have hq:q<l.length:=by simpa[Ng]using h1
  have hq2:q<(l.set i (key,v)).length:=by rw[List.length_set];exact hq
  have e1:=Fs l 0 q hq;have e2:=Fs (l.set i (key,v)) 0 q hq2;rw[Array.getElem_modify];simp only[List.getElem_toArray,e1,e2];by_cases e:i=q
  ·subst e
   rw[if_pos rfl];simp
  rw[if_neg e];simp[List.getElem_set_ne e]
theorem UL{t kt e b:Nat}{x y z:Operand}{l:MapL}{key:Str}{v:Value}(ht:P.underlying t=some (.map kt e))(hk:P.underlying kt=some .string)
    (hx:ρ x=.map (some b)) (hy:ρ y=I key) (hv:ρ z=v) (hb:w.heap[b]? = some (Xg l)) :
    (execOp ρ ⟨dst,.mapUpdate t x y z,ty,pos,aft,g⟩).run P w=.ok .skip { w with heap:=w.heap.setIfInBounds b (Xg (H0 l key v)) }:=by
  unfold H0;cases hf:l.findIdx? (λx=>decide (x.1=key))with
  | none =>
    have hn:Yf l key=none:=by rw[<-Pt,hf];rfl
    exact Wy ht hk hx hy hv hb hn
  | some i =>
    obtain⟨hi,hik⟩:=D2 hf;have hfk:(l.findIdx? (λy=>decide (y.1=key))).bind (λj=>(l[j]?).map λy=>(j,y.2))=some (i,l[i].2):=by
      rw[hf];simp[hi]
    have hs:=K3 (P:=P) (o:=Xg (l.set i (key,v))) hb ⟨_,_,rfl⟩;have ho:Xg (l.set i (key,v))=.map ((Zb l 0).toArray.modify i λe=>{ e with key:=I key,val:=v }) l.length:=by
      rw[VB l hi,Xg];simp
    rw[ho]at hs ⊢;have hes:(((Zb l 0).toArray[i]?).map (·.key)).getD (I key)=I key:=by
      have e1:=Fs l 0 i hi;rw[List.getElem?_toArray,List.getElem?_eq_getElem (by rw[Ng];exact hi),e1];show Value.string (bs l[i].1)=_;rw[hik]
    have hkt:(Instr.keyThatStays (I key) (I key)).run P w=.ok (I key) w:=by
      simp[Instr.keyThatStays,Instr.sameBits,EK]
    simp only[execOp,Instr.mapUpdate,hx,hy,hv,Sem.run_bind,run_underlying ht,Mn hb,Qm hk,Lo hk,Result.andThen,hfk,hes,hkt,hs];rfl
theorem TM(i:Nat){t kt e b:Nat}{x y z:Operand}{l:MapL}{key:Str}{v:Value}(hF:FR w0 Ds bs_ w)(ht:P.underlying t=some (.map kt e))(hk:P.underlying kt=some .string)
    (hx:ev n s x=.map (some b)) (hy:ev n s y=I key) (hv:ev n s z=v) (hi:bs_[i]? = some (b,Xg l))
    (h:∀w',FR w0 Ds (bs_.set i (b,Xg (H0 l key v))) w'->Same [b] w w'->Og P R n ops k rest s w')
    (hw:Wa ops n s ⟨none,.mapUpdate t x y z,ty,pos,aft,g⟩=true:=by rfl):Og P R n ops k (⟨none,.mapUpdate t x y z,ty,pos,aft,g⟩::rest) s w :=
  E2 (UL ht hk hx hy hv (hF.heap hi)) (h _ (hF.setObj i hi) (Js w b _)) hw
end
structure Nodes where
  lab:Nat->Str
  lf:Nat->Nat
  le:∀x,lf x<=x
def turn(a b:Nodes)(x y:Nat):Nat:=if a.lab x=b.lab y then 0 else 1
def fdF(a b:Nodes):Nat->Nat->Nat->Nat->Nat->Nat
  | 0,i,k,j,l=>(k-i)+(l-j)
  | f + 1, i, k, j, l =>
    if k<=i then l-j else if l<=j then k-i else
      let m:=min (fdF a b f i (k-1) j l) (fdF a b f i k j (l-1))+1
      if i<=a.lf (k-1)/\j<=b.lf (l-1) then min m (fdF a b f i (a.lf (k-1)) j (b.lf (l-1))+fdF a b f (a.lf (k-1)) (k-1) (b.lf (l-1)) (l-1)+turn a b (k-1) (l-1)) else m
def fd(a b:Nodes)(i k j l:Nat):Nat:=fdF a b ((k-i)+(l-j)) i k j l
section
variable {a b:Nodes}{i k j l:Nat}
end
def lfOk(fs:List Int)(n:Nat):Prop:=∀j (h:j<fs.length),j<n->0<=fs[j]/\fs[j]<=(j:Int)/\∀i (hi:i<j),fs[j]<=(i:Int)->fs[j]<=fs[i]' Ba
def lfN(fs:List Int)(x:Nat):Nat:=min (fs.getD x 0).toNat x
theorem lfOk.at{fs:List Int}{n j:Nat}(h:lfOk fs n)(hj:j<fs.length)(hn:j<n):((lfN fs j:Nat):Int)=fs[j]:=by
  obtain⟨h1,h2,-⟩:=h j hj hn;have e:fs.getD j 0=fs[j]:=by simp[List.getD,hj]
  rw[lfN,e];omega
inductive Rts (fs:List Int):Nat->List Nat->Prop
  | nil:Rts fs 0 []
  | snoc {r:Nat} {l:List Nat}:Rts fs (lfN fs r) l->Rts fs (r+1) (l++[r])
theorem Rts.none{fs:List Int}{p:Nat}(h:Rts fs p []):p=0:=by
  generalize e:([]:List Nat)=m at h;cases h with
  | nil=>rfl
  | snoc h1=>simp at e
theorem Rts.len{fs:List Int}{p:Nat}{l:List Nat}(h:Rts fs p l):l.length<=p:=by
  induction h with
  | nil=>simp
  | snoc h1 ih =>
    rename_i r l
    have:lfN fs r<=r:=Nat.min_le_right _ _;simp only[dQ,kQ,List.length_nil];omega
theorem lfOk.snoc{fs:List Int}{j:Nat}(h:lfOk fs j)(hj:j<fs.length)(h0:0<=fs[j])(h1:fs[j]<=(j:Int))(hc:∀z (hz:z<j),fs[j]<=(z:Int)->fs[j]<=fs[z]' Ba):lfOk fs (j+1):=by
  intro i hi hn;by_cases e:i=j
  ·subst e
   exact⟨h0,h1,λz hz hle=>hc z hz hle⟩
  exact h i hi Ba
section
variable {ls gs ks:List Str}{fs hs is:List Int}
end
section
variable {ls gs:List Str}{fs hs:List Int}{r:Str}
end
theorem OY{α:Type}{a b:List α}{j:Nat}(h:∀i (h:i<a.length) (h2:i<b.length),i<j->a[i]=b[i])(hl:a.length=b.length)(hj:a.length<=j):a=b:=List.ext_getElem hl λi h1 h2=>h i h1 h2 Ba
theorem SO{α:Type}{a b:List α}{j:Nat}{h1:j<a.length}{h2:j<b.length}(hq:∀i (h:i<a.length) (h2:i<b.length),i<j->a[i]=b[i])(h:a[j]=b[j]):∀i (h:i<a.length) (h2:i<b.length),i<j+1->a[i]=b[i]:=λi h3 h4 h5=>by
  by_cases e:i=j
  ·subst e;exact h
  exact hq i h3 h4 Ba
theorem ints_c(S S':Nat->Prop)(w0:World)(a b:List Int)(A B:Option Addr)(c e:Nat)(hX:Rep S w0 (.slice (a.map Kh)) [.slice A a.length c])(hY:Rep S' w0 (.slice (b.map Kh)) [.slice B b.length e]):Calls prog 25 #[.slice A a.length c,.slice B b.length e] w0 (Pc λv w'=>v=.bool (decide (a=b))/\Same [] w0 w'):=by
 have hXl:=hX.slice_len;have hYl:=hY.slice_len;rw[rQ]at hXl hYl;refine Ea func25 O ntmps25 Db (Lc _ _) ?_;have hF:=FR.start w0 [];refine Da (Aa (Jb O) (Ca (Fa (Da (Aa (Wd O) (Aa (Ug fX O) (Aa (Wd O) (Aa (Ug fX O) (Aa (Om O O) (Ua ?_))))))))));refine Ga (Pb O O (λhc0=>?_) (λhc0=>?_));refine Da (Aa (Jb O) (Ca ?_));refine Hc (v:=.bool false) O O ?_;exact⟨congrArg Value.bool (decide_eq_false λq=>by subst q;omega).symm,hF.same⟩;refine Na (Ga (Fa (Da (Aa (Lb O) (Ca (Va ?_))))));have hll:a.length=b.length:=by omega
 refine Tc (λμ σ w=>∃(j:Nat),μ=a.length-j/\(j<=a.length)/\(∀i (h:i<a.length) (h2:i<b.length),i<j->a[i]=b[i])/\AllEq σ [(0,.slice A a.length c),(1,.slice B b.length e),(5,J ((j:Int)))]/\FR w0 [] [] w) _ ⟨0,O,Ba,(λi _ _ h=>by omega),O_,hF⟩ ?_;rintro μ σ w ⟨j,rfl,hj,hq,hs,hF⟩;refine Cg.slots hs ?_;clear hs;intro σ;refine Fa (Da (Aa (Gb O) (Aa (Wd O) (Aa (Ug fX O) (Aa (Sl O O) (Ca ?_))))));refine Pb O O (λhc1=>?_) (λhc1=>?_);refine Na (Ga (Fa (Va (Fa ?_))));refine Zc (zs:=.of []) (bQ [0,1,2,3,4,5,6,7,8] .nil) hF ?_;intro w hF;refine Fb O (Wd O) (Fb O (Gb O) ?_);obtain⟨ad0,hA0,hk0,hx0⟩:=hX.int_elem (i:=j) Ba;refine Bb O (v:=.pointer (some (ad0.add (j*1)))) (λw hC=>Sa (i:=(j:Int)) R7 O hA0 O Ba Ba) (Bb O (v:=J (a[j])) (λw hC=>Ad dZ O (hC.cell0 hk0)) (Fb O (Wd O) (Fb O (Gb O) ?_)));obtain⟨ad1,hA1,hk1,hx1⟩:=hY.int_elem (i:=j) Ba;refine Bb O (v:=.pointer (some (ad1.add (j*1)))) (λw hC=>Sa (i:=(j:Int)) R7 O hA1 O Ba Ba) (Bb O (v:=J (b[j])) (λw hC=>Ad dZ O (hC.cell0 hk1)) (Fb O (Om O O) (Ac (Ga ?_))));refine Pb O O (λhc2=>?_) (λhc2=>?_);refine Da (Aa (Jb O) (Ca ?_));refine Hc (v:=.bool false) O O ?_;exact⟨congrArg Value.bool (decide_eq_false λq=>by subst q;exact absurd rfl (by assumption)).symm,hF.same⟩;refine Na (Cb (Ga (Ha (Aa (Gb O) (Aa (Bo (((j+1:Nat):Int)) O O) (Aa (Lb O) (Ua ?_)))))));refine Xb ⟨_,?_,j+1,O,Ba,(SO hq (Classical.not_not.1 (by assumption))),O_,hF⟩;omega;refine Kc (Ec O ?_);refine Ga (Da (Aa (Jb O) (Ca ?_)));refine Hc (v:=.bool true) O O ?_;exact⟨congrArg Value.bool (decide_eq_true (OY hq hll Ba)).symm,hF.same⟩
theorem PG{x:Tree}(h:Gf x=true):Ms x=x:=by rw[Ms,if_pos (Vq h)]
section
variable {P:Program}{w0 w:World}{Ds:List Nat}{pre post sb:List (Nat × Obj)}
end
section
variable {P:Program}{R:Exit->Act->World->Prop}{n:Nat}{kt:Kt}{s:Nat->Value}{w:World}{ops rest:List Oper}
variable {d:Nat}{ty:TypeId}{pos:String}{aft:Array Edge}{g:Option (Nat × Bool)}
variable {w0:World}{Ds:List Nat}{sb:List (Nat × Obj)}
end
end Go.Scarf
