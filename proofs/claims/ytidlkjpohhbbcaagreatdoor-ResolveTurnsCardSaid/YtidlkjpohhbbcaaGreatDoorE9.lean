/- A part of the proof. -/
import Derived.Test.YtidlkjpohhbbcaaGreatDoorE7
import Derived.Test.YtidlkjpohhbbcaaGreatDoorRm
import Derived.Laws.Slices
set_option linter.all false
set_option maxHeartbeats 8000000
set_option maxRecDepth 10000
namespace Go.Scarf
open Go.RowKit Go.Proofs Go.Proofs.Tryz
theorem QS:∀{ks:List Str}{xs:List Tree}{key:Str},key∈ks->∀h:ks.idxOf key<xs.length,Ig ks xs key=some (xs[ks.idxOf key]' h)
  | [],_,_,h,_=>absurd h Oa
  | k::ks,[],key,_,h2=>absurd h2 Oa
  | k :: ks, x :: xs, key, h, h2 => by
    rw[Ig];by_cases he:k=key
    ·have h0 : (k :: ks).idxOf key = 0 := by rw[List.idxOf_cons, he];simp
     rw[if_pos he];simp only[h0,List.getElem_cons_zero]
    have hb : (k==key) = false := by simpa using he
    have h0:(k::ks).idxOf key=ks.idxOf key+1:=by rw[List.idxOf_cons,hb];simp
    have hk:key∈ks:=by
      rcases oQ.1 h with h|h
      ·exact absurd h.symm he
      exact h
    rw[if_neg he,QS hk (by rw[h0]at h2;simpa using h2)];simp only[h0,List.getElem_cons_succ]
theorem at_look{ks:List Str}{xs:List Tree}{key:Str}{q:Nat}(hl:ks.length=xs.length)(h:atZ ks key=(q:Int)):∃hq:q<xs.length,Ig ks xs key=some xs[q]:=by
  unfold atZ at h;by_cases hm:key∈ks
  ·rw[if_pos hm]at h
   have e:ks.idxOf key=q:=by omega
   have hlt:ks.idxOf key<xs.length:=by rw[<-hl];exact List.idxOf_lt_length_iff.2 hm
   have:=QS hm hlt;subst e;exact⟨hlt,this⟩
  rw[if_neg hm]at h;omega
theorem rnum_c(n:Int)(h1:-9223372036854775808<=n)(h2:n<=9223372036854775807)(w0:World):Calls prog 54 #[J n] w0 (Yc λv w'=>v=.agg #[J 3,I (Rg (Kw n)),aQ,aQ]/\Same [] w0 w'):=by
 refine Fa func54 O ntmps54 Ab (Wb _) ?_;have hF:=FR.start w0 [];refine Ea (Pc (cs:=#[J 0,I [],aQ,aQ]) hF oX O ?_);rintro b1 w hb1 hF -;refine Lb (Ba (Za O) ?_);refine Pa hF (rof_c n h1 h2 _) (Ma en_88 O O) ?_;intro w hF;refine Pa hF (ZR (Kw n) (by have:=Ah (Lib.itoa n);unfold Kw;omega) _) (Ma en_87 O O) ?_;intro w hF;refine Ia (w':=w) (v:=.agg #[J 3,I (Rg (Kw n)),aQ,aQ]) Qb (Ge hF nZ O O Pi ?_);rintro w hF -;refine Da (Db (Cb (La (Mg O (l:=[J 3,I (Rg (Kw n)),aQ,aQ]) O aZ nZ O (hF.cellsAll 0 O)) ?_)));exact⟨O,hF.same⟩
theorem Ns:∀a b:Str,Qf a b=decide (Lib.compareBytes a b = -1)
  | [],[]=>rfl
  | [],_::_=>rfl
  | _::_,[]=>rfl
  | c :: a, d :: b => by
    have ih:=Ns a b;unfold Qf at ih ⊢;rw[Op.bytesLess,Lib.compareBytes,ih];by_cases h1:c<d
    ·rw[if_pos h1]
     have:=UInt8.lt_iff_toNat_lt.1 h1;simp[h1]
    rw[if_neg h1];by_cases h2:d<c
    ·rw[if_pos h2]
     have:¬c=d:=λe=>by subst e;exact h1 h2
     simp[h1,this]
    rw[if_neg h2];have h3:c=d:=UInt8.toNat.inj (by have a1:¬c.toNat<d.toNat:=λh=>h1 (UInt8.lt_iff_toNat_lt.2 h);have a2:¬d.toNat<c.toNat:=λh=>h2 (UInt8.lt_iff_toNat_lt.2 h);omega);simp[h3]
theorem RP(a b:Str):Lib.compareBytes a b = -1\/Lib.compareBytes a b=0\/Lib.compareBytes a b=1:=by rcases Wj a b with h|h|h;exact .inr (.inl h);exact .inr (.inr h);exact .inl h
theorem NR(a b:Str)(w0:World):Calls prog 142 #[I a,I b] w0 (Yc λv w'=>v=J (Lib.compareBytes a b)/\Same [] w0 w'):=by
 refine Fa func142 O ntmps142 Ab (Uc _ _) ?_;have hF:=FR.start w0 [];refine Ea (Ba (Fb O) (Da (Ga (Ea (Ba (Ad O) (Ba (Ad O) (Ba (yss O O) (Da ?_))))))));refine Jd O O (λhc0=>?_) (λhc0=>?_);refine Ea (Ba (Fb O) (Da ?_));refine Gc (v:=J ((-1))) O O ?_;exact⟨by rw[of_decide_eq_true ((Ns a b).symm.trans (by assumption))],hF.same⟩;refine Ka (Ha (Ga (Ea (Ba (Ad rfl) (Ba (Ad rfl) (Ia (v:=.bool (!(Qf a b || decide ((a:Str)=b)))) (x_gtrs rfl rfl) (Da ?_)))))));refine Jd O O (λhc1=>?_) (λhc1=>?_);refine Ea (Ba (Fb O) (Da ?_));refine Gc (v:=J 1) O O ?_;have h1:=of_decide_eq_false ((Ns a b).symm.trans (by assumption:Qf a b=false));have h2:¬Lib.compareBytes a b=0:=λe=>by have h3:=((P1 a).eq b trivial).1 e;subst h3;simp_all
 exact⟨by rw[(RP a b).resolve_left h1 |>.resolve_left h2],hF.same⟩;refine Ka (Ha (Ea (Ba (Fb O) (Da ?_))));refine Gc (v:=J 0) O O ?_;have h1:=of_decide_eq_false ((Ns a b).symm.trans (by assumption:Qf a b=false));have h2:(a:Str)=b:=by have hx:=hc1;rw[(by assumption:Qf a b=false),Bool.false_or]at hx;simpa using hx
 exact⟨by rw[((P1 a).eq b trivial).2 h2],hF.same⟩
open Go.RowKit Go.Proofs Go.Maps
theorem Yu(a b:Str):Qf a b=decide (a<b):=bytesLess_eq a b
theorem sortS_pw(ks:List Str):(Bg ks).Pairwise (λa b=>leB a b=true):=by
  have tr:∀a b c:List UInt8,leB a b=true->leB b c=true->leB a c=true:=λa b c h1 h2=>by simp only[leB,decide_eq_true_eq]at *;exact List.le_trans h1 h2
  have tt:∀a b:List UInt8,(leB a b || leB b a)=true:=λa b=>by simp only[leB,Bool.or_eq_true,decide_eq_true_eq];exact List.le_total a b
  exact List.pairwise_mergeSort tr tt ks
theorem JY{a b:Str}(h:Qf a b=false):b<=a:=by
  rw[Yu,decide_eq_false_iff_not]at h;exact List.not_lt.1 h
theorem SZ{ks l:List Str}{j m:Nat}(hp:l.Perm ((Bg ks).drop j))(hm:m<l.length)(hmin:∀q (h:q<l.length),Qf l[q] l[m]=false):∃h:j<(Bg ks).length,l[m]=(Bg ks)[j]:=by
  have hl:=hp.length_eq;have hj:j<(Bg ks).length:=by
    rcases Nat.lt_or_ge j (Bg ks).length with h|h
    ·exact h
    rw[List.drop_eq_nil_of_le h,List.length_nil]at hl;omega
  refine⟨hj,?_⟩;rw[List.drop_eq_getElem_cons hj]at hp;have hpw:((Bg ks).drop j).Pairwise (λa b=>leB a b=true):=(sortS_pw ks).sublist (List.drop_sublist j _);rw[List.drop_eq_getElem_cons hj,List.pairwise_cons]at hpw;have h1:l[m]∈(Bg ks)[j]::(Bg ks).drop (j+1):=hp.mem_iff.1 (eQ hm);have h2:(Bg ks)[j]∈l:=hp.mem_iff.2 List.mem_cons_self;obtain⟨q,hq,e⟩:=List.mem_iff_getElem.1 h2;have h3:=JY (hmin q hq);rw[e]at h3;rcases oQ.1 h1 with h|h
  ·exact h
  have h4 := hpw.1 _ h;simp only[leB,decide_eq_true_eq]at h4;exact List.le_antisymm h3 h4
theorem VN{ks l:List Str}{j m:Nat}(hp:l.Perm ((Bg ks).drop j))(hm:m<l.length)(hj:j<(Bg ks).length)(he:l[m]=(Bg ks)[j]):(l.eraseIdx m).Perm ((Bg ks).drop (j+1)):=by
  rw[List.drop_eq_getElem_cons hj]at hp;have h1:(l[m]::l.eraseIdx m).Perm l:=Nt l m (List.getElem?_eq_getElem hm);rw[he]at h1;exact (h1.trans hp).cons_inv
theorem min_next{l:List Str}{m i:Nat}(hm:m<l.length)(hi:i<l.length)(hmin:∀q (h:q<l.length),q<i->Qf l[q] l[m]=false)(hc:Qf l[i] l[m]=false):∀q (h:q<l.length),q<i+1->Qf l[q] l[m]=false:=by
  intro q hq h;rcases Nat.lt_or_ge q i with h1|h1
  ·exact hmin q hq h1
  obtain rfl : q = i := by omega
  exact hc
theorem min_new{l:List Str}{m i:Nat}(hm:m<l.length)(hi:i<l.length)(hmin:∀q (h:q<l.length),q<i->Qf l[q] l[m]=false)(hc:Qf l[i] l[m]=true):∀q (h:q<l.length),q<i+1->Qf l[q] l[i]=false:=by
  intro q hq h;rw[Yu,decide_eq_true_eq]at hc;rw[Yu,decide_eq_false_iff_not];intro h2;rcases Nat.lt_or_ge q i with h1|h1
  ·have h3 := hmin q hq h1
   rw[Yu,decide_eq_false_iff_not]at h3;exact h3 (List.lt_trans h2 hc)
  obtain rfl : q = i := by omega
  exact List.lt_irrefl _ h2
section
variable {P:Program}{w0 w:World}{Ds ids:List Nat}
theorem FR.noseg{bs sb:List (Nat × Obj)}(h:FR w0 Ds (bs++(sb++[])) w):FR w0 Ds bs w:=h.sub (List.sublist_append_left _ _)
theorem PW{e n c:Nat}{A:Option Addr}{bs sb:List (Nat × Obj)}{es:List Value}{ks:List Str}{S:Nat->Prop}{wx:World}(hF:FR w0 [] (bs++(sb++[])) w)(hS:SlB e 1 A n c es sb)(hr:RepL S wx (ks.map Vl) es)(hn:ks.length=n) :
    RX w0 (bs.map (·.1)) w [Oh ks] [.slice A n c]:=by
  refine .one (hS.repOf (λp hp=>?_) hr.lits (by simpa using hn));have h1:=hF.own p (by simp[hp]);have h2:∃cur,p=(p.1,.cells cur e):=by
    rcases hS.2 with ⟨-,-,rfl⟩|⟨g,cur,-,rfl,-⟩
    ·cases hp
    simp only[pQ]at hp;subst hp;exact⟨cur,rfl⟩
  obtain⟨cur,h2⟩:=h2;refine⟨h1.1,?_,Ac h1.1,λhm=>?_,?_⟩
  ·rcases h1.2 with h3|h3
   ·exact h3
   cases h3
  ·obtain⟨q, hq, e1⟩ := nQ.1 hm
   have:=(List.pairwise_append.1 hF.desc).2.2 q hq p (by simp[hp]);exact this e1.symm
  rw[h2]at h1;exact⟨cur,e,h1.1⟩
theorem Ij{l:List Str}{A:Option Addr}{ad:Addr}{n c:Nat}(h:RX w0 ids w [Oh l] [.slice A n c])(hA:A=some ad):∀q (hq:q<l.length),w.cell? (ad.add (q*1))=some (I (l[q])):=λq hq=>by
  obtain⟨ad',hA',hc,-⟩:=h.rep.str_elem hq;rw[hA]at hA';obtain rfl:=lQ hA';exact hc
theorem G3{l:List Str}{A:Option Addr}{n c:Nat}(h:RX w0 ids w [Oh l] [.slice A n c])(hl:0<l.length):∃ad,A=some ad:=by
  obtain⟨ad,hA,-⟩:=h.rep.str_elem hl;exact⟨ad,hA⟩
theorem Z0{t e:TypeId}(h:P.underlying t=some (.slice e)):P.elem t=e:=by unfold Program.elem;rw[h]
theorem JC{ρ:Operand->Value}{dst:Option Nat}{ty:TypeId}{pos:String}{aft:Array Edge}{g:Option (Nat × Bool)}{t e sz:Nat}{x y z:Operand}{A:Option Addr}{n c:Nat}{k k2:IntKind}(m:Nat)(ht:Ki P t e sz)(hx:ρ x=.slice A n c)(hy:ρ y=.int k (m:Int))(hz:ρ z=.int k2 (m:Int))(hm:m<=c) :
    (execOp ρ ⟨dst,.slice t x none (some y) (some z),ty,pos,aft,g⟩).run P w=.ok (.value (.slice A m m)) w:=by
  have he:=Z0 ht.1;have ht':P.underlying t=some (.slice (P.elem t)):=by rw[he];exact ht.1
  have h:=run_slice_hm (P:=P) w t A n c ht' k k2 m m Aa Aa Aa;have hs:(sizeOf (P.elem t)).run P w=.ok sz w:=by rw[he];exact ht.2 w
  rw[hs]at h;have e1:sliced A 0 (m:Int).toNat (m:Int).toNat sz=.slice A m m:=by
    unfold sliced;simp only[Int.toNat_natCast,Nat.zero_mul,Nat.sub_zero];split
    ·rfl
    cases A <;> simp[Gp]
  simp only[execOp,Option.map_none,Option.map_some,hx,hy,hz,run_sliceAt_slice w t _ _ _ _ ht',Sem.run_bind,h,Result.andThen,e1];rfl
theorem Um{ρ:Operand->Value}{dst:Option Nat}{ty:TypeId}{pos:String}{aft:Array Edge}{g:Option (Nat × Bool)}{t e sz:Nat}{x y:Operand}{A:Option Addr}{n c:Nat}{k:IntKind}(m:Nat)(ht:Ki P t e sz)(hx:ρ x=.slice A n c)(hy:ρ y=.int k (m:Int))(hm:m<=n) :
    (execOp ρ ⟨dst,.slice t x (some y) none none,ty,pos,aft,g⟩).run P w=.ok (.value (.slice (if c=m then A else A.map (·.add (m*sz))) (n-m) (c-m))) w:=by
  have he:=Z0 ht.1;have ht':P.underlying t=some (.slice (P.elem t)):=by rw[he];exact ht.1
  have h:=run_slice_l (P:=P) w t A n c ht' k m Aa Aa;have hs:(sizeOf (P.elem t)).run P w=.ok sz w:=by rw[he];exact ht.2 w
  rw[hs]at h;simp only[execOp,Option.map_none,Option.map_some,hx,hy,run_sliceAt_slice w t _ _ _ _ ht',Sem.run_bind,h,Result.andThen,sliced,Int.toNat_natCast];rfl
theorem ZJ{α:Type}(l:List α)(m:Nat):l.eraseIdx m=l.take m++l.drop (m+1):=List.eraseIdx_eq_take_drop_succ l m
theorem append_left{t ty e bytes:Nat}{l:List Str}{A:Option Addr}{n c m:Nat}(hE:Elems P t e 1 bytes)(hL:RX w0 ids w [Oh l] [.slice A n c])(hm:m<n)(hids:∀b∈ids,b<w.heap.size)(hw:w0.heap.size<=w.heap.size)(h63:n<=4611686018427387904)(hb:n*bytes<=140737488355328) :
    ∃A' c' w',(Builtin.append_ #[t,t] ty #[.slice A m m,.slice (if c=m+1 then A else A.map (·.add ((m+1)*1))) (n-(m+1)) (c-(m+1))]).run P w=.ok (.slice A' (n-1) c') w'/\RX w0 ids w' [Oh (l.eraseIdx m)] [.slice A' (n-1) c']/\Same [] w w':=by
  have hn:n=l.length:=by have:=hL.rep.slice_len;simpa using this.1
  have hcap:=hL.rep.slice_len.2;obtain⟨ad,hA⟩:=G3 hL Aa;subst hA;have hc:=Ij hL rfl;have hlen:(l.eraseIdx m).length=n-1:=by rw[List.length_eraseIdx];split <;> omega
  obtain⟨i,z,hi,hz,h2,h3,h4⟩:=hE.info;have hlits:∀(S:Nat->Prop)(wx:World)(q:List Str),(∀s∈q,s.length<=9223372036854775807)->RepL S wx (q.map Vl) (q.map λs=>Value.string (bs s)):=by
    intro S wx q
    induction q with
    | nil=>exact λ_=>RepL.nil_mk
    | cons s q ih=>exact λh=>RepL.cons_mk (Rep.lit_mk (v:=I s) (h s Oa)) (ih λx hx=>h x (by simp[hx]))
  have hls:∀s∈l,s.length<=9223372036854775807:=by
    intro s hs;obtain⟨q,hq,rfl⟩:=List.mem_iff_getElem.1 hs;obtain⟨_,_,_,h⟩:=hL.rep.str_elem hq;exact h
  by_cases hk:n=m+1
  ·
   refine⟨some ad,m,w,?_,?_,Same.refl _ _⟩
   ·have hz0 : n-(m + 1) = 0 := by omega
    rw[hz0,show n-1=m by omega];have hf:∀A2 c2,(Builtin.firstCells i.size 0 (.slice A2 0 c2)).run P w=.ok #[] w:=by
      intro A2 c2;cases A2 <;> simp[Builtin.firstCells,loadCells,loadCellsFrom]
    simp[Builtin.append_,run_underlying hE.ht,sizeOf,typeInfo,hi,Builtin.lenOf,hf,storeCells]
   have e1 : l.eraseIdx m = l.take m := by rw[ZJ, List.drop_eq_nil_of_le Aa, qQ]
   rw[e1,show n-1=m by omega];refine .one (Rep.slice_mk (by simp;omega) (gQ _) Aa λhne=>?_);obtain⟨A',c',hA',_,_,h6⟩:=Rep.slice_inv hL.rep;simp only[List.cons.injEq,Value.slice.injEq,and_true]at hA';obtain⟨rfl,_,_⟩:=hA';obtain⟨ad',hA2,es,hce,hre⟩:=h6 (by intro e;have:=congrArg List.length e;rw[rQ,List.length_nil]at this;omega);obtain rfl:=lQ hA2;have h0:0<es.length:=by
     rcases Nat.eq_zero_or_pos es.length with h|h
     ·have : es = [] := List.eq_nil_of_length_eq_zero h
      subst this;have h7:=hre.length;have hz:∀q:List Str,Wd.sizeL (q.map Vl)=q.length:=by
        intro q
        induction q with
        | nil=>rfl
        | cons a q ih=>rw[List.map_cons,Wd.sizeL,ih,kQ];simp[Vl,Wd];omega
      rw[hz]at h7;simp at h7;omega
     exact h
   refine⟨ad,O,(l.take m).map (λs=>Value.string (bs s)),λq hq=>⟨?_,(hce 0 h0).2⟩,hlits _ _ _ λs hs=>hls s (List.mem_of_mem_take hs)⟩;have hq':q<l.length:=by simp at hq;omega
   have:=hc q hq';rw[Nat.mul_one]at this;rw[this];simp
  have hcm:¬c=m+1:=by omega
  have hold:∀j v,((l.take m).map (λs=>Value.string (bs s)))[j]? = some v->w.cell? (ad.add j)=some v:=by
    intro j v hj;rw[List.getElem?_map]at hj;cases hg:(l.take m)[j]? with
    | none=>rw[hg]at hj;cases hj
    | some s =>
      rw[hg]at hj;obtain⟨hj1,hj2⟩:=List.getElem?_eq_some_iff.1 hg;have hq:j<l.length:=by simp at hj1;omega
      have h8:=hc j hq;rw[Nat.mul_one]at h8;rw[h8];have:s=l[j]:=by rw[<-hj2];simp
      simp only[Option.map_some,Option.some.injEq]at hj;rw[<-hj,this]
  have hnew:∀j v,((l.drop (m+1)).map (λs=>Value.string (bs s)))[j]? = some v->w.cell? ((ad.add ((m+1)*1)).add j)=some v:=by
    intro j v hj;rw[List.getElem?_map]at hj;cases hg:(l.drop (m+1))[j]? with
    | none=>rw[hg]at hj;cases hj
    | some s =>
      rw[hg]at hj;obtain⟨hj1,hj2⟩:=List.getElem?_eq_some_iff.1 hg;have hq:m+1+j<l.length:=by simp at hj1;omega
      have h8:=hc (m+1+j) hq;rw[Nat.mul_one]at h8;rw[Lm,Nat.mul_one,h8];have:s=l[m+1+j]:=by rw[<-hj2];simp
      simp only[Option.map_some,Option.some.injEq]at hj;rw[<-hj,this]
  have hr:=run_append_grow (P:=P) w t ty e i z hE.ht hi hz ad m m ((l.take m).map λs=>Value.string (bs s)) (by rw[h2];simp;omega) hold (ad.add ((m+1)*1)) (n-(m+1)) (c-(m+1)) ((l.drop (m+1)).map λs=>Value.string (bs s)) (by rw[h2];simp;omega) hnew Aa Aa
    (growslice_fits Aa (by rw[h3];exact fQ (Nat.mul_le_mul_right _ Aa) hb))
  rw[if_neg hcm];simp only[Option.map_some];have en:m+(n-(m+1))=n-1:=by omega
  rw[en]at hr;have hsm:=(Same.drew w).trans (Same.alloc w.drew (.cells (((l.take m).map λs=>Value.string (bs s)).toArray++((l.drop (m+1)).map λs=>Value.string (bs s)).toArray++Builtin.zeroCells z.cells (grownCap w (n-1) m e-(n-1))) e));refine⟨_,_,_,hr,?_,hsm⟩;have hge:=grownCap_ge w (n-1) m e;have hcm2:grownCap w (n-1) m e<=maxLen:=grownCap_le_maxLen w (n-1) m e (by simp only[maxLen];omega);simp only[maxLen]at hcm2;refine .one (Rep.slice_mk (by simp[hlen]) hge Aa λ_=>?_);have hhe:=heap_alloc_new w.drew (.cells (((l.take m).map λs=>Value.string (bs s)).toArray++((l.drop (m+1)).map λs=>Value.string (bs s)).toArray++Builtin.zeroCells z.cells (grownCap w (n-1) m e-(n-1))) e);refine⟨_,O,(l.eraseIdx m).map (λs=>Value.string (bs s)),λq hq=>⟨?_,?_⟩,hlits _ _ _ λs hs=>hls s (List.mem_of_mem_eraseIdx hs)⟩
  ·rw[Yf, Nat.zero_add, cell_of_row _ w.heap.size q _ e (0, 0) hhe]
   have hx:((l.eraseIdx m).map λs=>Value.string (bs s))=((l.take m).map λs=>Value.string (bs s))++((l.drop (m+1)).map λs=>Value.string (bs s)):=by rw[ZJ,jQ]
   rw[<-List.getElem?_eq_getElem hq,hx];rw[hx]at hq;rw[Array.getElem?_append_left (by simp at hq ⊢;omega)];simp
  refine⟨by show w0.heap.size <= w.heap.size;exact hw, by show w.heap.size<_;exact Ac hhe, λhm => ?_, ⟨_, e, hhe⟩⟩;have:=hids _ hm;exact absurd this (by show ¬w.heap.size<w.heap.size;omega)
end
def HP(x:Tree):Prop:=∀S w0 cs,Rep S w0 (Ob x) cs->Me nodeB x=true->Nb x<=1000000000->QJ 86 #[.agg cs.toArray] (Ob (sortT x)) w0
theorem QU{ks:List Str}{j:Nat}(h:j<ks.length):(ks.take (j+1)).map (λs=>Value.string (bs s))=(ks.take j).map (λs=>Value.string (bs s))++[Value.string (bs ks[j])]:=by
  rw[iQ h,jQ];rfl
theorem JD{S:Nat->Prop}{wx:World}:∀{q:List Str},(∀s∈q,s.length<=9223372036854775807)->RepL S wx (q.map Vl) (q.map λs=>Value.string (bs s))
  | [],_=>RepL.nil_mk
  | s::q,h=>RepL.cons_mk (Rep.lit_mk (v:=I s) (h s Oa)) (JD λx hx=>h x (by simp[hx]))
theorem QM(k:Int)(t:Str)(ks:List Str)(xs:List Tree)(ih:∀x,x∈xs->HP x):HP (.node k t ks xs):=by
 intro S w0 cs hR hnx hsz;have hR:=hR.old;have hkl_:=UT _ hnx;rw[Pn]at hkl_;rw[Nb]at hsz hkl_;have hxn:=Yj xs;have hnx:=Bh hnx;obtain⟨A,c,B,e,rfl,hk,ht,hK,hX⟩:=hR.tree_inv;have hXl:=hX.slice_len;have hKn:k=6->ks.length=xs.length:=λe=>(Wv (e▸hnx.1)).2;obtain⟨eK,hrK,hKl,hKc⟩:=hK.slice_open (K3 ks);have hks2:∀s∈Bg ks,s.length<=9223372036854775807:=λs hs=>by obtain⟨q,hq,rfl⟩:=List.mem_iff_getElem.1 (Cp.1 hs);obtain⟨_,_,_,h⟩:=hK.str_elem hq;exact h
 refine Fa func86 O ntmps86 Ab (Wb _) ?_;have hF:=FR.start w0 [];refine Ea (Ce hF O ?_);rintro b1 w hb1 hF -;refine Pc (cs:=#[J 0,I [],aQ,aQ]) hF oX O ?_;rintro b2 w hb2 hF -;refine Lb (Ba (Mb Xc O) (Xb (Zg xQ O hF.F 1 O O) (Ba (Mb Id O) (Xb (Ej iZ O hF.F 1 O O) ?_))));refine Ia (w':=w) (v:=.agg #[J k,I t,aQ,aQ]) Qb (If hF oX nZ O ?_);rintro b3 w hb3 hF -;refine Lb (Mh 0 hF (Dm cX sZ) ?_);rintro b4 w hb4 hF -;refine Ba (Mb Tc O) (Xb (Ie yQ O hF.F 3 O O) ?_);have hS0:SlB 9 1 (some ⟨b4,0,none⟩) 0 0 [] [(b4,.cells #[] 9)]:=⟨by simp,.inr ⟨b4,#[],rfl,rfl,gQ _,Nat.zero_le _,by simp,by simp⟩⟩;have hF:=hF.toseg 0 rfl;refine Up [(b3,.cells #[J k,I t,aQ,aQ] 36),(b2,.cells #[J 0,I [],aQ,aQ] 36),(b1,.cells #[J k,I t,.slice A ks.length c,.slice B xs.length e] 36)] [] (news:=eK) (len':=ks.length) (ys:=eK) Av hF hS0 rfl rfl (by rw[hKl]) (λhk=>by obtain⟨ad,hA,hc⟩:=hKc hk;exact⟨ad,hA,Jc (hF.cells0 hc)⟩) (Mi hrK.one_) (by simp only[maxLen];omega) (Nat.zero_add _) (rfl) Aa ?_;intro A0 c0 a_0 w hS0_a hF hE hnew;refine Ba (Yi O) (Da (Ga (Qa ?_)));have hL:RX w0 [b3,b2,b1] w [Oh ks] [.slice A0 ks.length c0]:=PW hF hS0_a hrK rfl;have hF:=hF.noseg;refine Fc (λμ σ w=>∃(j:Nat),∃(l:List Str),∃(nl:Nat),∃(AL:Option Addr),∃(cl:Nat),∃(AK:Option Addr),∃(cK:Nat),∃(AI:Option Addr),∃(cI:Nat),∃(sq:List (Nat × Obj)),∃(si:List (Nat × Obj)),∃(cs1:List Value),μ=nl+1/\(j<=ks.length)/\(k≠6->j=0)/\(nl=l.length)/\(l.Perm ((Bg ks).drop j))/\(RX w0 ([b3,b2,b1]++(sq.map (·.1)++si.map (·.1))) w [Oh l] [.slice AL nl cl])/\(SlB 9 1 AK j cK (((Bg ks).take j).map λs=>Value.string (bs s)) sq)/\(SlB 36 4 AI j cI cs1 si)/\(RX w0 ([b3,b2,b1]++(sq.map (·.1)++si.map (·.1))) w (Fe ((By ks xs).take j)) cs1)/\AllEq σ [(1,V b1),(2,V b2),(3,V b3),(4,.slice AL nl cl)]/\FR w0 [] ([(b3,.cells #[J k,I t,.slice AK j cK,.slice AI j cI] 36),(b2,.cells #[J 0,I [],aQ,aQ] 36),(b1,.cells #[J k,I t,.slice A ks.length c,.slice B xs.length e] 36)]++(sq++(si++[]))) w) _ ⟨0,ks,ks.length,_,_,none,0,none,0,[],[],[],O,(Nat.zero_le _),(λ_=>rfl),(O),(by rw[List.drop_zero];exact (Un ks).symm),(by simpa using hL),(SlB.nil _ _),(SlB.nil _ _),(RX.nil),Jj,hF⟩ ?_
 rintro μ σ w ⟨j,l,nl,AL,cl,AK,cK,AI,cI,sq,si,cs1,rfl,hj,hk6,hnl,hlp,hL,hSq,hSi,hDX,hs,hF⟩;refine Cg.slots hs ?_;clear hs;intro σ;have hLc:=hL.rep.slice_len.2;refine Ga (Ea (Ba (Mb Xc O) (Xb (Zg xQ O hF.F 2 O O) (Ba (Of O O) (Ba (Dc O) ?_)))));refine Bb (d:=20) O (λhg1=>?_) (λhg1=>?_);refine Ba (Hd O) (Ba (Nf cX O) (Ba (Mo O O) (Ba (Rb O O) (Da ?_))));refine Jb O O (λhc0=>?_) (λhc0=>?_);refine Ka (Ha (Qa (Ea (Ba (Fb O) (Da (Ga (Ea (Ba (Fb O) (Da ?_)))))))));refine Qa ?_;have h6:k=6:=by omega
 refine Fc (λμ σ w=>∃(m:Nat),∃(i:Nat),μ=nl-i/\(m<l.length)/\(i<=nl/\1<=i)/\(RX w0 ([b3,b2,b1]++(sq.map (·.1)++si.map (·.1))) w [Oh l] [.slice AL nl cl])/\(RX w0 ([b3,b2,b1]++(sq.map (·.1)++si.map (·.1))) w (Fe ((By ks xs).take j)) cs1)/\(∀(hm:m<l.length) q (h:q<l.length),q<i->Qf l[q] l[m]=false)/\AllEq σ [(1,V b1),(2,V b2),(3,V b3),(4,.slice AL nl cl),(5,J ((m:Int))),(6,J ((i:Int)))]/\FR w0 [] ([(b3,.cells #[J k,I t,.slice AK j cK,.slice AI j cI] 36),(b2,.cells #[J 0,I [],aQ,aQ] 36),(b1,.cells #[J k,I t,.slice A ks.length c,.slice B xs.length e] 36)]++(sq++(si++[]))) w) _ ⟨0,1,rfl,Aa,Aa,(hL),(hDX),(λhm q h hq=>by obtain rfl:q=0:=Aa;rw[Yu,decide_eq_false_iff_not];exact List.lt_irrefl _),Du,hF⟩ ?_;rintro μ σ w ⟨m,i,rfl,hm,hi,hL,hDX,hmin,hs,hF⟩;refine Cg.slots hs ?_;clear hs;intro σ;refine Ga (Ea (Ba (Za O) (Ba (Hd O) (Ba (Nf cX O) (Ba (Pg O O) (Da ?_))))));refine Jb O O (λhc1=>?_) (λhc1=>?_);refine Ka (Ha (Ga (Qa (Ga ?_))));obtain⟨ad,hAd⟩:=G3 hL Aa;refine Md (.of []) (bQ [0,1,2,3,4,5,6,7,8] .nil) hF ?_;intro w hF hE;have hL:=hL.ext hE;have hDX:=hDX.ext hE;refine⟨λwq=>FR w0 [] [(b3,.cells #[J k,I t,.slice AK j cK,.slice AI j cI] 36),(b2,.cells #[J 0,I [],aQ,aQ] 36),(b1,.cells #[J k,I t,.slice A ks.length c,.slice B xs.length e] 36)] wq/\∀q (h:q<l.length),wq.cell? (ad.add (q*1))=some (I (l[q])),⟨hF.mid 0 3,Ij hL hAd⟩,?_⟩;refine Ib O (Hd O) (Ib O (Za O) (Sa O (v:=.pointer (some (ad.add (i*1)))) (λw hC=>Na (i:=(i:Int)) Pk O hAd O Aa Aa) (Sa O (v:=I ((l[i]' Aa))) (λw hC=>Nc iZ O (hC.2 i Aa)) (Ib O (Hd O) (Ib O (Za O) (Sa O (v:=.pointer (some (ad.add (m*1)))) (λw hC=>Na (i:=(m:Int)) Pk O hAd O Aa Aa) (Sa O (v:=I ((l[m]' Aa))) (λw hC=>Nc iZ O (hC.2 m Aa)) (Ib O (yss O O) (Ic (Ha ?_))))))))));refine Jd O O (λhc2=>?_) (λhc2=>?_)
 refine Ja (Ba (Za O) (Ba (Fb O) (Va (Ya (Ha (Ja (Ba (Za O) (Ba (Bi (((i+1:Nat):Int)) O O) (Ba (Fb O) (Va ?_))))))))));refine Ta ⟨_,?_,i,i+1,O,Aa,Aa,(hL),(hDX),(λ_=>min_new hm Aa (hmin hm) (by assumption)),Du,hF⟩;omega;refine Ka (Ya (Ha (Ja (Ba (Za O) (Ba (Bi (((i+1:Nat):Int)) O O) (Ba (Fb O) (Va ?_)))))));refine Ta ⟨_,?_,m,i+1,O,Aa,Aa,(hL),(hDX),(λ_=>min_next hm Aa (hmin hm) (by assumption)),Du,hF⟩;omega;refine Bc (Yb O ?_);refine Ha (Ga ?_);obtain⟨hjs,hmj⟩:=SZ hlp (m:=m) hm (λq h=>hmin hm q h Aa);obtain⟨ad,hAd⟩:=G3 hL Aa;refine Md (.of [9]) (bQ [0,1,2,3,4,5] (.act 6 (.act 7 (.free 8 (.act 9 .nil))))) hF ?_;intro w hF hE;have hL:=hL.ext hE;have hDX:=hDX.ext hE;refine⟨λwq=>FR w0 [] [(b3,.cells #[J k,I t,.slice AK j cK,.slice AI j cI] 36),(b2,.cells #[J 0,I [],aQ,aQ] 36),(b1,.cells #[J k,I t,.slice A ks.length c,.slice B xs.length e] 36)] wq/\∀q (h:q<l.length),wq.cell? (ad.add (q*1))=some (I (l[q])),⟨hF.mid 0 3,Ij hL hAd⟩,?_⟩;refine Ib O (Mb Tc O) (Ng O (Ie yQ O C1 0 O O) (Ib O (Hd O) (Ib O (Za O) (Sa O (v:=.pointer (some (ad.add (m*1)))) (λw hC=>Na (i:=(m:Int)) Pk O hAd O Aa Aa) (Sa O (v:=I ((l[m]' Aa))) (λw hC=>Nc iZ O (hC.2 m Aa)) ?_)))));refine Jf 1 O hF (Gb (cs:=#[I ((l[m]' Aa))]) cX sZ sX Ua Ua Qb) ?_;intro b5 w hb5 hF hE;have hL:=hL.alloc hE hb5;have hDX:=hDX.alloc hE hb5;refine⟨⟨hF.mid 1 3,Ij hL hAd⟩,?_⟩;refine Jn [(b5,.cells #[I ((l[m]' Aa))] 9),(b3,.cells #[J k,I t,.slice AK j cK,.slice AI j cI] 36),(b2,.cells #[J 0,I [],aQ,aQ] 36),(b1,.cells #[J k,I t,.slice A ks.length c,.slice B xs.length e] 36)] (si++[]) (news:=[I ((l[m]' Aa))]) (len':=j+1) (ys:=((Bg ks).take (j+1)).map (λs=>Value.string (bs s))) O Av hF hSq O O (O) (λ_=>⟨_,O,Jc (hF.cellsAll 0 O)⟩) (by simp[Value.oneCell']) (by simp only[maxLen];omega) (O) (by rw[QU hjs,<-hmj]) Aa ?_
 intro A2 c2 q_2 w hS2_q hF hE hnew;have hL:=hL.step (ids':=[b5,b3,b2,b1]++(q_2.map (·.1)++si.map (·.1))) hE (by grind) (by grind);have hDX:=hDX.step (ids':=[b5,b3,b2,b1]++(q_2.map (·.1)++si.map (·.1))) hE (by grind) (by grind);refine⟨⟨hF.mid 1 3,Ij hL hAd⟩,?_⟩;refine Ib O (Mb Tc O) (Zp O 1 (l:=[.slice (A2) (j+1) (c2)]) (cs':=#[J k,I t,.slice (A2) (j+1) (c2),.slice AI j cI]) hF sizeOf33 O (v:=.slice (A2) (j+1) (c2)) O O Sl O Ab O ?_);intro w hF hE;have hL:=hL.store hE (by grind);have hDX:=hDX.store hE (by grind);have hF:FR w0 [] ([(b5,.cells #[I ((l[m]' Aa))] 9),(b3,.cells #[J k,I t,.slice (A2) (j+1) (c2),.slice AI j cI] 36),(b2,.cells #[J 0,I [],aQ,aQ] 36),(b1,.cells #[J k,I t,.slice A ks.length c,.slice B xs.length e] 36)]++(q_2++(si++[]))) w:=hF;refine Ic (Ha (Ga ?_));refine Md (.of [16]) (bQ [0,1,2,3,4,5,6,7,8] (.act 9 (.free 10 (.free 11 (cQ [12,13,14] (.free 15 (.act 16 .nil))))))) hF ?_;intro w hF hE;have hL:=hL.ext hE;have hDX:=hDX.ext hE;refine⟨λwq=>FR w0 [] [(b5,.cells #[I ((l[m]' Aa))] 9),(b3,.cells #[J k,I t,.slice (A2) (j+1) (c2),.slice AI j cI] 36),(b2,.cells #[J 0,I [],aQ,aQ] 36),(b1,.cells #[J k,I t,.slice A ks.length c,.slice B xs.length e] 36)] wq/\∀q (h:q<l.length),wq.cell? (ad.add (q*1))=some (I (l[q])),⟨hF.mid 0 4,Ij hL hAd⟩,?_⟩;refine Ib O (Mb Tb O) (Ng O (Ie zQ O C1 1 O O) (Ib O (Mb Tb O) (Ng O (Ie zQ O C1 3 O O) (Ng O (Bf aZ nZ O C1 3 O O) (Ib O (Hd O) (Ib O (Za O) (Sa O (v:=.pointer (some (ad.add (m*1)))) (λw hC=>Na (i:=(m:Int)) Pk O hAd O Aa Aa) (Sa O (v:=I ((l[m]' Aa))) (λw hC=>Nc iZ O (hC.2 m Aa)) ?_))))))));refine Dd O (at_c k t ks xs (l[m]' Aa) _ _ _ (hF.rep hR)) (Xa en_143 O O O) ?_;rintro _ w ⟨rfl,hE⟩;obtain⟨q,hq⟩:∃q:Nat,atZ ks (l[m]' Aa)=(q:Int):=by have hmem:l[m]' Aa∈ks:=(by rw[hmj];exact Cp.1 (eQ hjs));refine⟨ks.idxOf (l[m]' Aa),?_⟩;rw[atZ,if_pos hmem]
 rw[hq];obtain⟨hqx,hlook⟩:=at_look (xs:=xs) (hKn h6) hq;rw[hmj]at hlook;have hF:=hF.ext hE;have hL:=hL.ext hE;have hDX:=hDX.ext hE;refine⟨⟨hF.mid 0 4,Ij hL hAd⟩,?_⟩;obtain⟨ad3,cs3,hA3,hl3,hk3,hx3⟩:=hX.tree_elem (i:=q) (hqx);have ho3:=hx3.one_;refine Sa O (v:=.pointer (some (ad3.add (q*4)))) (λw hC=>Na (i:=(q:Int)) Wf O hA3 O Aa Aa) (Sa O (v:=.agg (List.toArray cs3)) (λw hC=>Wa (l:=cs3) aZ nZ O hl3 (hC.1.cells0 hk3)) ?_);refine Dd O (ih (xs[q]' hqx) (eQ hqx) _ _ cs3 (hF.rep hx3) (hnx.2 _ (eQ hqx)) (by have:=Lg (eQ hqx);omega)) (Ma EK O O) ?_;rintro _ w ⟨ct,rfl,hRt,hE⟩;have hlt:ct.length=4:=hRt.length.trans (Hc _);have hot:=hRt.one_;have hYX:=RX.made (ids:=[b5,b3,b2,b1]++(q_2.map (·.1)++si.map (·.1))) hF.same.size (λx hx=>hF.lt_ids (by grind)) hRt;have hDX:=(hDX.ext hE).append hYX;have hL:=hL.ext hE;have hF:=hF.ext hE;clear hE hYX;refine⟨⟨hF.mid 0 4,Ij hL hAd⟩,?_⟩;refine Jf 1 O hF (Wl (l:=ct) dX nZ oX Ua Ua O hlt) ?_;intro b6 w hb6 hF hE;have hL:=hL.alloc hE hb6;have hDX:=hDX.alloc hE hb6;refine⟨⟨hF.mid 1 4,Ij hL hAd⟩,?_⟩;refine Jn ([(b6,.cells (List.toArray ct) 36),(b5,.cells #[I ((l[m]' Aa))] 9),(b3,.cells #[J k,I t,.slice (A2) (j+1) (c2),.slice AI j cI] 36),(b2,.cells #[J 0,I [],aQ,aQ] 36),(b1,.cells #[J k,I t,.slice A ks.length c,.slice B xs.length e] 36)]++q_2) [] (news:=ct) (len':=j+1) (ys:=cs1++ct) O Np hF hSi O O (by rw[hlt]) (λ_=>⟨_,O,Jc (hF.cellsAll 0 O)⟩) (Mi hot) (by simp only[maxLen];omega) (O) (O) Aa ?_;intro A4 c4 i_4 w hS4_i hF hE hnew;have hL:=hL.step (ids':=[b6,b5,b3,b2,b1]++(q_2.map (·.1)++i_4.map (·.1))) hE (by grind) (by grind);have hDX:=hDX.step (ids':=[b6,b5,b3,b2,b1]++(q_2.map (·.1)++i_4.map (·.1))) hE (by grind) (by grind);refine⟨⟨hF.mid 1 4,Ij hL hAd⟩,?_⟩;refine Ib O (Mb Tb O) (Zp O 2 (l:=[.slice (A4) (j+1) (c4)]) (cs':=#[J k,I t,.slice (A2) (j+1) (c2),.slice (A4) (j+1) (c4)]) hF mZ O (v:=.slice (A4) (j+1) (c4)) O O Sl O Ab O ?_)
 intro w hF hE;have hL:=hL.store hE (by grind);have hDX:=hDX.store hE (by grind);have hF:FR w0 [] ([(b6,.cells (List.toArray ct) 36),(b5,.cells #[I ((l[m]' Aa))] 9),(b3,.cells #[J k,I t,.slice (A2) (j+1) (c2),.slice (A4) (j+1) (c4)] 36),(b2,.cells #[J 0,I [],aQ,aQ] 36),(b1,.cells #[J k,I t,.slice A ks.length c,.slice B xs.length e] 36)]++(q_2++(i_4++[]))) w:=hF;refine Ic (Ha ?_);refine Md (.of []) (bQ [0,1,2,3,4,5,6,7] (.act 8 (.free 9 .nil))) hF ?_;intro w hF hE;have hL:=hL.ext hE;have hDX:=hDX.ext hE;refine⟨λwq=>FR w0 [] [(b6,.cells (List.toArray ct) 36),(b5,.cells #[I ((l[m]' Aa))] 9),(b3,.cells #[J k,I t,.slice (A2) (j+1) (c2),.slice (A4) (j+1) (c4)] 36),(b2,.cells #[J 0,I [],aQ,aQ] 36),(b1,.cells #[J k,I t,.slice A ks.length c,.slice B xs.length e] 36)] wq,hF.mid 0 5,?_⟩;refine Ib O (Hd O) (Ib O (Za O) (Ib O (Za O) ?_));refine Sa O (v:=.slice AL m m) (λw hC=>JC m Pk O O O (by have:=hLc;omega)) ?_;refine Ib O (Hd O) (Ib O (Za O) (Ib O (Bi (((m+1:Nat):Int)) O O) (Sa O (v:=.slice (if cl=m+1 then AL else AL.map (·.add ((m+1)*1))) (nl-(m+1)) (cl-(m+1))) (λw hC=>Um (m+1) Pk O O Aa) ?_)));have hF:FR w0 [] ([(b6,.cells (List.toArray ct) 36),(b5,.cells #[I ((l[m]' Aa))] 9),(b3,.cells #[J k,I t,.slice (A2) (j+1) (c2),.slice (A4) (j+1) (c4)] 36),(b2,.cells #[J 0,I [],aQ,aQ] 36),(b1,.cells #[J k,I t,.slice A ks.length c,.slice B xs.length e] 36)]++(q_2++(i_4++[]))) w:=hF;have hnb:=hlp.length_eq;rw[List.length_drop,Tf]at hnb;have hkx:=hKn h6;obtain⟨AL2,cl2,w2,hr2,hL2,hE⟩:=append_left (w:=w) (ty:=33) Av hL (show m<nl by omega) (λb hb=>hF.lt_ids (by grind)) hF.same.size Aa Aa;have hF:=hF.ext hE;have hDX:=hDX.ext hE;refine Gu O (Do O O hr2) (hF.mid 0 5) ?_;clear hE hr2;refine Ib O (Yi O) (Ic (Ya ?_));refine Ta ⟨_,?_,j+1,l.eraseIdx m,nl-1,AL2,cl2,A2,c2,A4,c4,q_2,i_4,cs1++ct,O,(by rw[Tf]at hjs;omega),(λh=>absurd h6 h),(by rw[List.length_eraseIdx,if_pos Aa,<-hnl]),(VN hlp Aa hjs hmj),(hL2.sub (by grind)),(hS2_q),(hS4_i),(by rw[QA hjs hlook];exact hDX.sub (by grind)),Jj,hF.drop 2⟩
 omega;refine Bc (Yb O ?_);refine Ha (Ga (Ea (Ba (Fb O) (Da (Qa ?_)))));refine Fc (λμ σ w=>μ=0/\(RX w0 ([b3,b2,b1]++(sq.map (·.1)++si.map (·.1))) w [Oh l] [.slice AL nl cl])/\(RX w0 ([b3,b2,b1]++(sq.map (·.1)++si.map (·.1))) w (Fe ((By ks xs).take j)) cs1)/\AllEq σ [(1,V b1),(2,V b2),(3,V b3),(7,J ((0:Int)))]/\FR w0 [] ([(b3,.cells #[J k,I t,.slice AK j cK,.slice AI j cI] 36),(b2,.cells #[J 0,I [],aQ,aQ] 36),(b1,.cells #[J k,I t,.slice A ks.length c,.slice B xs.length e] 36)]++(sq++(si++[]))) w) _ ⟨O,(hL),(hDX),Jj,hF⟩ ?_;rintro μ σ w ⟨rfl,hL,hDX,hs,hF⟩;refine Cg.slots hs ?_;clear hs;intro σ;refine Ga (Ea (Ba (Za O) (Ba (Mb Tb O) (Xb (Ie zQ O hF.F 2 O O) (Ba (Nf dX O) (Ba (Pg O O) (Ba (Dc O) ?_)))))));refine Bb (d:=80) O (λhg5=>?_) (λhg5=>?_);refine Ba (Mb Xc O) (Xb (Zg xQ O hF.F 2 O O) (Ia (v:=.bool false) (Xf (x_neq O O) Aa) (Ba (Rb O O) (Da (Zd O ?_)))));refine Bc (Yb O ?_);refine Ha (Ea (Xb (Bf aZ nZ O hF.F 0 O O) ?_));refine Fg 1 (l:=[J k,I t,.slice AK j cK,.slice AI j cI]) (cs':=#[J k,I t,.slice AK j cK,.slice AI j cI]) hF nZ O (v:=.agg #[J k,I t,.slice AK j cK,.slice AI j cI]) O O Sl O Ab O ?_;intro w hF hE;have hL:=hL.store hE (by grind);have hDX:=hDX.store hE (by grind);have hF:FR w0 [] ([(b3,.cells #[J k,I t,.slice AK j cK,.slice AI j cI] 36),(b2,.cells #[J k,I t,.slice AK j cK,.slice AI j cI] 36),(b1,.cells #[J k,I t,.slice A ks.length c,.slice B xs.length e] 36)]++(sq++(si++[]))) w:=hF;refine Da (Db (Cb (La (Mg O (l:=[J k,I t,.slice AK j cK,.slice AI j cI]) O aZ nZ O (hF.cellsAll 1 O)) ?_)));refine⟨_,O,?_,hF.same⟩;have h1:=hlp.length_eq;rw[List.length_drop,Tf]at h1;have ej:j=ks.length:=by omega
 subst ej;rw[List.take_of_length_le (by rw[Fo];exact gQ _)]at hDX;rw[List.take_of_length_le (by rw[Tf];exact gQ _)]at hSq;rw[sortT,if_pos (show k=6 by omega)];have hKX:RX w0 [] w ((Bg ks).map Vl) _:=JD hks2;exact Rep.tree_mk hk ht (hSq.rep (pre:=[_,_,_]) (post:=si++[]) hF hKX (by rw[rQ,Tf])) (hSi.rep (pre:=[_,_,_]++sq) (post:=[]) (by simpa using hF) hDX (by rw[Eh];exact Fo ..));refine Ca (Ca (Ca (Ba (Pb O O) (Da (Zd O ?_)))));refine Bc (Yb O ?_);refine Ha (Ea (Xb (Bf aZ nZ O hF.F 0 O O) ?_));refine Fg 1 (l:=[J k,I t,.slice AK j cK,.slice AI j cI]) (cs':=#[J k,I t,.slice AK j cK,.slice AI j cI]) hF nZ O (v:=.agg #[J k,I t,.slice AK j cK,.slice AI j cI]) O O Sl O Ab O ?_;intro w hF hE;have hL:=hL.store hE (by grind);have hDX:=hDX.store hE (by grind);have hF:FR w0 [] ([(b3,.cells #[J k,I t,.slice AK j cK,.slice AI j cI] 36),(b2,.cells #[J k,I t,.slice AK j cK,.slice AI j cI] 36),(b1,.cells #[J k,I t,.slice A ks.length c,.slice B xs.length e] 36)]++(sq++(si++[]))) w:=hF;refine Da (Db (Cb (La (Mg O (l:=[J k,I t,.slice AK j cK,.slice AI j cI]) O aZ nZ O (hF.cellsAll 1 O)) ?_)));refine⟨_,O,?_,hF.same⟩;have h1:=hlp.length_eq;rw[List.length_drop,Tf]at h1;have ej:j=ks.length:=by omega
 subst ej;rw[List.take_of_length_le (by rw[Fo];exact gQ _)]at hDX;rw[List.take_of_length_le (by rw[Tf];exact gQ _)]at hSq;rw[sortT,if_pos (show k=6 by omega)];have hKX:RX w0 [] w ((Bg ks).map Vl) _:=JD hks2;exact Rep.tree_mk hk ht (hSq.rep (pre:=[_,_,_]) (post:=si++[]) hF hKX (by rw[rQ,Tf])) (hSi.rep (pre:=[_,_,_]++sq) (post:=[]) (by simpa using hF) hDX (by rw[Eh];exact Fo ..));refine Ca (Ca (Ca (Ba (Pb O O) (Da (Zd O ?_)))));refine Bc (Yb O ?_);refine Ha (Ga (Ea (Ba (Fb O) (Da (Qa ?_)))));obtain rfl:j=0:=hk6 (by assumption);simp only[List.take_zero,Fe]at hDX;obtain rfl:=RepL.nil_inv hDX;refine Fc (λμ σ w=>∃(i2:Nat),∃(AJ:Option Addr),∃(cJ:Nat),∃(sj:List (Nat × Obj)),∃(cs2:List Value),μ=xs.length-i2/\(i2<=xs.length)/\(SlB 36 4 AJ i2 cJ cs2 sj)/\(RX w0 ([b3,b2,b1]++(sq.map (·.1)++sj.map (·.1))) w (Fe (Ff (xs.take i2))) cs2)/\AllEq σ [(1,V b1),(2,V b2),(3,V b3),(7,J ((i2:Int)))]/\FR w0 [] ([(b3,.cells #[J k,I t,.slice AK 0 cK,.slice AJ i2 cJ] 36),(b2,.cells #[J 0,I [],aQ,aQ] 36),(b1,.cells #[J k,I t,.slice A ks.length c,.slice B xs.length e] 36)]++(sq++(sj++[]))) w) _ ⟨0,AI,cI,si,[],O,(Nat.zero_le _),(hSi),(RX.nil),Jj,hF⟩ ?_;rintro μ σ w ⟨i2,AJ,cJ,sj,cs2,rfl,hi2,hSj,hDX,hs,hF⟩;refine Cg.slots hs ?_;clear hs;intro σ;refine Ga (Ea (Ba (Za O) (Ba (Mb Tb O) (Xb (Ie zQ O hF.F 2 O O) (Ba (Nf dX O) (Ba (Pg O O) (Ba (Dc O) ?_)))))));refine Bb (d:=80) O (λhg6=>?_) (λhg6=>?_);refine Ba (Mb Xc O) (Xb (Zg xQ O hF.F 2 O O) (Ba (Wm O O) (Ba (Rb O O) (Da ?_))));refine Jb O O (λhc3=>?_) (λhc3=>?_);refine Ka (Ha (Ga (Qa ?_)));refine Md (.of [11]) (bQ [0,1,2,3,4,5,6] (cQ [7,8,9] (.free 10 (.act 11 .nil)))) hF ?_;intro w hF hE;have hDX:=hDX.ext hE;refine⟨λwq=>FR w0 [] [(b3,.cells #[J k,I t,.slice AK 0 cK,.slice AJ i2 cJ] 36),(b2,.cells #[J 0,I [],aQ,aQ] 36),(b1,.cells #[J k,I t,.slice A ks.length c,.slice B xs.length e] 36)] wq,hF.mid 0 3,?_⟩
 refine Ib O (Mb Tb O) (Ng O (Ie zQ O C0 0 O O) (Ib O (Mb Tb O) (Ng O (Ie zQ O C0 2 O O) (Ib O (Za O) ?_))));obtain⟨ad7,cs7,hA7,hl7,hk7,hx7⟩:=hX.tree_elem (i:=i2) Aa;have ho7:=hx7.one_;refine Sa O (v:=.pointer (some (ad7.add (i2*4)))) (λw hC=>Na (i:=(i2:Int)) Wf O hA7 O Aa Aa) (Sa O (v:=.agg (List.toArray cs7)) (λw hC=>Wa (l:=cs7) aZ nZ O hl7 (hC.cells0 hk7)) ?_);refine Dd O (ih xs[i2] (eQ Aa) _ _ cs7 (hF.rep hx7) (hnx.2 _ (eQ Aa)) (by have:=Lg (List.getElem_mem (l:=xs) (n:=i2) Aa);omega)) (Ma EK O O) ?_;rintro _ w ⟨ct,rfl,hRt,hE⟩;have hlt:ct.length=4:=hRt.length.trans (Hc _);have hot:=hRt.one_;have hYX:=RX.made (ids:=[b3,b2,b1]++(sq.map (·.1)++sj.map (·.1))) hF.same.size (λx hx=>hF.lt_ids (by grind)) hRt;have hDX:=(hDX.ext hE).append hYX;have hF:=hF.ext hE;clear hE hYX;refine⟨hF.mid 0 3,?_⟩;refine Jf 1 O hF (Wl (l:=ct) dX nZ oX Ua Ua O hlt) ?_;intro b7 w hb7 hF hE;have hDX:=hDX.alloc hE hb7;refine⟨hF.mid 1 3,?_⟩;refine Jn ([(b7,.cells (List.toArray ct) 36),(b3,.cells #[J k,I t,.slice AK 0 cK,.slice AJ i2 cJ] 36),(b2,.cells #[J 0,I [],aQ,aQ] 36),(b1,.cells #[J k,I t,.slice A ks.length c,.slice B xs.length e] 36)]++sq) [] (news:=ct) (len':=i2+1) (ys:=cs2++ct) O Np hF hSj O O (by rw[hlt]) (λ_=>⟨_,O,Jc (hF.cellsAll 0 O)⟩) (Mi hot) (by simp only[maxLen];omega) (O) (O) Aa ?_;intro A8 c8 i_8 w hS8_i hF hE hnew;have hDX:=hDX.step (ids':=[b7,b3,b2,b1]++(sq.map (·.1)++i_8.map (·.1))) hE (by grind) (by grind);refine⟨hF.mid 1 3,?_⟩;refine Ib O (Mb Tb O) (Zp O 1 (l:=[.slice (A8) (i2+1) (c8)]) (cs':=#[J k,I t,.slice AK 0 cK,.slice (A8) (i2+1) (c8)]) hF mZ O (v:=.slice (A8) (i2+1) (c8)) O O Sl O Ab O ?_);intro w hF hE;have hDX:=hDX.store hE (by grind);have hF:FR w0 [] ([(b7,.cells (List.toArray ct) 36),(b3,.cells #[J k,I t,.slice AK 0 cK,.slice (A8) (i2+1) (c8)] 36),(b2,.cells #[J 0,I [],aQ,aQ] 36),(b1,.cells #[J k,I t,.slice A ks.length c,.slice B xs.length e] 36)]++(sq++(i_8++[]))) w:=hF
 refine Ic (Ya (Ha (Ja (Ba (Za O) (Ba (Bi (((i2+1:Nat):Int)) O O) (Ba (Fb O) (Va ?_)))))));refine Ta ⟨_,?_,i2+1,A8,c8,i_8,cs2++ct,O,Aa,(hS8_i),(by rw[W4 Aa];exact hDX.sub (by grind)),Jj,hF.drop 1⟩;omega;refine Bc (Yb O ?_);refine Ha (Ea (Xb (Bf aZ nZ O hF.F 0 O O) ?_));refine Fg 1 (l:=[J k,I t,.slice AK 0 cK,.slice AJ i2 cJ]) (cs':=#[J k,I t,.slice AK 0 cK,.slice AJ i2 cJ]) hF nZ O (v:=.agg #[J k,I t,.slice AK 0 cK,.slice AJ i2 cJ]) O O Sl O Ab O ?_;intro w hF hE;have hDX:=hDX.store hE (by grind);have hF:FR w0 [] ([(b3,.cells #[J k,I t,.slice AK 0 cK,.slice AJ i2 cJ] 36),(b2,.cells #[J k,I t,.slice AK 0 cK,.slice AJ i2 cJ] 36),(b1,.cells #[J k,I t,.slice A ks.length c,.slice B xs.length e] 36)]++(sq++(sj++[]))) w:=hF;refine Da (Db (Cb (La (Mg O (l:=[J k,I t,.slice AK 0 cK,.slice AJ i2 cJ]) O aZ nZ O (hF.cellsAll 1 O)) ?_)));refine⟨_,O,?_,hF.same⟩;have ej:i2=xs.length:=by omega
 subst ej;rw[List.take_length]at hDX;rw[sortT,if_neg (by assumption)];exact Rep.tree_mk hk ht (hSq.rep (pre:=[_,_,_]) (post:=sj++[]) hF (RX.nil (ids:=[])) O) (hSj.rep (pre:=[_,_,_]++sq) (post:=[]) (by simpa using hF) hDX (by rw[Eh,Qh,rQ]));refine Ca (Ca (Ca (Ba (Pb O O) (Da (Zd O ?_)))));refine Bc (Yb O ?_);refine Ha (Ea (Xb (Bf aZ nZ O hF.F 0 O O) ?_));refine Fg 1 (l:=[J k,I t,.slice AK 0 cK,.slice AJ i2 cJ]) (cs':=#[J k,I t,.slice AK 0 cK,.slice AJ i2 cJ]) hF nZ O (v:=.agg #[J k,I t,.slice AK 0 cK,.slice AJ i2 cJ]) O O Sl O Ab O ?_;intro w hF hE;have hDX:=hDX.store hE (by grind);have hF:FR w0 [] ([(b3,.cells #[J k,I t,.slice AK 0 cK,.slice AJ i2 cJ] 36),(b2,.cells #[J k,I t,.slice AK 0 cK,.slice AJ i2 cJ] 36),(b1,.cells #[J k,I t,.slice A ks.length c,.slice B xs.length e] 36)]++(sq++(sj++[]))) w:=hF;refine Da (Db (Cb (La (Mg O (l:=[J k,I t,.slice AK 0 cK,.slice AJ i2 cJ]) O aZ nZ O (hF.cellsAll 1 O)) ?_)));refine⟨_,O,?_,hF.same⟩;have ej:i2=xs.length:=by omega
 subst ej;rw[List.take_length]at hDX;rw[sortT,if_neg (by assumption)];exact Rep.tree_mk hk ht (hSq.rep (pre:=[_,_,_]) (post:=sj++[]) hF (RX.nil (ids:=[])) O) (hSj.rep (pre:=[_,_,_]++sq) (post:=[]) (by simpa using hF) hDX (by rw[Eh,Qh,rQ]))
theorem Z8(x:Tree):HP x:=Tree.ind QM x
end Go.Scarf
