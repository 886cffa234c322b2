/- A part of the proof. -/
import Derived.Test.YtgkmigdopohcnaaGreatDoorRow7
set_option linter.all false
set_option maxHeartbeats 8000000
set_option maxRecDepth 10000
namespace Go.Scarf
open Go.RowKit Go.Proofs Go.Proofs.Tryz
def ZN(m:Mm):Mm:=⟨m.pr,Th m.sd⟩
theorem SG{S:Nat->Prop}{w:World}{t:List Mm}{A:Option Addr}{n c:Nat}(h:Rep S w (If t) [.slice A n c]) :
    ∃vals:List Value,vals.length=t.length*6/\RepL S w (t.map W4) vals/\(t.length≠0->∃ad,A=some ad/\∀j u,vals[j]? = some u->w.cell? (ad.add j)=some u):=by
  obtain⟨A',c',e,g1,g2,hr⟩:=Rep.slice_inv h;simp only[List.cons.injEq,Value.slice.injEq,and_true]at e;obtain⟨rfl,-,-⟩:=e;cases t with
  | nil=>exact⟨[],rfl,RepL.nil_mk,λh=>absurd rfl h⟩
  | cons m t =>
    obtain⟨ad,rfl,es,hc,hl⟩:=hr La;refine⟨es,?_,hl,λ_=>⟨ad,O,λj u hu=>?_⟩⟩
    ·have := RepL.length hl
     rw[this];clear this hl hc hr h;generalize m::t=l
     induction l with
     | nil=>rfl
     | cons x l ih=>rw[List.map_cons,Xc.sizeL,ih,UD,kQ];omega
    obtain⟨hj, rfl⟩ := List.getElem?_eq_some_iff.1 hu;exact (hc j hj).1
theorem Jy{S:Nat->Prop}{w:World}:∀{t:List Mm}{vals:List Value}(h:RepL S w (t.map W4) vals){i:Nat}(hi:i<t.length),
    ∃x:Sv,vals.drop (i*6)=Gr t[i].pr x++vals.drop ((i+1)*6)/\Rep S w (Od t[i].sd) x.cells/\t[i].pr.length<=9223372036854775807
  | [],_,_,i,hi=>by cases hi
  | m :: t, vals, h, 0, hi => by
    obtain⟨c1,c2,rfl,h1,-⟩:=RepL.cons_inv h;obtain⟨x,rfl,hx,hp⟩:=Wz h1;exact⟨x,by simp,hx,hp⟩
  | m :: t, vals, h, i + 1, hi => by
    obtain⟨c1,c2,rfl,h1,h2⟩:=RepL.cons_inv h;obtain⟨x,rfl,-,-⟩:=Wz h1;obtain⟨y,e,hy,hp⟩:=Jy h2 (i:=i) (by simpa using hi);refine⟨y,?_,hy,hp⟩;have e1:∀k,(Gr m.pr x++c2).drop ((k+1)*6)=c2.drop (k*6):=λk=>by
      rw[show (k+1)*6=(Gr m.pr x).length+k*6 from by simp[Gr];omega,<-List.drop_drop,List.drop_left]
    rw[e1,e1];exact e
theorem WQ{cur cs:List Value}(h:cs.length=cur.length):Ui cur 0 cs=cs:=by
  unfold Ui;rw[List.take_zero,List.nil_append,Nat.zero_add,h,List.drop_length,qQ]
theorem NG{w:World}{g n T:Nat}{v1 l r:List Value}{a:Value}(hh:w.heap[g]? = some (.cells (v1++(a::(l++r))).toArray T))(hv:v1.length=n):∀j (hj:j<l.length),w.cell? ((⟨g,n+1,none⟩:Addr).add j)=some l[j]:=λj hj=>by
  rw[Ef,Cc hh,List.getElem?_toArray,List.getElem?_append_right Ba,hv,show n+1+j-n=j+1 from by omega,List.getElem?_cons_succ,List.getElem?_append_left hj,List.getElem?_eq_getElem hj]
theorem Q5:∀(l:List Value)(off:Nat)(cs:List Value),off+l.length<=cs.length->putA cs.toArray off l=(cs.take off++(l++cs.drop (off+l.length))).toArray
  | [],off,cs,h=>by simp[putA]
  | v :: l, off, cs, h => by
    rw[kQ]at h;rw[putA,List.setIfInBounds_toArray,Q5 l (off+1) (cs.set off v) (by rw[List.length_set];omega)]
    congr 1
    have:=list_seg_step cs off v l h;simpa[sQ]using this
theorem BE{n:Nat}{v1 l l' r:List Value}{a:Value}(hv:v1.length=n)(hl:l'.length=l.length):putA (v1++(a::(l++r))).toArray (n+1) l'=(v1++(a::(l'++r))).toArray:=by
  have e:v1++(a::(l++r))=(v1++[a])++(l++r):=by simp
  rw[e,Q5 _ _ _ (by simp;omega)]
  congr 1
  have h1:((v1++[a])++(l++r)).take (n+1)=v1++[a]:=by rw[<-hv];exact List.take_left' La
  have h2:((v1++[a])++(l++r)).drop (n+1+l'.length)=r:=by rw[<-sQ];exact List.drop_left' (by simp;omega)
  rw[h1,h2];simp
theorem N7(t:List Mm)(A:Option Addr)(c:Nat)(S:Nat->Prop)(w0:World)(hX:Rep S w0 (If t) [.slice A t.length c])(hm:∀m∈t,MmOk m)(htl:t.length<=1000000)(hG:Gl w0):Calls prog 40 #[.slice A t.length c] w0 (Pc λv w'=>∃(g:Nat)(vals:List Value),v=W g t.length t.length/\w'.heap[g]? = some (.cells vals.toArray 67)/\vals.length=t.length*6/\w0.heap.size<=g/\RX w0 [g] w' ((t.map ZN).map W4) vals/\Same [] w0 w'):=by
 obtain⟨vals0,hv0,hR0,hc0⟩:=SG hX;refine Ea func40 O ntmps40 Db (Rb _) ?_;have hF:=FR.start w0 [];refine Da (Aa (Em O) (Qb (Aa (Wd O) (Aa (Ug bX O) ?_))));refine Ax (v:=λb=>W b t.length t.length) (o:=.cells (Rg [I [],.bool false,J 0,I [],aQ,aQ] t.length).toArray 67) hF (B8 (z:=.agg [I [],.bool false,J 0,I [],aQ,aQ].toArray) (zl:=[I [],.bool false,J 0,I [],aQ,aQ]) Ix Ib O O O Ba Ta) ?_;intro b1 w hb1 hF hE;clear hE;refine Aa (Em O) (Qb (Aa (Wd O) (Aa (Wd O) ?_)));refine RR 0 vals0 t.length Ix hF rfl rfl rfl (Nat.min_self _) hv0 (λh=>by obtain⟨ad,e,hc⟩:=hc0 h;exact⟨ad,e,λj u hu=>hF.cell0 (hc j u hu)⟩) (by rw[Fl,hv0];simp) (Um hR0.one_) ?_;intro w hF hE;clear hE;rw[WQ (by rw[Fl,hv0];rfl)]at hF;have hF:FR w0 [] [(b1,.cells ([]++vals0.drop (0*6)).toArray 67)] w:=hF;refine Ca (Fa (Da (Aa (Wd O) (Aa (Ug bX O) (Aa (Gb O) (Ca (Va ?_)))))));refine Tc (λμ σ w=>∃(j:Nat),∃(v1:List Value),μ=t.length-j/\(j<=t.length)/\(v1.length=j*6)/\(RX w0 [b1] w (((t.take j).map ZN).map W4) v1)/\AllEq σ [(3,W b1 t.length t.length),(12,J ((t.length:Nat))),(13,J ((j:Int)))]/\FR w0 [] [(b1,(.cells (v1++vals0.drop (j*6)).toArray 67))] w) _ ⟨0,[],O,(Nat.zero_le _),(O),(RX.nil),O_,hF⟩ ?_;rintro μ σ w ⟨j,v1,rfl,hj,hv1,hV,hs,hF⟩;refine Cg.slots hs ?_;clear hs;intro σ;refine Da (Aa (Sl O O) (Ca (Fa ?_)));refine Pb O O (λhc0=>?_) (λhc0=>?_);refine Na (Ga (Fa (Va (Da (Aa (Gb O) (Aa (Lb O) (Ca ?_)))))));have hjl:j<t.length:=by omega
 obtain⟨x,hx6,hXs,hpr⟩:=Jy hR0 hjl;rw[hx6]at hF;have hF:FR w0 [] [(b1,(.cells (v1++(Gr t[j].pr x++vals0.drop ((j+1)*6))).toArray 67))] w:=hF;refine Ha (Aa (Wd O) (Aa (Gb O) (Aa (Wd O) (Aa (Gb O) ?_))));refine Ja (v:=.pointer (some ⟨b1,j*6,none⟩)) (Cd (i:=(j:Int)) (j*6) Qi O O Ba Ba (by rw[Int.toNat_natCast,Nat.zero_add])) (Aa (Ob Wj O) (Ja (v:=.agg (x.cells).toArray) (Xa (l:=x.cells) bZ nZ O O (NG (l:=x.cells) (hF.heap (i:=0) O) hv1)) ?_));refine Ya (Tz t[j].sd x S _ (hF.rep hXs) (hm _ (eQ hjl)).sd (hG.ext hF.same)) (Ma TJ O O) ?_;rintro _ w ⟨y,rfl,hRt,hE⟩;have hY:=RX.made (ids:=[b1]) hF.same.size (λx hx=>hF.lt_ids (by simpa using hx)) hRt;have hV:=hV.ext hE;have hF:=hF.ext hE;clear hE hRt;refine Ja (v:=.pointer (some ⟨b1,j*6,none⟩)) (Cd (i:=(j:Int)) (j*6) Qi O O Ba Ba (by rw[Int.toNat_natCast,Nat.zero_add])) (Aa (Ob Wj O) ?_);refine Eh 0 (l:=y.cells) (off:=j*6+1) (cs':=(v1++(Gr t[j].pr y++vals0.drop ((j+1)*6))).toArray) hF nZ O (v:=.agg y.cells.toArray) O O Is O (by simp[Gr,hv1];omega) (BE hv1 O) ?_;intro w hF hE;have hV:=hV.store hE La;have hY:=hY.store hE La;have hF:FR w0 [] [(b1,(.cells (v1++(Gr t[j].pr y++vals0.drop ((j+1)*6))).toArray 67))] w:=hF;refine Ua (Cb (Ga (Ha (Aa (Bo (((j+1:Nat):Int)) O O) (Aa (Gb O) (Ua ?_))))));refine Xb ⟨_,?_,j+1,v1++Gr t[j].pr y,O,Ba,(by rw[dQ,hv1];simp[Gr];omega),(by rw[iQ hjl,jQ,jQ];exact hV.append (RX.one (QJ (m:=ZN t[j]) hY.rep hpr))),O_,(by rw[sQ];exact hF)⟩;omega;refine Kc (Ec O ?_);refine Ga (Da (Aa (Wd O) (Aa (Em O) (Ca ?_))));refine Hc (v:=.slice _ _ _) O O ?_;obtain rfl:j=t.length:=by omega
 have e:v1++vals0.drop (t.length*6)=v1:=by rw[List.drop_eq_nil_of_le Ba,qQ]
 rw[e]at hF;exact⟨b1,v1,O,hF.heap (i:=0) O,hv1,hF.ge (i:=0) O,by rw[List.take_length]at hV;exact hV,hF.same⟩
abbrev SF:List Value:=[I [],.bool false,J 0,I [],aQ,aQ]
theorem DE{a x r cs:List Value}{o:Nat}(ha:a.length=o)(hx:x.length=cs.length):Ui (a++(x++r)) o cs=a++(cs++r):=by
  unfold Ui;rw[List.take_left' ha]
  congr 2
  rw[<-sQ];exact List.drop_left' (by simp;omega)
section
variable {P:Program}{R:Exit->Act->World->Prop}{n:Nat}{kt:Kt}{s:Nat->Value}{w w0:World}{ops rest:List Oper}{Ds:List Nat}{bs_:List (Nat × Obj)}
variable {d:Nat}{ty:TypeId}{pos:String}{aft:Array Edge}{g:Option (Nat × Bool)}{ρ:Operand->Value}{dst:Option Nat}
theorem Vu{t e sz:Nat}{x y:Operand}{b len c:Nat}{k:IntKind}(m:Nat)(ht:Dh P t e sz)(hx:ρ x=W b len c)(hy:ρ y=.int k (m:Int))(hm:m<=len)(hc:m<c) :
    (execOp ρ ⟨dst,.slice t x (some y) none none,ty,pos,aft,g⟩).run P w=.ok (.value (.slice (some ⟨b,m*sz,none⟩) (len-m) (c-m))) w:=by
  have h:=Ep (P:=P) (w:=w) (dst:=dst) (ty:=ty) (pos:=pos) (aft:=aft) (g:=g) m ht hx hy hm;rw[if_neg Ba,Option.map_some,Ef,Nat.zero_add]at h;exact h
theorem U3{t e sz:Nat}{x y:Operand}{A:Option Addr}{len c:Nat}{k:IntKind}(m:Nat)(ht:Dh P t e sz)(hx:ρ x=.slice A len c)(hy:ρ y=.int k (m:Int))(hm:m<=c) :
    (execOp ρ ⟨dst,.slice t x none (some y) none,ty,pos,aft,g⟩).run P w=.ok (.value (.slice A m c)) w:=by
  have he:=F0 ht.1;have ht':P.underlying t=some (.slice (P.elem t)):=by rw[he];exact ht.1
  have h:=run_slice_h (P:=P) w t A len c ht' k m Ba Ba;have hs:(sizeOf (P.elem t)).run P w=.ok sz w:=by rw[he];exact ht.2 w
  rw[hs]at h;have e1:sliced A 0 (m:Int).toNat c sz=.slice A m c:=by
    unfold sliced;simp only[Int.toNat_natCast,Nat.zero_mul,Nat.sub_zero];split
    ·rfl
    cases A <;> simp[Vx]
  simp only[execOp,Option.map_none,Option.map_some,hx,hy,run_sliceAt_slice w t _ _ _ _ ht',Sem.run_bind,h,Result.andThen,e1];rfl
theorem o_appG{x y:Operand}{t e m bytes len c k c2:Nat}{a0 a:Addr}{z:Value}{zl:List Value}(olds news:List Value)(hE:Elems P t e m bytes)(hz0:(P.info? e).map (·.zero)=some (some z))(hc:z.cells=zl.toArray)(hF:FR w0 Ds bs_ w)(hx:ev n s x=.slice (some a0) len c)(hy:ev n s y=.slice (some a) k c2)
    (hlo:olds.length=len*m) (holds:∀j u,olds[j]? = some u->w.cell? (a0.add j)=some u) (hl:news.length=k*m) (hnews:∀j u,news[j]? = some u->w.cell? (a.add j)=some u) (hg:c<len+k) (hb:(len+k)*bytes<=140737488355328) (h63:len+k<=1000000000)
    (h:∀b c' junk w',b=w.heap.size->len+k<=c'->c'<=maxLen->junk.length=(c'-(len+k))*m->FR w0 Ds ((b,.cells (olds++(news++junk)).toArray e)::bs_) w'->Same [] w w'->Og P R n ops kt rest (Ge s d (W b (len+k) c')) w')
    (hw:Wa ops n s ⟨some d,.call ⟨.builtin .append,#[x,y],#[t,t]⟩,ty,pos,aft,g⟩=true:=by rfl):Og P R n ops kt (⟨some d,.call ⟨.builtin .append,#[x,y],#[t,t]⟩,ty,pos,aft,g⟩::rest) s w:=by
  obtain⟨inf,z',hi,hz,hs,hby,hzs⟩:=hE.info;rw[hi]at hz0;have ez:inf.zero=some z:=by simpa using hz0
  have em:m=zl.length:=by
    rw[hz]at ez;rw[<-hzs,lQ ez,hc];simp
  have hr:=run_append_grow (P:=P) w t ty e inf z hE.ht hi ez a0 len c olds (by rw[hs];exact hlo) holds a k c2 news (by rw[hs];exact hl) hnews hg Ba (by rw[hby];exact growslice_fits Ba hb);rw[hc,Gt]at hr;have hge:=grownCap_ge w (len+k) c e;have hcm:grownCap w (len+k) c e<=maxLen:=grownCap_le_maxLen w (len+k) c e (by simp only[maxLen];omega);have hsm:Same [] w (w.drew.alloc (.cells (olds++(news++Rg zl (grownCap w (len+k) c e-(len+k)))).toArray e)):=(Same.drew w).trans (Same.alloc w.drew _);have hFn:FR w0 Ds ((w.heap.size,.cells (olds++(news++Rg zl (grownCap w (len+k) c e-(len+k)))).toArray e)::bs_) (w.drew.alloc (.cells (olds++(news++Rg zl (grownCap w (len+k) c e-(len+k)))).toArray e)):=hF.drew.alloc _;refine Ja (v:=.slice (some ⟨w.heap.size,0,none⟩) (len+k) (grownCap w (len+k) c e)) ?_ (h _ _ _ _ O hge hcm (by rw[Fl,em]) hFn hsm) hw;have e1:olds.toArray++news.toArray++(Rg zl (grownCap w (len+k) c e-(len+k))).toArray=(olds++(news++Rg zl (grownCap w (len+k) c e-(len+k)))).toArray:=by simp[sQ]
  rw[e1]at hr;exact Bp hx hy hr
end
theorem rdC{w0 w:World}{g T:Nat}{cs:List Value}(hE:Same [] w0 w)(hg:w0.heap[g]? = some (.cells cs.toArray T)):∀j u,cs[j]? = some u->w.cell? ((⟨g,0,none⟩:Addr).add j)=some u:=λj u hu=>by
  have h:w.heap[g]? = some (.cells cs.toArray T):=(hE.block g (Kb hg) La).trans hg;rw[Ef,Nat.zero_add,Cc h,List.getElem?_toArray];exact hu
theorem WR{l:List Value}{k j:Nat}{u:Value}(h:(l.take k)[j]? = some u):l[j]? = some u:=by
  rw[List.getElem?_take]at h;split at h
  ·exact h
  cases h
theorem TQ(g h n i:Nat)(cs new:List Value)(w0:World)(hg:w0.heap[g]? = some (.cells cs.toArray 67))(hh:w0.heap[h]? = some (.cells new.toArray 67))(hcs:cs.length=n*6)(hnew:new.length=1*6)(hi:i<=n)(hn:n<=1000000)(h1c:∀v∈cs,one v=true)(h1n:∀v∈new,one v=true):Calls prog 43 #[W g n n,J (i:Int),W h 1 1] w0 (Pc λv w'=>∃(g' c':Nat)(vals:List Value),v=.slice (some ⟨g',0,none⟩) (n+1) c'/\w'.heap[g']? = some (.cells vals.toArray 67)/\n+1<=c'/\c'<=maxLen/\vals.length=c'*6/\vals.take ((n+1)*6)=cs.take (i*6)++(new++cs.drop (i*6))/\w0.heap.size<=g'/\Same [] w0 w'):=by
 refine Ea func43 O ntmps43 Db (Fk _ _ _) ?_;have hF:=FR.start w0 [];refine Da (Aa (Em O) (Qb (Aa (Wd O) (Aa (Gb O) (Ja (v:=.slice ((if n=i then some ⟨g,0,none⟩ else (some ⟨g,0,none⟩:Option Addr).map (·.add (i*6)))) ((n-i)) ((n-i))) (Ep i Qi O O Ba) (Qb ?_))))));refine Aa (Wd O) (Aa (Ug bX O) (Aa (Lb O) (Ca (Fa (Da (Aa (Gb O) (Aa (Yh O O) (Ca ?_))))))));refine We (by rfl) (Na (Ga (Da (Aa (Wd O) (Aa (Ug bX O) (Aa (Lb O) (Ca (Fa (Da (Aa (Gb O) (Aa (Gb O) ?_)))))))))));refine Aa (Yh O O) (Ca ?_);refine Pb O O (λhc1=>?_) (λhc1=>?_);refine Da (Aa (Wd O) (Aa (Wd O) ?_));refine o_appG (z:=.agg SF.toArray) (zl:=SF) cs new Ix Ib O hF O O hcs (rdC hF.same hg) (by rw[hnew]) (rdC hF.same hh) Ba Ba Ba ?_;intro b1 c' junk w hb1 hle hcm hjl hF hE;clear hE;refine Aa (Em O) (Ca ?_);refine Hc (v:=.slice _ _ _) O O ?_;obtain rfl:i=n:=by omega
 exact⟨b1,c',_,O,hF.heap (i:=0) O,hle,hcm,by simp[hcs,hnew,hjl];have:=Nat.sub_mul c' (i+1) 6;omega,by rw[List.take_of_length_le (l:=cs) Ba,List.drop_eq_nil_of_le Ba,qQ,<-sQ];exact List.take_left' (by simp[hcs,hnew];omega),hF.ge (i:=0) O,hF.same⟩;refine Na (Ga (Fa (Da (Aa (Gb O) (Aa (Gb O) (Aa (Bo (((n+1:Nat):Int)) O O) (Aa (Wd O) (Ja (v:=J ((n:Nat))) (AB bX O) (Aa (Gz O O) (Ca ?_))))))))));refine Pb O O (λhc2=>?_) (λhc2=>?_);refine Da (Aa (Wd O) (Aa (Gb O) (Ja (v:=W g i n) (U3 i Qi O O Ba) (Aa (Gb O) (Aa (Gb O) (Aa (Bo (((n+1:Nat):Int)) O O) (Aa (Gb O) (Aa (MV (((n-i+1:Nat):Int)) O O) ?_))))))));refine o_appZ (z:=.agg SF.toArray) (zl:=SF) (k:=n-i+1) (cs.take (i*6)) Ix Ib O zZ hF O O (by rw[List.length_take,hcs];omega) (λ_=>⟨_,O,λj u hu=>rdC hF.same hg j u (WR hu)⟩) Ba Ba Ba Ba Ba ?_;intro b1 c' junk w hb1 hle hcm hjl hF hE;clear hE;have eln:i+(n-i+1)=n+1:=by omega
 rw[eln]at hle hjl ⊢;have hF:FR w0 [] [(b1,.cells (cs.take (i*6)++(SF++(Rg SF (n-i)++junk))).toArray 67)] w:=by simpa[Rg,sQ]using hF
 refine Aa (Em O) (Qb (Aa (Wd O) (Aa (Gb O) (Ja (v:=.slice (some ⟨b1,i*6,none⟩) ((n+1-i)) ((c'-i))) (Vu i Qi O O Ba Ba) (Aa (Wd O) ?_)))));refine RR 0 new 1 Ix hF O O O (Nat.min_eq_left Ba) hnew (λ_=>⟨_,O,rdC hF.same hh⟩) (by simp[hcs,hnew];omega) (Um h1n) ?_;intro w hF hE;clear hE;rw[DE (by rw[List.length_take,hcs];omega) (by rw[hnew];rfl)]at hF;have hF:FR w0 [] [(b1,.cells (cs.take (i*6)++(new++(Rg SF (n-i)++junk))).toArray 67)] w:=hF;have e12:(cs.take (i*6)++(new++(Rg SF (n-i)++junk)))=(cs.take (i*6)++new)++(Rg SF (n-i)++junk):=by simp[sQ]
 rw[e12]at hF;refine Ca (Fa ?_);refine Ld (.of []) (bQ [0,1,2,3,4,5,6,7] (.act 8 .nil)) hF ?_;rintro w hF -;refine⟨λwq=>FR w0 [] [] wq,hF.mid 1 0,?_⟩;refine Fb O (Wd O) (Fb O (Gb O) (Fb O (Gb O) (Fb O (Bo (((i+1:Nat):Int)) O O) (Bb O (v:=.slice (some ⟨b1,(i+1)*6,none⟩) ((n+1-(i+1))) ((c'-(i+1)))) (λw hC=>Vu (i+1) Qi O O Ba Ba) (Fb O (Wd O) (Fb O (Gb O) (Bb O (v:=.slice (some ⟨g,i*6,none⟩) ((n-i)) ((n-i))) (λw hC=>Vu i Qi O O Ba Ba) ?_)))))));refine f_copy O 0 (cs.drop (i*6)) (n-i) Ix hF O O O (Nat.min_eq_left Ba) (by rw[List.length_drop,hcs];omega) (λ_=>⟨_,O,λj u hu=>by rw[Ef,<-Nat.zero_add (i*6+j),<-Ef];exact rdC hF.same hg _ u (by rw[<-List.getElem?_drop];exact hu)⟩) (by simp[hcs,hnew,Fl];omega) (λv hv=>Um h1c v (List.mem_of_mem_drop hv)) ?_;intro w hF hE;clear hE;rw[DE (by rw[dQ,List.length_take,hcs,hnew];omega) (by rw[Fl,List.length_drop,hcs];simp;omega)]at hF;have hF:FR w0 [] [(b1,.cells ((cs.take (i*6)++new)++(cs.drop (i*6)++junk)).toArray 67)] w:=hF;refine⟨hF.clear,?_⟩;refine Ac (Ga (Da (Aa (Wd O) (Aa (Em O) (Ca ?_)))));refine Hc (v:=.slice _ _ _) O O ?_;exact⟨b1,c',_,O,hF.heap (i:=0) O,hle,hcm,by simp[hcs,hnew,hjl];have:=Nat.sub_mul c' (n+1) 6;omega,by rw[<-sQ,List.take_left' (by simp[hcs,hnew];omega),sQ],hF.ge (i:=0) O,hF.same⟩;exact absurd (show (n:Int)<((n+1:Nat):Int) by omega) hc2
end Go.Scarf
