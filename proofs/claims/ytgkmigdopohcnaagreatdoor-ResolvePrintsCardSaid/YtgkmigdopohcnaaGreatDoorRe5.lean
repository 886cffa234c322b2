/- A part of the proof. -/
import Derived.Test.YtgkmigdopohcnaaGreatDoorCp
set_option linter.all false
set_option maxHeartbeats 8000000
set_option maxRecDepth 10000
namespace Go.Scarf
open Go.RowKit Go.Proofs Go.Proofs.Tryz
def WR(m:Mm):Mm:=⟨m.pr,Mk m.sd⟩
theorem HL{S:Nat->Prop}{w:World}{t:List Mm}{A:Option Addr}{n c:Nat}(h:Rep S w (Mh t) [.slice A n c]) :
    ∃vals:List Value,vals.length=t.length*6/\RepL S w (t.map LD) vals/\(t.length≠0->∃ad,A=some ad/\∀j u,vals[j]? = some u->w.cell? (ad.add j)=some u):=by
  obtain⟨A',c',e,g1,g2,hr⟩:=Rep.slice_inv h;simp only[List.cons.injEq,Value.slice.injEq,and_true]at e;obtain⟨rfl,-,-⟩:=e;cases t with
  | nil=>exact⟨[],rfl,RepL.nil_mk,λh=>absurd rfl h⟩
  | cons m t =>
    obtain⟨ad,rfl,es,hc,hl⟩:=hr Ma;refine⟨es,?_,hl,λ_=>⟨ad,O,λj u hu=>?_⟩⟩
    ·have := RepL.length hl
     rw[this];clear this hl hc hr h;generalize m::t=l
     induction l with
     | nil=>rfl
     | cons x l ih=>rw[List.map_cons,Ud.sizeL,ih,EH,kQ];omega
    obtain⟨hj, rfl⟩ := List.getElem?_eq_some_iff.1 hu;exact (hc j hj).1
theorem B2{S:Nat->Prop}{w:World}:∀{t:List Mm}{vals:List Value}(h:RepL S w (t.map LD) vals){i:Nat}(hi:i<t.length),
    ∃x:Sv,vals.drop (i*6)=Ct t[i].pr x++vals.drop ((i+1)*6)/\Rep S w (Ve t[i].sd) x.cells/\t[i].pr.length<=9223372036854775807
  | [],_,_,i,hi=>by cases hi
  | m :: t, vals, h, 0, hi => by
    obtain⟨c1,c2,rfl,h1,-⟩:=RepL.cons_inv h;obtain⟨x,rfl,hx,hp⟩:=F4 h1;exact⟨x,by simp,hx,hp⟩
  | m :: t, vals, h, i + 1, hi => by
    obtain⟨c1,c2,rfl,h1,h2⟩:=RepL.cons_inv h;obtain⟨x,rfl,-,-⟩:=F4 h1;obtain⟨y,e,hy,hp⟩:=B2 h2 (i:=i) (by simpa using hi);refine⟨y,?_,hy,hp⟩;have e1:∀k,(Ct m.pr x++c2).drop ((k+1)*6)=c2.drop (k*6):=λk=>by
      rw[show (k+1)*6=(Ct m.pr x).length+k*6 from by simp[Ct];omega,<-List.drop_drop,List.drop_left]
    rw[e1,e1];exact e
theorem AZ{cur cs:List Value}(h:cs.length=cur.length):Wz cur 0 cs=cs:=by
  unfold Wz;rw[List.take_zero,List.nil_append,Nat.zero_add,h,List.drop_length,qQ]
theorem YI{w:World}{g n T:Nat}{v1 l r:List Value}{a:Value}(hh:w.heap[g]? = some (.cells (v1++(a::(l++r))).toArray T))(hv:v1.length=n):∀j (hj:j<l.length),w.cell? ((⟨g,n+1,none⟩:Addr).add j)=some l[j]:=λj hj=>by
  rw[Bh,Uc hh,List.getElem?_toArray,List.getElem?_append_right Aa,hv,show n+1+j-n=j+1 from by omega,List.getElem?_cons_succ,List.getElem?_append_left hj,List.getElem?_eq_getElem hj]
theorem U9:∀(l:List Value)(off:Nat)(cs:List Value),off+l.length<=cs.length->putA cs.toArray off l=(cs.take off++(l++cs.drop (off+l.length))).toArray
  | [],off,cs,h=>by simp[putA]
  | v :: l, off, cs, h => by
    rw[kQ]at h;rw[putA,List.setIfInBounds_toArray,U9 l (off+1) (cs.set off v) (by rw[List.length_set];omega)]
    congr 1
    have:=list_seg_step cs off v l h;simpa[sQ]using this
theorem OG{n:Nat}{v1 l l' r:List Value}{a:Value}(hv:v1.length=n)(hl:l'.length=l.length):putA (v1++(a::(l++r))).toArray (n+1) l'=(v1++(a::(l'++r))).toArray:=by
  have e:v1++(a::(l++r))=(v1++[a])++(l++r):=by simp
  rw[e,U9 _ _ _ (by simp;omega)]
  congr 1
  have h1:((v1++[a])++(l++r)).take (n+1)=v1++[a]:=by rw[<-hv];exact List.take_left' Ma
  have h2:((v1++[a])++(l++r)).drop (n+1+l'.length)=r:=by rw[<-sQ];exact List.drop_left' (by simp;omega)
  rw[h1,h2];simp
theorem OR(t:List Mm)(A:Option Addr)(c:Nat)(S:Nat->Prop)(w0:World)(hX:Rep S w0 (Mh t) [.slice A t.length c])(hm:∀m∈t,MmOk m)(htl:t.length<=1000000)(hG:Gl w0):Calls prog 40 #[.slice A t.length c] w0 (Dd λv w'=>∃(g:Nat)(vals:List Value),v=W g t.length t.length/\w'.heap[g]? = some (.cells vals.toArray 67)/\vals.length=t.length*6/\w0.heap.size<=g/\RX w0 [g] w' ((t.map WR).map LD) vals/\Same [] w0 w'):=by
 obtain⟨vals0,hv0,hR0,hc0⟩:=HL hX;refine Ia func40 O ntmps40 Eb (Yb _) ?_;have hF:=FR.start w0 [];refine Ea (Ba (Lr O) (Rb (Ba (Sf O) (Ba (Ch cX O) ?_))));refine My (v:=λb=>W b t.length t.length) (o:=.cells (Uk [I [],.bool false,J 0,I [],aQ,aQ] t.length).toArray 67) hF (KC (z:=.agg [I [],.bool false,J 0,I [],aQ,aQ].toArray) (zl:=[I [],.bool false,J 0,I [],aQ,aQ]) D5 Ub O O O Aa Ab) ?_;intro b1 w hb1 hF hE;clear hE;refine Ba (Lr O) (Rb (Ba (Sf O) (Ba (Sf O) ?_)));refine BV 0 vals0 t.length D5 hF rfl rfl rfl (Nat.min_self _) hv0 (λh=>by obtain⟨ad,e,hc⟩:=hc0 h;exact⟨ad,e,λj u hu=>hF.cell0 (hc j u hu)⟩) (by rw[Bm,hv0];simp) (Xp hR0.one_) ?_;intro w hF hE;clear hE;rw[AZ (by rw[Bm,hv0];rfl)]at hF;have hF:FR w0 [] [(b1,.cells ([]++vals0.drop (0*6)).toArray 67)] w:=hF;refine Da (Ga (Ea (Ba (Sf O) (Ba (Ch cX O) (Ba (Za O) (Da (Qa ?_)))))));refine Jc (λμ σ w=>∃(j:Nat),∃(v1:List Value),μ=t.length-j/\(j<=t.length)/\(v1.length=j*6)/\(RX w0 [b1] w (((t.take j).map WR).map LD) v1)/\AllEq σ [(3,W b1 t.length t.length),(12,J ((t.length:Nat))),(13,J ((j:Int)))]/\FR w0 [] [(b1,(.cells (v1++vals0.drop (j*6)).toArray 67))] w) _ ⟨0,[],O,(Nat.zero_le _),(O),(RX.nil),Oq,hF⟩ ?_;rintro μ σ w ⟨j,v1,rfl,hj,hv1,hV,hs,hF⟩;refine Cg.slots hs ?_;clear hs;intro σ;refine Ea (Ba (Di O O) (Da (Ga ?_)));refine Ib O O (λhc0=>?_) (λhc0=>?_);refine La (Fa (Ga (Qa (Ea (Ba (Za O) (Ba (Gb O) (Da ?_)))))));have hjl:j<t.length:=by omega
 obtain⟨x,hx6,hXs,hpr⟩:=B2 hR0 hjl;rw[hx6]at hF;have hF:FR w0 [] [(b1,(.cells (v1++(Ct t[j].pr x++vals0.drop ((j+1)*6))).toArray 67))] w:=hF;refine Ha (Ba (Sf O) (Ba (Za O) (Ba (Sf O) (Ba (Za O) ?_))));refine Ka (v:=.pointer (some ⟨b1,j*6,none⟩)) (Ce (i:=(j:Int)) (j*6) Qm O O Aa Aa (by rw[Int.toNat_natCast,Nat.zero_add])) (Ba (Ob Hm O) (Ka (v:=.agg (x.cells).toArray) (Wa (l:=x.cells) cZ oZ O O (YI (l:=x.cells) (hF.heap (i:=0) O) hv1)) ?_));refine Lb (N4 t[j].sd x S _ (hF.rep hXs) (hm _ (eQ hjl)).sd (hG.ext hF.same)) (Na BN O O) ?_;rintro _ w ⟨y,rfl,hRt,hE⟩;have hY:=RX.made (ids:=[b1]) hF.same.size (λx hx=>hF.lt_ids (by simpa using hx)) hRt;have hV:=hV.ext hE;have hF:=hF.ext hE;clear hE hRt;refine Ka (v:=.pointer (some ⟨b1,j*6,none⟩)) (Ce (i:=(j:Int)) (j*6) Qm O O Aa Aa (by rw[Int.toNat_natCast,Nat.zero_add])) (Ba (Ob Hm O) ?_);refine Ci 0 (l:=y.cells) (off:=j*6+1) (cs':=(v1++(Ct t[j].pr y++vals0.drop ((j+1)*6))).toArray) hF oZ O (v:=.agg y.cells.toArray) O O Ot O (by simp[Ct,hv1];omega) (OG hv1 O) ?_;intro w hF hE;have hV:=hV.store hE Ma;have hY:=hY.store hE Ma;have hF:FR w0 [] [(b1,(.cells (v1++(Ct t[j].pr y++vals0.drop ((j+1)*6))).toArray 67))] w:=hF;refine Ta (Bb (Fa (Ha (Ba (Ek (((j+1:Nat):Int)) O O) (Ba (Za O) (Ta ?_))))));refine Hb ⟨_,?_,j+1,v1++Ct t[j].pr y,O,Aa,(by rw[dQ,hv1];simp[Ct];omega),(by rw[iQ hjl,jQ,jQ];exact hV.append (RX.one (CN (m:=WR t[j]) hY.rep hpr))),Oq,(by rw[sQ];exact hF)⟩;omega;refine Ec (Ac O ?_);refine Fa (Ea (Ba (Sf O) (Ba (Lr O) (Da ?_))));refine Gc (v:=.slice _ _ _) O O ?_;obtain rfl:j=t.length:=by omega
 have e:v1++vals0.drop (t.length*6)=v1:=by rw[List.drop_eq_nil_of_le Aa,qQ]
 rw[e]at hF;exact⟨b1,v1,O,hF.heap (i:=0) O,hv1,hF.ge (i:=0) O,by rw[List.take_length]at hV;exact hV,hF.same⟩
abbrev zMm:List Value:=[I [],.bool false,J 0,I [],aQ,aQ]
theorem KF{a x r cs:List Value}{o:Nat}(ha:a.length=o)(hx:x.length=cs.length):Wz (a++(x++r)) o cs=a++(cs++r):=by
  unfold Wz;rw[List.take_left' ha]
  congr 2
  rw[<-sQ];exact List.drop_left' (by simp;omega)
section
variable {P:Program}{R:Exit->Act->World->Prop}{n:Nat}{kt:Kt}{s:Nat->Value}{w w0:World}{ops rest:List Oper}{Ds:List Nat}{bs_:List (Nat × Obj)}
variable {d:Nat}{ty:TypeId}{pos:String}{aft:Array Edge}{g:Option (Nat × Bool)}{ρ:Operand->Value}{dst:Option Nat}
theorem Hx{t e sz:Nat}{x y:Operand}{b len c:Nat}{k:IntKind}(m:Nat)(ht:Sj P t e sz)(hx:ρ x=W b len c)(hy:ρ y=.int k (m:Int))(hm:m<=len)(hc:m<c) :
    (execOp ρ ⟨dst,.slice t x (some y) none none,ty,pos,aft,g⟩).run P w=.ok (.value (.slice (some ⟨b,m*sz,none⟩) (len-m) (c-m))) w:=by
  have h:=Xv (P:=P) (w:=w) (dst:=dst) (ty:=ty) (pos:=pos) (aft:=aft) (g:=g) m ht hx hy hm;rw[if_neg Aa,Option.map_some,Bh,Nat.zero_add]at h;exact h
theorem IL{t e sz:Nat}{x y:Operand}{A:Option Addr}{len c:Nat}{k:IntKind}(m:Nat)(ht:Sj P t e sz)(hx:ρ x=.slice A len c)(hy:ρ y=.int k (m:Int))(hm:m<=c) :
    (execOp ρ ⟨dst,.slice t x none (some y) none,ty,pos,aft,g⟩).run P w=.ok (.value (.slice A m c)) w:=by
  have he:=RP ht.1;have ht':P.underlying t=some (.slice (P.elem t)):=by rw[he];exact ht.1
  have h:=run_slice_h (P:=P) w t A len c ht' k m Aa Aa;have hs:(sizeOf (P.elem t)).run P w=.ok sz w:=by rw[he];exact ht.2 w
  rw[hs]at h;have e1:sliced A 0 (m:Int).toNat c sz=.slice A m c:=by
    unfold sliced;simp only[Int.toNat_natCast,Nat.zero_mul,Nat.sub_zero];split
    ·rfl
    cases A <;> simp[D1]
  simp only[execOp,Option.map_none,Option.map_some,hx,hy,run_sliceAt_slice w t _ _ _ _ ht',Sem.run_bind,h,Result.andThen,e1];rfl
theorem o_appG{x y:Operand}{t e m bytes len c k c2:Nat}{a0 a:Addr}{z:Value}{zl:List Value}(olds news:List Value)(hE:Elems P t e m bytes)(hz0:(P.info? e).map (·.zero)=some (some z))(hc:z.cells=zl.toArray)(hF:FR w0 Ds bs_ w)(hx:ev n s x=.slice (some a0) len c)(hy:ev n s y=.slice (some a) k c2)
    (hlo:olds.length=len*m) (holds:∀j u,olds[j]? = some u->w.cell? (a0.add j)=some u) (hl:news.length=k*m) (hnews:∀j u,news[j]? = some u->w.cell? (a.add j)=some u) (hg:c<len+k) (hb:(len+k)*bytes<=140737488355328) (h63:len+k<=1000000000)
    (h:∀b c' junk w',b=w.heap.size->len+k<=c'->c'<=maxLen->junk.length=(c'-(len+k))*m->FR w0 Ds ((b,.cells (olds++(news++junk)).toArray e)::bs_) w'->Same [] w w'->Og P R n ops kt rest (Af s d (W b (len+k) c')) w')
    (hw:Fb ops n s ⟨some d,.call ⟨.builtin .append,#[x,y],#[t,t]⟩,ty,pos,aft,g⟩=true:=by rfl):Og P R n ops kt (⟨some d,.call ⟨.builtin .append,#[x,y],#[t,t]⟩,ty,pos,aft,g⟩::rest) s w:=by
  obtain⟨inf,z',hi,hz,hs,hby,hzs⟩:=hE.info;rw[hi]at hz0;have ez:inf.zero=some z:=by simpa using hz0
  have em:m=zl.length:=by
    rw[hz]at ez;rw[<-hzs,lQ ez,hc];simp
  have hr:=run_append_grow (P:=P) w t ty e inf z hE.ht hi ez a0 len c olds (by rw[hs];exact hlo) holds a k c2 news (by rw[hs];exact hl) hnews hg Aa (by rw[hby];exact growslice_fits Aa hb);rw[hc,Q0]at hr;have hge:=grownCap_ge w (len+k) c e;have hcm:grownCap w (len+k) c e<=maxLen:=grownCap_le_maxLen w (len+k) c e (by simp only[maxLen];omega);have hsm:Same [] w (w.drew.alloc (.cells (olds++(news++Uk zl (grownCap w (len+k) c e-(len+k)))).toArray e)):=(Same.drew w).trans (Same.alloc w.drew _);have hFn:FR w0 Ds ((w.heap.size,.cells (olds++(news++Uk zl (grownCap w (len+k) c e-(len+k)))).toArray e)::bs_) (w.drew.alloc (.cells (olds++(news++Uk zl (grownCap w (len+k) c e-(len+k)))).toArray e)):=hF.drew.alloc _;refine Ka (v:=.slice (some ⟨w.heap.size,0,none⟩) (len+k) (grownCap w (len+k) c e)) ?_ (h _ _ _ _ O hge hcm (by rw[Bm,em]) hFn hsm) hw;have e1:olds.toArray++news.toArray++(Uk zl (grownCap w (len+k) c e-(len+k))).toArray=(olds++(news++Uk zl (grownCap w (len+k) c e-(len+k)))).toArray:=by simp[sQ]
  rw[e1]at hr;exact Fv hx hy hr
end
theorem rdC{w0 w:World}{g T:Nat}{cs:List Value}(hE:Same [] w0 w)(hg:w0.heap[g]? = some (.cells cs.toArray T)):∀j u,cs[j]? = some u->w.cell? ((⟨g,0,none⟩:Addr).add j)=some u:=λj u hu=>by
  have h:w.heap[g]? = some (.cells cs.toArray T):=(hE.block g (Wb hg) Ma).trans hg;rw[Bh,Nat.zero_add,Uc h,List.getElem?_toArray];exact hu
theorem GY{l:List Value}{k j:Nat}{u:Value}(h:(l.take k)[j]? = some u):l[j]? = some u:=by
  rw[List.getElem?_take]at h;split at h
  ·exact h
  cases h
theorem insert_c(g h n i:Nat)(cs new:List Value)(w0:World)(hg:w0.heap[g]? = some (.cells cs.toArray 67))(hh:w0.heap[h]? = some (.cells new.toArray 67))(hcs:cs.length=n*6)(hnew:new.length=1*6)(hi:i<=n)(hn:n<=1000000)(h1c:∀v∈cs,one v=true)(h1n:∀v∈new,one v=true):Calls prog 43 #[W g n n,J (i:Int),W h 1 1] w0 (Dd λv w'=>∃(g' c':Nat)(vals:List Value),v=.slice (some ⟨g',0,none⟩) (n+1) c'/\w'.heap[g']? = some (.cells vals.toArray 67)/\n+1<=c'/\c'<=maxLen/\vals.length=c'*6/\vals.take ((n+1)*6)=cs.take (i*6)++(new++cs.drop (i*6))/\w0.heap.size<=g'/\Same [] w0 w'):=by
 refine Ia func43 O ntmps43 Eb (Km _ _ _) ?_;have hF:=FR.start w0 [];refine Ea (Ba (Lr O) (Rb (Ba (Sf O) (Ba (Za O) (Ka (v:=.slice ((if n=i then some ⟨g,0,none⟩ else (some ⟨g,0,none⟩:Option Addr).map (·.add (i*6)))) ((n-i)) ((n-i))) (Xv i Qm O O Aa) (Rb ?_))))));refine Ba (Sf O) (Ba (Ch cX O) (Ba (Gb O) (Da (Ga (Ea (Ba (Za O) (Ba (Qf O O) (Da ?_))))))));refine De (by rfl) (La (Fa (Ea (Ba (Sf O) (Ba (Ch cX O) (Ba (Gb O) (Da (Ga (Ea (Ba (Za O) (Ba (Za O) ?_)))))))))));refine Ba (Qf O O) (Da ?_);refine Ib O O (λhc1=>?_) (λhc1=>?_);refine Ea (Ba (Sf O) (Ba (Sf O) ?_));refine o_appG (z:=.agg zMm.toArray) (zl:=zMm) cs new D5 Ub O hF O O hcs (rdC hF.same hg) (by rw[hnew]) (rdC hF.same hh) Aa Aa Aa ?_;intro b1 c' junk w hb1 hle hcm hjl hF hE;clear hE;refine Ba (Lr O) (Da ?_);refine Gc (v:=.slice _ _ _) O O ?_;obtain rfl:i=n:=by omega
 exact⟨b1,c',_,O,hF.heap (i:=0) O,hle,hcm,by simp[hcs,hnew,hjl];have:=Nat.sub_mul c' (i+1) 6;omega,by rw[List.take_of_length_le (l:=cs) Aa,List.drop_eq_nil_of_le Aa,qQ,<-sQ];exact List.take_left' (by simp[hcs,hnew];omega),hF.ge (i:=0) O,hF.same⟩;refine La (Fa (Ga (Ea (Ba (Za O) (Ba (Za O) (Ba (Ek (((n+1:Nat):Int)) O O) (Ba (Sf O) (Ka (v:=J ((n:Nat))) (MD cX O) (Ba (Ho O O) (Da ?_))))))))));refine Ib O O (λhc2=>?_) (λhc2=>?_);refine Ea (Ba (Sf O) (Ba (Za O) (Ka (v:=W g i n) (IL i Qm O O Aa) (Ba (Za O) (Ba (Za O) (Ba (Ek (((n+1:Nat):Int)) O O) (Ba (Za O) (Ba (XQ (((n-i+1:Nat):Int)) O O) ?_))))))));refine o_appZ (z:=.agg zMm.toArray) (zl:=zMm) (k:=n-i+1) (cs.take (i*6)) D5 Ub O bX hF O O (by rw[List.length_take,hcs];omega) (λ_=>⟨_,O,λj u hu=>rdC hF.same hg j u (GY hu)⟩) Aa Aa Aa Aa Aa ?_;intro b1 c' junk w hb1 hle hcm hjl hF hE;clear hE;have eln:i+(n-i+1)=n+1:=by omega
 rw[eln]at hle hjl ⊢;have hF:FR w0 [] [(b1,.cells (cs.take (i*6)++(zMm++(Uk zMm (n-i)++junk))).toArray 67)] w:=by simpa[Uk,sQ]using hF
 refine Ba (Lr O) (Rb (Ba (Sf O) (Ba (Za O) (Ka (v:=.slice (some ⟨b1,i*6,none⟩) ((n+1-i)) ((c'-i))) (Hx i Qm O O Aa Aa) (Ba (Sf O) ?_)))));refine BV 0 new 1 D5 hF O O O (Nat.min_eq_left Aa) hnew (λ_=>⟨_,O,rdC hF.same hh⟩) (by simp[hcs,hnew];omega) (Xp h1n) ?_;intro w hF hE;clear hE;rw[KF (by rw[List.length_take,hcs];omega) (by rw[hnew];rfl)]at hF;have hF:FR w0 [] [(b1,.cells (cs.take (i*6)++(new++(Uk zMm (n-i)++junk))).toArray 67)] w:=hF;have e12:(cs.take (i*6)++(new++(Uk zMm (n-i)++junk)))=(cs.take (i*6)++new)++(Uk zMm (n-i)++junk):=by simp[sQ]
 rw[e12]at hF;refine Da (Ga ?_);refine Ke (.of []) (bQ [0,1,2,3,4,5,6,7] (.act 8 .nil)) hF ?_;rintro w hF -;refine⟨λwq=>FR w0 [] [] wq,hF.mid 1 0,?_⟩;refine Jb O (Sf O) (Jb O (Za O) (Jb O (Za O) (Jb O (Ek (((i+1:Nat):Int)) O O) (Cb O (v:=.slice (some ⟨b1,(i+1)*6,none⟩) ((n+1-(i+1))) ((c'-(i+1)))) (λw hC=>Hx (i+1) Qm O O Aa Aa) (Jb O (Sf O) (Jb O (Za O) (Cb O (v:=.slice (some ⟨g,i*6,none⟩) ((n-i)) ((n-i))) (λw hC=>Hx i Qm O O Aa Aa) ?_)))))));refine f_copy O 0 (cs.drop (i*6)) (n-i) D5 hF O O O (Nat.min_eq_left Aa) (by rw[List.length_drop,hcs];omega) (λ_=>⟨_,O,λj u hu=>by rw[Bh,<-Nat.zero_add (i*6+j),<-Bh];exact rdC hF.same hg _ u (by rw[<-List.getElem?_drop];exact hu)⟩) (by simp[hcs,hnew,Bm];omega) (λv hv=>Xp h1c v (List.mem_of_mem_drop hv)) ?_;intro w hF hE;clear hE;rw[KF (by rw[dQ,List.length_take,hcs,hnew];omega) (by rw[Bm,List.length_drop,hcs];simp;omega)]at hF;have hF:FR w0 [] [(b1,.cells ((cs.take (i*6)++new)++(cs.drop (i*6)++junk)).toArray 67)] w:=hF;refine⟨hF.clear,?_⟩;refine Hc (Fa (Ea (Ba (Sf O) (Ba (Lr O) (Da ?_)))));refine Gc (v:=.slice _ _ _) O O ?_;exact⟨b1,c',_,O,hF.heap (i:=0) O,hle,hcm,by simp[hcs,hnew,hjl];have:=Nat.sub_mul c' (n+1) 6;omega,by rw[<-sQ,List.take_left' (by simp[hcs,hnew];omega),sQ],hF.ge (i:=0) O,hF.same⟩;exact absurd (show (n:Int)<((n+1:Nat):Int) by omega) hc2
end Go.Scarf
