/- A part of the proof. -/
import Derived.Test.YtidlkjpohhbbcaaGreatDoorRe14
set_option linter.all false
set_option maxHeartbeats 8000000
set_option maxRecDepth 10000
namespace Go.Scarf
open Go.RowKit Go.Proofs Go.Proofs.Tryz
theorem Ir{x:Tree}{m:Int}(hm:0<=m)(h2:m<=200)(h:Vn x m=true):Nb x<=200/\Kd x<=2048:=by
  obtain⟨h1,-,h3⟩:=QF hm h;have:=DA x h3;exact⟨by omega,by omega⟩
structure Sm27 (c:Cf):Prop where
  b:Nb c.b.val<=200/\Kd c.b.val<=2048
  l:Nb c.l.val<=200/\Kd c.l.val<=2048
  r:Nb c.r.val<=200/\Kd c.r.val<=2048
theorem sm27{c:Cf}(h:(Vn c.b.val 100&&(Vn c.l.val 100&&Vn c.r.val 100))=true):Sm27 c:=by
  rw[Bool.and_eq_true,Bool.and_eq_true]at h;exact⟨Ir Aa Aa h.1,Ir Aa Aa h.2.1,Ir Aa Aa h.2.2⟩
theorem Sm27.p{c:Cf}(h:Sm27 c):CfP c:=by
  obtain⟨⟨b1,b2⟩,⟨l1,l2⟩,⟨r1,r2⟩⟩:=h;exact⟨⟨⟨by omega,Mn _ Aa⟩,⟨by omega,Mn _ Aa⟩,⟨by omega,Mn _ Aa⟩⟩,by omega,by omega,by omega,by omega⟩
theorem Sm27.turn{c:Cf}(h:Sm27 c):Sm27 (turnC c):=⟨h.b,h.r,h.l⟩
theorem CvOf.turn{S:Nat->Prop}{w:World}{c:Cf}{q:Cv}(h:CvOf S w c q):CvOf S w (turnC c) ⟨none,0,0,q.k,q.x,q.z,q.y⟩ :=
  ⟨rfl,h.k,Rep.nil_slice 0 Aa none,h.x,h.z,h.y⟩
theorem cls_one{k:Int}(h:1<=k/\k<=6):(Rg (Kw k)).length<=2048:=by
  rcases (by omega:k=1\/k=2\/k=3\/k=4\/k=5\/k=6)with rfl|rfl|rfl|rfl|rfl|rfl <;>
    exact of_decide_eq_true Qb
theorem GE(s:Sd):Nb (Ud s)<=1+Nb s.val/\Kd (Ud s)<=Kd s.val:=by
  unfold Ud;split
  ·simp only[Nb,Ec,Kd,Rk,Mk,List.length_nil];omega
  simp only[Nb,Ec,Kd,Rk,Mk,List.length_nil];omega
theorem ZZ{c:Cf}(h:Sm27 c):(Uf c).1.length<=1000000000:=by
  unfold Uf;split
  ·rename_i hr
   simp only;rw[G5];unfold Sm;split
   ·have hk:1<=c.cls/\c.cls<=6:=by
      unfold Jk at hr;simp only[Bool.and_eq_true,decide_eq_true_eq]at hr;exact hr.2.2.2
    have h1:=cls_one hk;obtain⟨b1,b2⟩:=GE c.b;obtain⟨l1,l2⟩:=GE c.l;obtain⟨r1,r2⟩:=GE c.r;obtain⟨⟨hb1,hb2⟩,⟨hl1,hl2⟩,⟨hr1,hr2⟩⟩:=h;have hx:=Ey (q:=λx=>Nb x<=201/\Kd x<=2048) (x:=Ud c.l) (y:=Ud c.r) ⟨by omega,by omega⟩ ⟨by omega,by omega⟩;have hs:Nb (Po c)<=700/\Kd (Po c)<=2048:=by
      unfold Po Y_;simp only[Nb,Ec,Kd,Rk,Mk,List.length_nil];omega
    have hb:=R2 false 0 2048 (0+Vc (Po c)) (Po c) 0 hs.2 (gQ _);have:Nb (Po c)*(12*2048+40+2*(0*(0+Vc (Po c))))<=700*(12*2048+40):=by
      rw[Nat.zero_mul,Nat.mul_zero,Nat.add_zero];exact Nat.mul_le_mul_right _ hs.1
    omega
   simp
  simp
structure FewM (t:List Mm):Prop where
  n:t.length<=270
  m:∀m∈t,Vn m.sd.val 60=true/\m.pr.length<=2048
theorem keys27{x:Tree}{m:Int}(hm:0<=m)(h2:m<=200)(h:Vn x m=true):x.keys.length<=1000:=by
  obtain⟨k,t,ks,xs⟩:=x;have:=(QF hm h).1;simp only[Tree.keys];simp only[Pn]at this;omega
theorem UK{s:Sd}{m:Int}(hm:0<=m)(h2:m<=200)(h:Vn s.val m=true):SdOk s/\s.val.keys.length<=1000000000:=by
  obtain⟨h1,h3⟩:=Ir hm h2 h;have:=keys27 hm h2 h;exact⟨⟨by omega,Mn _ Aa⟩,by omega⟩
theorem FewM.ok{t:List Mm}(h:FewM t):∀m∈t,MmOk m:=λm hm=>by
  obtain⟨h1,h2⟩:=h.m m hm;obtain⟨h3,h4⟩:=UK Aa Aa h1;exact⟨h3,by omega,h4⟩
theorem rec_len(t:List Mm)(c:Cf)(s:Sd):(Ef t c s).1.length<=t.length+1:=by
  unfold Ef;split
  ·simp only
   split
   ·simp only[dQ,kQ,List.length_take,List.length_drop];omega
   split
   ·simp
   simp only[dQ,kQ,List.length_take,List.length_drop];omega
  simp
theorem for_len(t:List Mm)(c:Cf):(Gg t c).1.length<=t.length:=by
  unfold Gg;split
  ·split
   ·simp only[dQ,List.length_take,List.length_drop];omega
   exact gQ _
  simp
theorem ZO{t:List Mm}{j:Nat}(hs:∀i (hi:i<t.length),i<j->Vn t[i].sd.val 60=true/\t[i].pr.length<=2048)(hj:∀hj:j<t.length,Vn t[j].sd.val 60=true/\t[j].pr.length<=2048):∀i (hi:i<t.length),i<j+1->Vn t[i].sd.val 60=true/\t[i].pr.length<=2048:=λi hi h2=>by
  by_cases e:i=j
  ·subst e;exact hj hi
  exact hs i hi Aa
theorem few27_c(t:List Mm)(A:Option Addr)(c:Nat)(S:Nat->Prop)(w0:World)(hX:Rep S w0 (Xd t) [.slice A t.length c]):Calls prog 7 #[.slice A t.length c] w0 (Yc λv w'=>∃b:Bool,v=.bool b/\(b=true->FewM t)/\Same [] w0 w'):=by
 have hXl:=hX.slice_len;simp only[rQ]at hXl;refine Fa func7 O ntmps7 Ab (Wb _) ?_;have hF:=FR.start w0 [];refine Ea (Ba (Kb O) (Da (Ga (Ea (Ba (Fb O) (Da (Qa ?_)))))));refine Fc (λμ σ w=>∃(j:Nat),μ=t.length-j/\(j<=t.length/\j<=300)/\(∀i (hi:i<t.length),i<j->Vn t[i].sd.val 60=true/\t[i].pr.length<=2048)/\AllEq σ [(0,.slice A t.length c),(3,J ((j:Int)))]/\FR w0 [] [] w) _ ⟨0,O,Aa,(λi _ h=>by omega),Rq,hF⟩ ?_;rintro μ σ w ⟨j,rfl,hj,hs_,hs,hF⟩;refine Cg.slots hs ?_;clear hs;intro σ;refine Ga (Ea (Ba (Za O) (Ba (Hd O) (Ba (Nf zZ O) (Ba (Pg O O) (Ba (Dc O) ?_))))));refine Bb (d:=9) O (λhg0=>?_) (λhg0=>?_);refine Ba (Za O) (Ba (Pg O O) (Ba (Rb O O) (Da ?_)));refine Jb O O (λhc0=>?_) (λhc0=>?_);refine Ka (Ha (Ga (Qa (Ea (Ba (Hd O) (Ba (Za O) ?_))))));obtain⟨ad1,q1,hA1,hk1,hx1,hp1⟩:=hX.mm_elem (i:=j) Aa;refine Ia (v:=.pointer (some (ad1.add (j*6)))) (Na (i:=(j:Int)) Ye O hA1 O Aa Aa) (Ia (v:=.pointer (some ((ad1.add (j*6)).add 1))) (Zb (a:=ad1.add (j*6)) Xg O) (Ia (v:=.pointer (some (((ad1.add (j*6)).add 1).add 1))) (Zb (a:=(ad1.add (j*6)).add 1) We O) (Ia (v:=.agg (q1.v.cells).toArray) (Wa (l:=q1.v.cells) aZ nZ O O (Re (Re (l:=q1.cells) (hF.cells0 hk1) 1 O) 1 O)) ?_)));refine Pa hF (SI t[j].sd.val 60 Ua Ua _ _ q1.v.cells (hF.rep (Cd hx1).2.2.2.2)) (Xa DI O O O) ?_;intro w hF;refine Ba (Kb O) (Lb (Ba (Dc O) (Ba (Di O) (Ba (Dc O) ?_))));refine Sc (d:=24) O (λhg2=>?_) (λhg2=>?_);refine Ca (Ca (Ca (Ca (Ca (Ca (Ca (Ba (Rb O O) (Da (Yd O (Ea (Ba (Kb O) ?_)))))))))));refine Da (Gc (v:=.bool false) O O ?_);exact⟨_,O,λhb=>(by cases hb),hF.same⟩;refine Ba (Hd O) (Ba (Za O) ?_);obtain⟨ad3,q3,hA3,hk3,hx3,hp3⟩:=hX.mm_elem (i:=j) Aa;refine Ia (v:=.pointer (some (ad3.add (j*6)))) (Na (i:=(j:Int)) Ye O hA3 O Aa Aa) (Ia (v:=.pointer (some ((ad3.add (j*6)).add 0))) (Zb (a:=ad3.add (j*6)) Dh O) (Ia (v:=I (t[j].pr)) (Nc iZ O (hF.cell0 (hk3 0 Ab))) (Ba (Sk kX O) (Ba (Mo O O) (Ba (Pb O O) (Da ?_))))))
 refine Jb O O (λhc1=>?_) (λhc1=>?_);refine Ea (Ba (Kb O) (Da ?_));refine Gc (v:=.bool false) O O ?_;exact⟨_,O,λhb=>(by cases hb),hF.same⟩;refine Ka (Ya (Ha (Ja (Ba (Za O) (Ba (Bi (((j+1:Nat):Int)) O O) (Ba (Fb O) (Va ?_)))))));refine Ta ⟨_,?_,j+1,rfl,Aa,(ZO hs_ (λ_=>⟨by first|assumption|simp_all,by omega⟩)),Rq,hF⟩;omega;refine Bc (Yb O ?_);refine Ha (Ea (Ba (Hd O) (Ba (Nf zZ O) (Ba (EB O O) (Ba (Kb O) (Da ?_))))));refine Gc (v:=.bool _) O O ?_;exact⟨_,rfl,λhb=>by have:=of_decide_eq_true hb;exact⟨by omega,λm hm=>by obtain⟨i,hi,rfl⟩:=List.getElem_of_mem hm;exact hs_ i hi Aa⟩,hF.same⟩;refine Ca (Ca (Ba (Pb O O) (Da (Zd O ?_))));refine Bc (Yb O ?_);refine Ha (Ea (Ba (Hd O) (Ba (Nf zZ O) (Ba (EB O O) (Ba (Kb O) (Da ?_))))));refine Gc (v:=.bool _) O O ?_;exact⟨_,rfl,λhb=>by have:=of_decide_eq_true hb;exact⟨by omega,λm hm=>by obtain⟨i,hi,rfl⟩:=List.getElem_of_mem hm;exact hs_ i hi Aa⟩,hF.same⟩
section
variable {P:Program}{w:World}{ty:TypeId}{pos:String}{aft:Array Edge}{g:Option (Nat × Bool)}{ρ:Operand->Value}{dst:Option Nat}
theorem WO{t e sz:Nat}{x y z u:Operand}{A:Option Addr}{len c:Nat}{k1 k2 k3:IntKind}(l h m:Nat)(ht:Ki P t e sz)(hx:ρ x=.slice A len c)(hy:ρ y=.int k1 (l:Int))(hz:ρ z=.int k2 (h:Int))(hu:ρ u=.int k3 (m:Int))(h1:l<=h)(h2:h<=m)(h3:m<=c) :
    (execOp ρ ⟨dst,.slice t x (some y) (some z) (some u),ty,pos,aft,g⟩).run P w=.ok (.value (.slice (if m=l then A else A.map (·.add (l*sz))) (h-l) (m-l))) w:=by
  have he:=Z0 ht.1;have ht':P.underlying t=some (.slice (P.elem t)):=by rw[he];exact ht.1
  have hh:=run_slice_lhm (P:=P) w t A len c ht' k1 k2 k3 l h m Aa Aa Aa Aa;have hs:(sizeOf (P.elem t)).run P w=.ok sz w:=by rw[he];exact ht.2 w
  rw[hs]at hh;simp only[execOp,Option.map_none,Option.map_some,hx,hy,hz,hu,run_sliceAt_slice w t _ _ _ _ ht',Sem.run_bind,hh,Result.andThen,sliced,Int.toNat_natCast];rfl
theorem AR{t e sz:Nat}{x y z:Operand}{b len c:Nat}{k1 k2:IntKind}(l h:Nat)(ht:Ki P t e sz)(hx:ρ x=W b len c)(hy:ρ y=.int k1 (l:Int))(hz:ρ z=.int k2 (h:Int))(h1:l<=h)(h2:h<=c)(h3:l<c) :
    (execOp ρ ⟨dst,.slice t x (some y) (some z) none,ty,pos,aft,g⟩).run P w=.ok (.value (.slice (some ⟨b,l*sz,none⟩) (h-l) (c-l))) w:=by
  have he:=Z0 ht.1;have ht':P.underlying t=some (.slice (P.elem t)):=by rw[he];exact ht.1
  have hh:=run_slice_lh (P:=P) w t (some ⟨b,0,none⟩) len c ht' k1 k2 l h Aa Aa Aa;have hs:(sizeOf (P.elem t)).run P w=.ok sz w:=by rw[he];exact ht.2 w
  rw[hs]at hh;simp only[execOp,Option.map_none,Option.map_some,hx,hy,hz,run_sliceAt_slice w t _ _ _ _ ht',Sem.run_bind,hh,Result.andThen,sliced,Int.toNat_natCast];rw[if_neg Aa,Yf,Nat.zero_add];rfl
theorem FP{t e sz:Nat}{x y:Operand}{b len c:Nat}{k:IntKind}(m:Nat)(ht:Ki P t e sz)(hx:ρ x=W b len c)(hy:ρ y=.int k (m:Int))(hm:m<=len) :
    (execOp ρ ⟨dst,.slice t x (some y) none none,ty,pos,aft,g⟩).run P w=.ok (.value (.slice (some ⟨b,(if c=m then 0 else m*sz),none⟩) (len-m) (c-m))) w:=by
  have h:=Um (P:=P) (w:=w) (dst:=dst) (ty:=ty) (pos:=pos) (aft:=aft) (g:=g) m ht hx hy hm;rw[h];split
  ·rfl
  rw[Option.map_some,Yf,Nat.zero_add]
end
theorem del_src{w0 w:World}{Ds:List Nat}{g n i T:Nat}{cs:List Value}(hF:FR w0 Ds [(g,.cells cs.toArray T)] w)(hcs:cs.length=n*6):∀j u,(cs.drop ((i+1)*6))[j]? = some u->w.cell? ((⟨g,(if n=i+1 then 0 else (i+1)*6),none⟩:Addr).add j)=some u:=λj u hu=>by
  rw[List.getElem?_drop]at hu;have hlt:(i+1)*6+j<cs.length:=(List.getElem?_eq_some_iff.1 hu).1;rw[if_neg Aa,Yf,Zc (hF.heap (i:=0) rfl),List.getElem?_toArray];exact hu
theorem MC{cs:List Value}{n i:Nat}(hcs:cs.length=n*6)(hi:i<n):(Vk (Vk cs (i*6) (cs.drop ((i+1)*6))) ((n-1)*6) (Jh F5 1)).length=n*6/\(Vk (Vk cs (i*6) (cs.drop ((i+1)*6))) ((n-1)*6) (Jh F5 1)).take ((n-1)*6)=cs.take (i*6)++cs.drop ((i+1)*6):=by
  have h1:(Vk cs (i*6) (cs.drop ((i+1)*6))).length=n*6:=by simp[Vk,hcs];omega
  have hz:(Jh F5 1).length=6:=rfl;refine⟨by rw[Vk];simp[h1,hz];omega,?_⟩;have h2:((Vk cs (i*6) (cs.drop ((i+1)*6))).take ((n-1)*6)).length=(n-1)*6:=by rw[List.length_take,h1];omega
  rw[Vk,List.take_left' h2];rw[Vk,<-sQ];have h3:(cs.take (i*6)++cs.drop ((i+1)*6)).length=(n-1)*6:=by simp[hcs];omega
  exact List.take_left' h3
theorem delete_c(g n i:Nat)(cs:List Value)(w0:World)(hg:w0.heap[g]? = some (.cells cs.toArray 44))(hcs:cs.length=n*6)(hi:i<n)(hn:n<=1000000)(h1c:∀v∈cs,one v=true):Calls prog 62 #[W g n n,J (i:Int),J ((i+1:Nat):Int)] w0 (Yc λv w'=>∃vals:List Value,v=W g (n-1) n/\w'.heap[g]? = some (.cells vals.toArray 44)/\vals.length=n*6/\vals.take ((n-1)*6)=cs.take (i*6)++cs.drop ((i+1)*6)/\Same [g] w0 w'):=by
 refine Fa func62 O ntmps62 Ab (Ik _ _ _) ?_;have hF:FR w0 [g] [(g,.cells cs.toArray 44)] w0:=FR.open_ (by intro q hq;rw[pQ.1 hq];exact⟨hg,by simp⟩) Oa;refine Ea (Ba (Yi O) (Lb (Ba (Hd O) (Ba (Za O) (Ba (Za O) (Ba (Hd O) (Ba (Nf zZ O) (Ia (v:=.slice ((if n=i then some ⟨g,0,none⟩ else (some ⟨g,0,none⟩:Option Addr).map (·.add (i*6)))) ((i+1-i)) ((n-i))) (WO i (i+1) n Ye O O O O Aa Aa Aa) (Va ?_)))))))));refine Ha (Ga (Ea (Ba (Za O) (Ba (Za O) (Ia (v:=.bool false) (Xf (Er O O) Aa) (Da (R0 O (Ea ?_))))))));refine Ba (Hd O) (Ba (Nf zZ O) (Ba (Fb O) (Da (Ga ?_))));refine Md (.of []) (bQ [0,1,2,3,4,5] (.act 6 (.free 7 .nil))) hF ?_;rintro w hF -;refine⟨λwq=>FR w0 [g] [] wq,hF.mid 1 0,?_⟩;refine Ib O (Hd O) (Ib O (Za O) (Sa O (v:=W g i n) (λw hC=>S8 i Ye O O Aa) (Ib O (Hd O) (Ib O (Za O) (Sa O (v:=.slice (some ⟨g,(if n=i+1 then 0 else (i+1)*6),none⟩) ((n-(i+1))) ((n-(i+1)))) (λw hC=>FP (i+1) Ye O O Aa) ?_)))));refine f_appR O 0 (k:=n-(i+1)) (cs.drop ((i+1)*6)) To hF O O O (by rw[List.length_drop,hcs];omega) (del_src hF hcs) Aa (by rw[List.length_drop,hcs];omega) (λv hv=>Mi h1c v (List.mem_of_mem_drop hv)) ?_;intro w hF hE;clear hE;have eln:i+(n-(i+1))=n-1:=by omega
 rw[eln];have hF:FR w0 [g] [(g,.cells (Vk cs (i*6) (cs.drop ((i+1)*6))).toArray 44)] w:=hF;refine⟨hF.clear,?_⟩;refine Ib O (Yi O) (Ic (Ha (Ea (Ba (Hd O) (Ba (Hd O) (Ba (Nf zZ O) (Ba (Za O) (Ia (v:=.slice (some ⟨g,(n-1)*6,none⟩) ((n-(n-1))) ((n-(n-1)))) (AR (n-1) n Ye O O O Aa Aa Aa) ?_))))))));refine o_clear 0 (q:=n-(n-1)) (z:=.agg F5.toArray) (zl:=F5) To qX O Ua hF O O Aa (by rw[show n-(n-1)=1 by omega];simp[Vk,Jh,hcs];omega) ?_;intro w hF hE;clear hE;rw[show n-(n-1)=1 by omega]at hF;have hF:FR w0 [g] [(g,.cells (Vk (Vk cs (i*6) (cs.drop ((i+1)*6))) ((n-1)*6) (Jh F5 1)).toArray 44)] w:=hF;refine Lb (Ba (Hd O) (Ba (Yi O) (Da ?_)));refine Gc (v:=.slice _ _ _) O O ?_;exact⟨_,O,hF.heap (i:=0) O,(MC hcs hi).1,(MC hcs hi).2,hF.same⟩
theorem forget_c(t:List Mm)(A:Option Addr)(c:Nat)(cf:Cf)(q:Cv)(S S2:Nat->Prop)(w0:World)(hX:Rep S w0 (Xd t) [.slice A t.length c])(hm:∀m∈t,MmOk m)(htl:t.length<=1000000)(hq:CvOf S2 w0 cf q)(hP:CfP cf)(hG:Gl w0):Calls prog 22 #[.slice A t.length c,.agg q.cells.toArray] w0 (Yc λv w'=>∃(A':Option Addr)(c':Nat),v=.tuple #[.slice A' (Gg t cf).1.length c',.bool (Gg t cf).2]/\Rep (Btw w0 w') w' (Xd (Gg t cf).1) [.slice A' (Gg t cf).1.length c']/\Same [] w0 w'):=by
 refine Fa func22 O ntmps22 Ab (Uc _ _) ?_;have hF:=FR.start w0 [];refine Ea (Ce hF O ?_);rintro b1 w hb1 hF -;refine Ba (Yi O) (Ba (Kb O) (Da (Ga (Ea (Ba (Hd O) ?_)))));refine Pa hF (Rp t A c S _ (hF.rep hX) hm (hG.ext hF.same)) (Ma G7 O O) ?_;intro w hF;refine Ba (Di O) (Da ?_);refine Jd O O (λhc0=>?_) (λhc0=>?_);have hR0:Te t=false:=by simpa using hc0
 refine Ea (Ba (Yi O) (Ba (Kb O) (Da ?_)));refine Db (Cb (La (Oc (v:=.slice _ _ _) (x:=.bool false) O O O) ?_));have e:Gg t cf=([],false):=by unfold Gg;rw[if_neg (by rw[hR0];decide)]
 rw[e];exact⟨none,0,O,Rep.nil_slice 0 Aa none,hF.same⟩;have hR1:Te t=true:=by simpa using hc0
 refine Ka (Ha (Ea (Ba (Hd O) ?_)));have hsz:=hF.same.size;refine Eb (VB t A c S _ (hF.rep hX) hm htl (hG.ext hF.same)) (Ma en_56 O O) ?_;rintro _ w ⟨gb,vals,rfl,hgb,hvl,hge,hV,hE⟩;have hF:=hF.takeB hE hgb hge;rw[TJ hR1]at hV;have hV:=hV.base hsz;clear hE hgb;refine Ba (Yi O) (Lb (Ba (Hd O) (Xb (Bf fZ pZ O hF.F 1 O O) ?_)));refine Eb (VR t A c cf q S S2 _ (hF.rep hX) hm htl ⟨hq.n,hq.k,hF.rep hq.p,hF.rep hq.x,hF.rep hq.y,hF.rep hq.z⟩ hP (hG.ext hF.same)) (Xa en_61 O O O) ?_;rintro _ w ⟨rfl,hE⟩;have hF:=hF.ext hE;have hV:=hV.ext hE;refine Ba (Mj O) (Ba (Rj O O) (Ba (Ym O O) (Ba (Fb O) (Ba (Kb O) (Da (Ga (Ea (Ba (Dc O) (Da ?_)))))))));refine Jd O O (λhc1=>?_) (λhc1=>?_);have hkl:=O6 (by assumption);refine Ja (Ba (Hd O) (Ba (Za O) (Ba (Za O) (Ba (Bi ((((Qe t cf).1+1:Nat):Int)) O O) ?_))));refine Eb (delete_c gb t.length (Qe t cf).1 vals _ (hF.heap (i:=0) O) hvl hkl htl (RepL.one_ hV)) (Af en_62 O O O O) ?_;rintro _ w ⟨vals2,rfl,hg2,hvl2,htk2,hE⟩;have hV:=hV.store hE Oa;have hF:=hF.change 0 rfl hE hg2;clear hE hg2;refine Ba (Yi O) (Lb (Ba (Hd O) (Ba (Dc O) (Ba (Yi O) (Ba (Kb O) (Da ?_))))));refine Db (Cb (La (Oc (v:=.slice _ _ _) (x:=.bool _) O O O) ?_));have e:Gg t cf=(t.take (Qe t cf).1++t.drop ((Qe t cf).1+1),true):=by unfold Gg;rw[if_pos hR1,if_pos hc1]
 rw[e];have el:(t.take (Qe t cf).1++t.drop ((Qe t cf).1+1)).length=t.length-1:=by simp only[dQ,List.length_take,List.length_drop];omega
 simp only[el];refine⟨some ⟨gb,0,none⟩,t.length,by rw[hc1],Zr (ids_:=[gb]) (hF.heap (i:=0) O) ?_ (hF.ge (i:=0) O) el.symm Aa (by simp only[maxLen];omega),hF.same⟩;rw[htk2,jQ];exact RepL.append (Ui hV (Qe t cf).1 Aa).1 (Ui hV ((Qe t cf).1+1) Aa).2;refine Ka (Ha (Ea (Ba (Hd O) (Ba (Dc O) (Ba (Yi O) (Ba (Kb O) (Da ?_)))))));refine Db (Cb (La (Oc (v:=.slice _ _ _) (x:=.bool _) O O O) ?_));have e:Gg t cf=(t,false):=by unfold Gg;rw[if_pos hR1,if_neg (by rw[hc1];decide)]
 rw[e];dsimp only;exact⟨some ⟨gb,0,none⟩,t.length,by rw[hc1],Zr (ids_:=[gb]) (hF.heap (i:=0) O) (by rw[List.take_of_length_le Aa];exact hV) (hF.ge (i:=0) O) O (gQ _) (by simp only[maxLen];omega),hF.same⟩
structure SdZ (s:Sd):Prop where
  sz:Nb s.val<=1000000
  ks:Pn s.val<=1000000
  mx:Kd s.val<=16000000
structure CfZ (c:Cf):Prop where
  b:SdZ c.b
  l:SdZ c.l
  r:SdZ c.r
theorem Ht{s:Sd}(h:SdZ s):Nb (Ud s)<=1000001/\Kd (Ud s)<=16000000:=by
  have h1:=h.sz;have h2:=h.mx;unfold Ud;split <;> simp[Nb,Ec,Kd,Rk,Mk,h2] <;> omega
theorem BC{c:Cf}(h:CfZ c):Nb (Po c)<=1000000000/\Kd (Po c)<=16777216:=by
  have hb:=Ht h.b;have hl:=Ht h.l;have hr:=Ht h.r;have hp:=Ey (q:=λt=>Nb t<=1000001/\Kd t<=16000000) hl hr;have hc:=V8 (Kw c.cls);unfold Po Y_;refine⟨?_,?_⟩
  ·simp only[Nb,Ec];omega
  simp only[Kd, Rk, Mk, List.length_nil];omega
theorem WP(A:Option Addr)(n c:Nat)(w0:World):Calls prog 39 #[.slice A n c] w0 (Yc λv w'=>v=.agg #[J 5,I [],aQ,.slice A n c]/\Same [] w0 w'):=by
 refine Fa func39 O ntmps39 Ab (Wb _) ?_;have hF:=FR.start w0 [];refine Ea (Pc (cs:=#[J 0,I [],aQ,aQ]) hF oX O ?_);rintro b1 w hb1 hF -;refine Lb (Ba (Hd O) ?_);refine Ia (w':=w) (v:=.agg #[J 5,I [],aQ,.slice A n c]) Qb (Ge hF nZ O O Pi ?_);rintro w hF -;refine Da (Db (Cb (La (Mg O (l:=[J 5,I [],aQ,.slice A n c]) O aZ nZ O (hF.cellsAll 0 O)) ?_)));exact⟨O,hF.same⟩
theorem Bz(s:Sd)(x:Sv)(S:Nat->Prop)(w0:World)(hX:Rep S w0 (Le s) x.cells)(hs:SdZ s):QJ 41 #[.agg x.cells.toArray] (Ob (Ud s)) w0:=by
 have hx:=Cd hX;refine Fa func41 O ntmps41 Ab (Wb _) ?_;have hF:=FR.start w0 [];refine Ea (Ce hF O ?_);rintro b1 w hb1 hF -;refine Pc (cs:=#[J 0,I [],aQ,aQ]) hF oX O ?_;rintro b2 w hb2 hF -;refine Da (Ga (Ea (Ba (Mb Ni O) (Xb (X3 dZ O hF.F 1 O O) (Ba (Di O) (Da ?_))))));refine Jd O O (λhc0=>?_) (λhc0=>?_);have h0:s.has=false:=by rw[<-hx.1];simpa using hc0
 refine Ea (Pa hF (WP none 0 0 _) (Ma en_39 O O) ?_);intro w hF;refine Ge hF nZ O O Pi ?_;rintro w hF -;refine Da (Db (Cb (La (Mg O (l:=[J 5,I [],aQ,aQ]) O aZ nZ O (hF.cellsAll 0 O)) ?_)));have e:Ud s=.node 5 [] [] []:=by unfold Ud;rw[if_neg (by rw[h0];decide)]
 rw[e];exact⟨_,O,Rep.tree_mk (ks:=[]) (xs:=[]) ⟨by decide,by decide⟩ Oa (Rep.nil_slice 0 Aa none) (Rep.nil_slice 0 Aa none),hF.same⟩;have h0:s.has=true:=by rw[<-hx.1];simpa using hc0
 refine Ka (Ha (Ea (Ba (Mb We O) (Ia (v:=.agg (x.v.cells).toArray) (Wa (l:=x.v.cells) aZ nZ O O (hF.part 1 1 O O)) ?_))));refine Eb (R9 s.val _ _ x.v.cells (hF.rep hx.2.2.2.2) (by have:=hs.sz;omega) (by have:=hs.ks;omega)) (Ma MU O O) ?_;rintro _ w ⟨ct,rfl,hRt,hE⟩;obtain⟨q,rfl,-⟩:=Vg hRt;have hY:=RX.made (ids:=[b2,b1]) hF.same.size (λx hx=>hF.lt_ids (by simpa using hx)) hRt;have hF:=hF.ext hE;clear hE hRt;refine Mh 1 hF (Gb (cs:=(q.cells).toArray) dX nZ oX Ua Ua Qb) ?_;intro b3 w hb3 hF hE;have hY:=hY.alloc hE hb3;refine Eb (WP (some ⟨b3,0,none⟩) 1 1 _) (Ma en_39 O O) ?_;rintro _ w ⟨rfl,hE⟩;have hF:=hF.ext hE;have hY:=hY.ext hE;refine Ge hF nZ O O Tr ?_;intro w hF hE;have hY:=hY.store hE (by grind);refine Da (Db (Cb (La (Mg O (l:=[J 5,I [],aQ,W b3 1 1]) O aZ nZ O (hF.cellsAll 1 O)) ?_)));have e:Ud s=.node 5 [] [] [s.val]:=by unfold Ud;rw[if_pos h0]
 rw[e]
 ·exact⟨_,O,Rep.tree_mk (ks:=[]) (xs:=[s.val]) ⟨by decide,by decide⟩ Oa (Rep.nil_slice 0 Aa none) ((hF.rowS 0 O (n:=1) (RepL.cons_mk (c2:=[]) hY.done RepL.nil_mk) O Aa).weaken λb hb hl=>hb.elim id λe=>by rw[e];exact⟨hF.ge (i:=0) O,hF.lt (i:=0) O,_,_,hF.heap (i:=0) O⟩),hF.same⟩
theorem P0(s:Sd)(x:Sv)(k:Int)(S:Nat->Prop)(w0:World)(hX:Rep S w0 (Le s) x.cells)(hs:SdZ s):Calls prog 52 #[.agg x.cells.toArray,J k] w0 (Yc λv w'=>v=.bool (Sq s k)/\Same [] w0 w'):=by
 have hx:=Cd hX;refine Fa func52 O ntmps52 Ab (Uc _ _) ?_;have hF:=FR.start w0 [];refine Ea (Ce hF O ?_);rintro b1 w hb1 hF -;refine Ba (Kb O) (Lb (Ba (Mb We O) (Ia (v:=.agg (x.v.cells).toArray) (Wa (l:=x.v.cells) aZ nZ O O (hF.part 0 1 O O)) ?_)));refine Pa hF (JG s.val (by have:=hs.sz;omega) (by have:=hs.mx;omega) _ _ x.v.cells (hF.rep hx.2.2.2.2)) (Ma en_71 O O) ?_;intro w hF;refine Ba (Kb O) (Lb (Ba (Mb Ni O) (Xb (X3 dZ O hF.F 0 O O) (Ba (Di O) (Ba (Dc O) ?_)))));refine Sc (d:=12) O (λhg0=>?_) (λhg0=>?_);refine Ca (Ca (Ca (Ca (Ca (Ca (Ca (Ca (Ca (Ca (Ca (Ba (Rb O O) (Ba (Kb O) (Va ?_)))))))))))));refine Ha (Gc (v:=.bool true) O O ?_);refine⟨congrArg Value.bool ?_,hF.same⟩;have h1:=hx.1;have h2:=hx.2.1;unfold Sq;simp_all;refine Ba (Dc O) (Ba (Dc O) ?_);refine Sc (d:=14) O (λhg1=>?_) (λhg1=>?_);refine Ba (Za O) (Ba (Wm O O) (Ba (Dc O) ?_));refine Bb (d:=17) O (λhg2=>?_) (λhg2=>?_);refine Ca (Ca (Ca (Ca (Ba (Rb O O) (Ba (Rb O O) (Ba (Pb O O) (Ba (Kb O) (Da ?_))))))));refine Gc (v:=.bool true) O O ⟨congrArg Value.bool ?_,hF.same⟩;have h1:=hx.1;have h2:=hx.2.1;unfold Sq;simp_all;refine Ba (Mb We O) (Ba (Mb Xc O) (Xb (Zg xQ O hF.F 0 O O) (Ba (Of O O) (Ba (Pb O O) (Ba (Rb O O) (Ba (Pb O O) (Ba (Kb O) (Da ?_))))))));refine Gc (v:=.bool _) O O ⟨congrArg Value.bool ?_,hF.same⟩;have h1:=hx.1;have h2:=hx.2.1;unfold Sq;simp_all;refine Ca (Ca (Ca (Ca (Ca (Ca (Ca (Ca (Ba (Pb O O) (Ba (Pb O O) (Ba (Kb O) (Da ?_)))))))))));refine Gc (v:=.bool false) O O ⟨congrArg Value.bool ?_,hF.same⟩;have h1:=hx.1;have h2:=hx.2.1;unfold Sq;simp_all
theorem rzero_c(y:Tree)(x:Tv)(S:Nat->Prop)(w0:World)(hX:Rep S w0 (Ob y) x.cells)(hn:x.n+x.m<=1000000000000):Calls prog 64 #[.agg x.cells.toArray] w0 (Yc λv w'=>v=.bool (Ur y)/\Same [] w0 w'):=by
 refine Fa func64 O ntmps64 Ab (Wb _) ?_;have hF:=FR.start w0 [];refine Ea (Ce hF O ?_);rintro b1 w hb1 hF -;refine Ba (Kb O) (Lb (Ba (Mb Xc O) (Xb (Zg xQ O hF.F 0 O O) (Ba (Of O O) (Ba (Dc O) ?_)))));refine Bb (d:=6) O (λhg0=>?_) (λhg0=>?_)
 ·
  refine Ba (Mb Id O) (Xb (Ej iZ O hF.F 0 O O) (Ba (Ry O O) (Ba (Rb O O) (Ba (Dc O) ?_))));refine Bb (d:=11) O (λhg1=>?_) (λhg1=>?_)
  ·
   refine Ba (Mb Tc O) (Xb (Ie yQ O hF.F 0 O O) (Ba (Nf cX O) (Ba (Of O O) (Ba (Rb O O) (Ba (Dc O) ?_)))));refine Bb (d:=17) O (λhg2=>?_) (λhg2=>?_)
   ·
    refine Ba (Mb Tb O) (Xb (Ie zQ O hF.F 0 O O) (Ba (Nf dX O) (Ba (Of O O) (Ba (Rb O O) (Ba (Kb O) (Da ?_))))));refine Gc (v:=.bool _) O O ⟨congrArg Value.bool ?_,hF.same⟩;unfold Ur;obtain⟨h1,h2,h3,h4,-,-⟩:=Ji hX;have e1:(y.keys=[])↔x.n=0:=by rw[h3];exact List.length_eq_zero_iff.symm
    have e2:(y.items=[])↔x.m=0:=by rw[h4];exact List.length_eq_zero_iff.symm
    have ez:(decide (y.kind=0)&&(decide (y.text=[])&&(decide (y.keys=[])&&decide (y.items=[]))))=(decide (x.k=0)&&(decide (x.t=[])&&(decide (x.n=0)&&decide (x.m=0)))):=by simp only[h1,h2,e1,e2]
    rw[ez];clear ez e1 e2 h1 h2 h3 h4 hX hF hn;simp_all
    all_goals first|omega|(rw[Bool.eq_iff_iff];simp;omega)
   refine Ca (Ca (Ca (Ca (Ba (Pb O O) (Ba (Kb O) (Da ?_))))));refine Gc (v:=.bool false) O O ⟨congrArg Value.bool ?_,hF.same⟩;unfold Ur;obtain⟨h1,h2,h3,h4,-,-⟩:=Ji hX;have e1:(y.keys=[])↔x.n=0:=by rw[h3];exact List.length_eq_zero_iff.symm
   have e2:(y.items=[])↔x.m=0:=by rw[h4];exact List.length_eq_zero_iff.symm
   have ez:(decide (y.kind=0)&&(decide (y.text=[])&&(decide (y.keys=[])&&decide (y.items=[]))))=(decide (x.k=0)&&(decide (x.t=[])&&(decide (x.n=0)&&decide (x.m=0)))):=by simp only[h1,h2,e1,e2]
   rw[ez];clear ez e1 e2 h1 h2 h3 h4 hX hF hn;simp_all
   all_goals first|omega|(rw[Bool.eq_iff_iff];simp;omega)
  refine Ca (Ca (Ca (Ca (Ba (Pb O O) (Ba (Dc O) (Ca (Ca (Ca (Ca (Ba (Pb O O) (Ba (Kb O) (Da ?_))))))))))));refine Gc (v:=.bool false) O O ⟨congrArg Value.bool ?_,hF.same⟩;unfold Ur;obtain⟨h1,h2,h3,h4,-,-⟩:=Ji hX;have e1:(y.keys=[])↔x.n=0:=by rw[h3];exact List.length_eq_zero_iff.symm
  have e2:(y.items=[])↔x.m=0:=by rw[h4];exact List.length_eq_zero_iff.symm
  have ez:(decide (y.kind=0)&&(decide (y.text=[])&&(decide (y.keys=[])&&decide (y.items=[]))))=(decide (x.k=0)&&(decide (x.t=[])&&(decide (x.n=0)&&decide (x.m=0)))):=by simp only[h1,h2,e1,e2]
  rw[ez];clear ez e1 e2 h1 h2 h3 h4 hX hF hn;simp_all
  all_goals first|omega|(rw[Bool.eq_iff_iff];simp;omega)
 refine Ca (Ca (Ca (Ba (Pb O O) (Ba (Dc O) (Ca (Ca (Ca (Ca (Ba (Pb O O) (Ba (Dc O) (Ca (Ca (Ca ?_)))))))))))));refine Ca (Ba (Pb O O) (Ba (Kb O) (Da ?_)));refine Gc (v:=.bool false) O O ⟨congrArg Value.bool ?_,hF.same⟩;unfold Ur;obtain⟨h1,h2,h3,h4,-,-⟩:=Ji hX;have e1:(y.keys=[])↔x.n=0:=by rw[h3];exact List.length_eq_zero_iff.symm
 have e2:(y.items=[])↔x.m=0:=by rw[h4];exact List.length_eq_zero_iff.symm
 have ez:(decide (y.kind=0)&&(decide (y.text=[])&&(decide (y.keys=[])&&decide (y.items=[]))))=(decide (x.k=0)&&(decide (x.t=[])&&(decide (x.n=0)&&decide (x.m=0)))):=by simp only[h1,h2,e1,e2]
 rw[ez];clear ez e1 e2 h1 h2 h3 h4 hX hF hn;simp_all
 all_goals first|omega|(rw[Bool.eq_iff_iff];simp;omega)
theorem M0(c:Cf)(q:Cv)(S:Nat->Prop)(w0:World)(hq:CvOf S w0 c q)(hP:CfZ c):Calls prog 19 #[.agg q.cells.toArray] w0 (Yc λv w'=>v=.tuple #[I ((Uf c).1),.bool (Uf c).2]/\Same [] w0 w'):=by
 have hqk:=hq.k;refine Fa func19 O ntmps19 Ab (Wb _) ?_;have hF:=FR.start w0 [];refine Ea (Ce hF O ?_);rintro b1 w hb1 hF -;refine Ba (He O) (Ba (Kb O) (Lb (Ba (Mb Ct O) (Ia (v:=.agg (q.x.cells).toArray) (Wa (l:=q.x.cells) cZ oZ O O (hF.part 0 2 O O)) (Ba (Mb Li O) (Xb (Zg xQ O hF.F 0 O O) ?_))))));refine Pa hF (P0 c.b q.x q.k S _ (hF.rep hq.x) hP.b) (Xa ZI O O O) ?_;intro w hF;refine Ba (Kb O) (Lb (Ba (Mb Bu O) (Ia (v:=.agg (q.y.cells).toArray) (Wa (l:=q.y.cells) cZ oZ O O (hF.part 0 7 O O)) (Ba (Mb Li O) (Xb (Zg xQ O hF.F 0 O O) ?_)))));refine Pa hF (P0 c.l q.y q.k S _ (hF.rep hq.y) hP.l) (Xa ZI O O O) ?_;intro w hF;refine Ba (Kb O) (Lb (Ba (Mb Dt O) (Ia (v:=.agg (q.z.cells).toArray) (Wa (l:=q.z.cells) cZ oZ O O (hF.part 0 12 O O)) (Ba (Mb Li O) (Xb (Zg xQ O hF.F 0 O O) ?_)))));refine Pa hF (P0 c.r q.z q.k S _ (hF.rep hq.z) hP.r) (Xa ZI O O O) ?_;intro w hF;refine Ba (Kb O) (Da (Ga (Ga ?_)));refine Fd (λσ w=>∃(bd:Bool),(bd = !(Jk c))/\AllEq σ [(1,V b1),(45,.bool (bd))]/\FR w0 [] [(b1,.cells (q.cells).toArray 40)] w) ?_ ?_
 ·
  refine Ja (Ba (Dc O) (Ba (Di O) (Ba (Dc O) ?_)));refine Sc (d:=28) O (λhg0=>?_) (λhg0=>?_)
  ·
   refine Ca (Ca (Ba (Rb O O) (Ba (Dc O) (Ca (Ca (Ba (Rb O O) (Ba (Dc O) (Ca (Ca (Ca (Ba (Rb O O) (Ba (Dc O) (Ca ?_)))))))))))));refine Ca (Ca (Ba (Rb O O) (Va ?_)));exact Ta ⟨(true),(by clear hF;unfold Jk;rw[<-hqk];simp_all;all_goals first|omega|(rw[<-decide_not,decide_eq_decide];omega)),Rq,hF⟩
  refine Ba (Dc O) (Ba (Di O) (Ba (Pb O O) (Ba (Dc O) ?_)));refine Sc (d:=32) O (λhg1=>?_) (λhg1=>?_)
  ·
   refine Ca (Ca (Ba (Rb O O) (Ba (Dc O) (Ca (Ca (Ca (Ba (Rb O O) (Ba (Dc O) (Ca (Ca (Ca (Ba (Rb O O) (Va ?_)))))))))))));exact Ta ⟨(true),(by clear hF;unfold Jk;rw[<-hqk];simp_all;all_goals first|omega|(rw[<-decide_not,decide_eq_decide];omega)),Rq,hF⟩
  refine Ba (Dc O) (Ba (Di O) (Ba (Pb O O) (Ba (Dc O) ?_)));refine Sc (d:=36) O (λhg2=>?_) (λhg2=>?_)
  ·
   refine Ca (Ca (Ca (Ba (Rb O O) (Ba (Dc O) (Ca (Ca (Ca (Ba (Rb O O) (Va ?_)))))))));exact Ta ⟨(true),(by clear hF;unfold Jk;rw[<-hqk];simp_all;all_goals first|omega|(rw[<-decide_not,decide_eq_decide];omega)),Rq,hF⟩
  refine Ba (Mb Li O) (Xb (Zg xQ O hF.F 0 O O) (Ba (Pg O O) (Ba (Pb O O) (Ba (Dc O) ?_))));refine Bb (d:=41) O (λhg3=>?_) (λhg3=>?_)
  ·
   refine Ca (Ca (Ca (Ba (Rb O O) (Va ?_))));exact Ta ⟨(true),(by clear hF;unfold Jk;rw[<-hqk];simp_all;all_goals first|omega|(rw[<-decide_not,decide_eq_decide];omega)),Rq,hF⟩
  refine Ba (Mb Li O) (Xb (Zg xQ O hF.F 0 O O) (Ba (Mo O O) (Ba (Pb O O) (Va ?_))));exact Ta ⟨(decide ((6:Int)<(q.k:Int))),(by clear hF;unfold Jk;rw[<-hqk];simp_all;all_goals first|omega|(rw[<-decide_not,decide_eq_decide];omega)),Rq,hF⟩
 rintro σ w ⟨bd,hbd,hs,hF⟩;refine Eg.slots hs ?_;clear hs;intro σ;refine Ha (Jd O O (λhc0=>?_) (λhc0=>?_))
 ·
  have h0:Jk c=false:=by rw[hbd]at hc0;simpa using hc0
  refine Ea (Ba (He O) (Ba (Kb O) (Da ?_)));refine Db (Cb (La (Oc (v:=I []) (x:=.bool false) O O O) ?_));have e:Uf c=([],false):=by unfold Uf;rw[if_neg (by rw[h0];decide)]
  rw[e];exact⟨O,hF.same⟩
 have h0:Jk c=true:=by rw[hbd]at hc0;simpa using hc0
 have hkc:1<=c.cls/\c.cls<=6:=by unfold Jk at h0;simp only[Bool.and_eq_true,decide_eq_true_eq]at h0;exact h0.2.2.2
 refine Ka (Ha (Ea (Ba (Mb Bu O) (Ia (v:=.agg (q.y.cells).toArray) (Wa (l:=q.y.cells) cZ oZ O O (hF.part 0 7 O O)) ?_))));refine Eb (Bz c.l q.y S _ (hF.rep hq.y) hP.l) (Ma YZ O O) ?_;rintro _ w ⟨ct,rfl,hRt,hE⟩;obtain⟨xl,rfl,-⟩:=Vg hRt;have hXL:=RX.made (ids:=[b1]) hF.same.size (λx hx=>hF.lt_ids (by simpa using hx)) hRt;have hF:=hF.ext hE;clear hE hRt;refine If hF oX nZ O ?_;intro b2 w hb2 hF hE;have hXL:=hXL.alloc hE hb2;refine Lb (Ba (Mb Dt O) (Ia (v:=.agg (q.z.cells).toArray) (Wa (l:=q.z.cells) cZ oZ O O (hF.part 1 12 O O)) ?_));refine Eb (Bz c.r q.z S _ (hF.rep hq.z) hP.r) (Ma YZ O O) ?_;rintro _ w ⟨ct,rfl,hRt,hE⟩;obtain⟨xr,rfl,-⟩:=Vg hRt;have hXR:=RX.made (ids:=[b2,b1]) hF.same.size (λx hx=>hF.lt_ids (by simpa using hx)) hRt;have hXL:=hXL.ext hE;have hF:=hF.ext hE;clear hE hRt;refine If hF oX nZ O ?_;intro b3 w hb3 hF hE;have hXL:=hXL.alloc hE hb3;have hXR:=hXR.alloc hE hb3;refine Da (Ga ?_);refine Fd (λσ w=>∃(u:Tv),∃(v_:Tv),(∃i,RX w0 i w [Ob (Qo (Ud c.l) (Ud c.r)).1] u.cells/\RX w0 i w [Ob (Qo (Ud c.l) (Ud c.r)).2] v_.cells)/\AllEq σ [(1,V b1),(7,V b2),(8,V b3)]/\FR w0 [] [(b3,.cells (v_.cells).toArray 36),(b2,.cells (u.cells).toArray 36),(b1,.cells (q.cells).toArray 40)] w) ?_ ?_
 ·
  refine Ea (Xb (Bf aZ nZ O hF.F 0 O O) (Xb (Bf aZ nZ O hF.F 1 O O) ?_));refine Eb (BH (Ud c.r) (Ud c.l) (by have:=(Ht hP.r).1;omega) (by have:=(Ht hP.l).1;omega) (by have:=(Ht hP.r).2;omega) (by have:=(Ht hP.l).2;omega) _ _ _ xr.cells xl.cells hXR.rep hXL.rep) (Xa en_53 O O O) ?_;rintro _ w ⟨rfl,hE⟩;have hF:=hF.ext hE;have hXL:=hXL.ext hE;have hXR:=hXR.ext hE;refine Ba (Pg O O) (Da ?_);refine Jb O O (λhc1=>?_) (λhc1=>?_)
  ·
   refine Ja (Xb (Bf aZ nZ O hF.F 0 O O) (Xb (Bf aZ nZ O hF.F 1 O O) ?_));refine Ge hF nZ O O Tr ?_;intro w hF hE;have hXL:=hXL.store hE (by grind);have hXR:=hXR.store hE (by grind);refine Ge hF nZ O O Pi ?_;intro w hF hE;have hXL:=hXL.store hE (by grind);have hXR:=hXR.store hE (by grind);refine Va ?_;exact Ta ⟨(xr),(xl),(⟨_,by rw[Qo,if_pos (by assumption)];exact hXR,by rw[Qo,if_pos (by assumption)];exact hXL⟩),Oi,hF⟩
  refine Ka ?_;exact Ta ⟨(xl),(xr),(⟨_,by rw[Qo,if_neg (by assumption)];exact hXL,by rw[Qo,if_neg (by assumption)];exact hXR⟩),Oi,hF⟩
 rintro σ w ⟨u,v_,hUV,hs,hF⟩;refine Eg.slots hs ?_;clear hs;intro σ;obtain⟨i_,hU,hV⟩:=hUV;have hU:=hU.rep.anyS;have hV:=hV.rep.anyS;refine Ha (Ga ?_);refine Md (.of []) (bQ [0,1,3,4,6,7] (cQ [2,5,8,9,10] (bQ [11,12,13,14,15] .nil))) hF ?_;intro w hF hE;have hU:=hU.ext hE;have hV:=hV.ext hE;refine⟨λwq=>FR w0 [] _ wq,hF,?_⟩;refine Ib O (Mb Li O) (Ng O (Zg xQ O C0 2 O O) (Ib O (Mb Ct O) (Sa O (v:=.agg (q.x.cells).toArray) (λw hC=>Wa (l:=q.x.cells) cZ oZ O O (hC.part 2 2 O O)) (Ng O (Bf aZ nZ O C0 1 O O) (Ng O (Bf aZ nZ O C0 0 O O) ?_)))));refine Dd O (rnum_c q.k (by have:=hq.k;omega) (by have:=hq.k;omega) _) (Ma en_54 O O) ?_;rintro _ w ⟨rfl,hE⟩;have hF:=hF.ext hE;have hU:=hU.ext hE;have hV:=hV.ext hE;refine⟨hF,?_⟩;refine Dd O (Bz c.b q.x S _ (hF.rep hq.x) hP.b) (Ma YZ O O) ?_;rintro _ w ⟨ct,rfl,hRt,hE⟩;obtain⟨xb,rfl,-⟩:=Vg hRt;have hRt:=hRt.anyS;have hU:=hU.ext hE;have hV:=hV.ext hE;have hF:=hF.ext hE;refine⟨hF,?_⟩;refine Jf 4 O hF (Gb (cs:=#[J 3,I (Rg (Kw q.k)),aQ,aQ,J (xb.k),I (xb.t),.slice xb.A xb.n xb.c,.slice xb.B xb.m xb.e,J (u.k),I (u.t),.slice u.A u.n u.c,.slice u.B u.m u.e,J (v_.k),I (v_.t),.slice v_.A v_.n v_.c,.slice v_.B v_.m v_.e]) dX nZ oX Ua Ua Qb) ?_;intro b4 w hb4 hF hE;have hU:=hU.ext hE;have hV:=hV.ext hE;have hRt:=hRt.ext hE;refine⟨hF.drop 1,?_⟩;refine Dd O (WP (some ⟨b4,0,none⟩) 4 4 _) (Ma en_39 O O) ?_;rintro _ w ⟨rfl,hE⟩;have hF:=hF.ext hE;have hU:=hU.ext hE;have hV:=hV.ext hE;have hRt:=hRt.ext hE;refine⟨hF.drop 1,?_⟩;have hNum:Rep (λ_=>True) w (Ob (Y_ c.cls)) [J 3,I (Rg (Kw q.k)),aQ,aQ]:=by rw[hq.k];exact OG 3 (Rg (Kw c.cls)) ⟨by decide,by decide⟩ (by have:=EE hkc;omega) _
 have hrow:Rep (λx=>True\/x=b4) _ (.slice ([Y_ c.cls,Ud c.b,(Qo (Ud c.l) (Ud c.r)).1,(Qo (Ud c.l) (Ud c.r)).2].map Ob)) _:=hF.rowS 0 rfl (n:=4) (RepL.cons_mk hNum (RepL.cons_mk hRt (RepL.cons_mk hU (RepL.cons_mk (c2:=[]) hV RepL.nil_mk)))) rfl Aa;have hX:Rep (λ_=>True) _ (Ob (Po c)) [J 5,I [],aQ,W b4 4 4]:=Rep.tree_mk (ks:=[]) (xs:=[Y_ c.cls,Ud c.b,(Qo (Ud c.l) (Ud c.r)).1,(Qo (Ud c.l) (Ud c.r)).2]) ⟨by decide,by decide⟩ Oa (Rep.nil_slice 0 Aa none) (by rw[Je];exact hrow.anyS);refine Dd O (rcanon_c (Po c) (BC hP).1 (BC hP).2 (λ_=>True) _ _ hX) (Ma en_42 O O) ?_;rintro _ w ⟨rfl,hE⟩;have hF:=hF.ext hE;have hU:=hU.ext hE;have hV:=hV.ext hE;have hRt:=hRt.ext hE;refine⟨hF.drop 1,?_⟩;refine Ib O (Mj O) (Ib O (Ly O O) (Ib O (Rj O O) (Ib O (He O) (Ib O (Fb O) (Ic (Ha (Ea (Ba (Ad O) (Ba (Za O) (Ba (Of O O) (Ba (He O) (Ba (Kb O) ?_))))))))))));refine Da (Db (Cb (La (Oc (v:=I (Sm (Ae (Po c)))) (x:=.bool _) O O O) ?_)));have e:Uf c=(Sm (Ae (Po c)),decide (Is (Ae (Po c))=0)):=by unfold Uf;rw[if_pos h0]
 rw[e];exact⟨O,hF.same⟩
end Go.Scarf
