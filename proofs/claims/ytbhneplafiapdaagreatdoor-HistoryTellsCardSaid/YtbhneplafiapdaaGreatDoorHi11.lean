/- A part of the proof. -/
import Derived.Test.YtbhneplafiapdaaGreatDoorHi10
set_option linter.all false
set_option maxHeartbeats 8000000
set_option maxRecDepth 10000
namespace Go.Scarf
open Go.RowKit Go.Proofs Go.Proofs.Tryz
theorem KI(len:Nat)(A:Option Addr)(c:Nat)(es:List Value)(w0:World)(hel:es.length=len*1)(hcell:Lie w0 A len es)(ho:∀v∈es,one v=true)(hb:len<=1000000000):Calls prog 31 #[.slice A len c] w0 (Vd λv w'=>Yt 3 1 len es w0 v w'):=by
 refine Ka func31 O ntmps31 Mb (Jc _) ?_;have hF:=FR.start w0 [];refine Ia (Ca (Vh O) (Fa (Ha (Ia (Ca (Kd O) (Ja (v:=.bool ((A).isNone)) (Is oZ O O) (Fa ?_)))))));refine Je O O (λhc0=>?_) (λhc0=>?_);have hA:A=none:=by simpa using hc0
 refine Ia (Ca (Vh O) (Fa ?_));refine Tc (v:=.slice _ _ _) O O ?_;have h0:len=0:=by rcases Nat.eq_zero_or_pos len with h|h;exact h;obtain⟨ad,hh,_⟩:=hcell U;rw[hA]at hh;cases hh
 have hes:es=[]:=List.eq_nil_of_length_eq_zero (by rw[hel,h0,Nat.zero_mul]);subst hes;exact⟨none,0,[],by rw[h0],by rw[h0];exact SlB.nil _ _,by simp,hF.same⟩;refine Ma (Ga (Ia ?_));refine Xi 0 hF (Gh oZ iZ) ?_;rintro b1 w hb1 hF -;have hS0:SlB 3 1 (some ⟨b1,0,none⟩) 0 0 [] [(b1,.cells #[] 3)]:=⟨by simp,.inr ⟨b1,#[],rfl,rfl,gQ _,Nat.zero_le _,by simp,by simp⟩⟩;refine Ca (Kd O) ?_;refine Cu [] [] (news:=es) (len':=0+len) (ys:=[]++es) T9 hF hS0 rfl rfl (by rw[hel]) (λhk=>by obtain⟨ad,hA,hc⟩:=hcell hk;exact⟨ad,hA,Xe (hF.cells0 hc)⟩) (Mm ho) (by simp only[maxLen];omega) (rfl) (rfl) U ?_;intro A0 c0 a_0 w hS0_a hF hE hnew;refine Ca (Vh O) (Fa ?_);refine Tc (v:=.slice _ _ _) O O ?_;simp only[Nat.zero_add,List.nil_append]at *;exact⟨_,_,_,O,by assumption,hF.sbown (pre:=[]) (post:=[]),hF.same⟩
theorem W3{n:Int}:∀{l:List Int}{last:Int},Gi n last l=true->l=[]\/(l.length:Int)+last<n
  | [],_,_=>.inl rfl
  | p :: l, last, h => by
    rw[Gi,Bool.and_eq_true,Bool.and_eq_true,decide_eq_true_eq,decide_eq_true_eq]at h;rw[kQ];rcases W3 h.2.2 with rfl|h3
    ·exact .inr (by simp only[List.length_nil];omega)
    exact .inr U
theorem TD{x:Cm}{n:Nat}(h:Fe x n=true):x.par.length<=n:=by
  unfold Fe at h;rcases W3 (Bool.and_eq_true_iff.1 h).1 with h1|h1
  ·rw[h1];exact Nat.zero_le _
  omega
theorem O3{x:Cm}{n:Nat}(h:Fe x n=true):Jd x.val=true:=by
  unfold Fe at h;exact (Bool.and_eq_true_iff.1 h).2
def Tk(h:List Cm)(x:Cm):Int:=if Pc h=true/\Fe x h.length=true then (if h.length=64 then 11 else 0) else 1
def AddO(l:List Cm)(w0:World)(v:Value)(w':World):Prop:=∃(A:Option Addr)(c:Nat)(sb:List (Nat × Obj))(pl:List Pl)(hi:Nat),v=.tuple #[.slice A l.length c,J 0]/\SlB 29 5 A l.length c (Ue pl) sb/\(∀p∈sb,w'.heap[p.1]? = some p.2/\w0.heap.size<=p.1)/\CmsAt w' w0.heap.size l pl hi/\hi<=w'.heap.size/\(∀p∈sb,Dr pl p.1)/\Same [] w0 w'
theorem UU{h:List Cm}{x:Cm}(hr:Pc h=true)(hx:Fe x h.length=true)(h64:h.length<=64)(hT:∀y∈h,Ai y)(hTx:Ai x):∀y∈h++[x],Ai y/\Jd y.val=true/\y.par.length<=64:=λy hy=>by
  rcases mQ.1 hy with hy|hy
  ·obtain⟨i, hi, rfl⟩ := List.getElem_of_mem hy
   have hc:=Vn hr hi;exact⟨hT _ hy,O3 hc,by have:=TD hc;omega⟩
  rw[pQ.1 hy];exact⟨hTx,O3 hx,by have:=TD hx;omega⟩
theorem ML{l:List Cm}{j:Nat}(h:j<l.length):(l.drop j).map cmD=cmD l[j]::(l.drop (j+1)).map cmD:=by rw[List.drop_eq_getElem_cons h];rfl
theorem U9{pl:List Pl}{p:Pl}{k:Nat}(h:Dr pl k)(hp:k<p.a\/p.b<=k):Dr (pl++[p]) k:=λq hq=>by
  rcases mQ.1 hq with hq|hq
  ·exact h q hq
  rw[pQ.1 hq];exact hp
theorem CmsAt.off{w:World}{l:List Cm}{a0 hi k:Nat}{pl:List Pl}(h:CmsAt w a0 l pl hi)(hk:hi<=k):Dr pl k:=λp hp=>.inr (by have:=(CmsAt.mem h p hp).2.2;omega)
theorem GA(h:List Cm)(x:Cm)(A:Option Addr)(c:Nat)(q:Mv)(S1 S2:Nat->Prop)(w0:World)(hX1:Rep S1 w0 (Xg h) [.slice A h.length c])(hq:q.n=x.par.length)(hQP1:Rep S2 w0 (.slice (x.par.map We)) [.slice q.A q.n q.c])(hQV1:Rep S2 w0 (Fc x.val) q.v.cells)(hT:∀y∈h,Ai y)(hTx:Ai x)(hG:Gl w0):Calls prog 10 #[.slice A h.length c,.agg q.cells.toArray] w0 (Vd λv w'=>(Tk h x≠0->v=.tuple #[aQ,J (Tk h x)]/\Same [] w0 w')/\(Tk h x=0->AddO (h++[x]) w0 v w')):=by
  have hX:=hX1.lowH;have hQP:=hQP1.lowH;have hQV:=hQV1.lowH;refine Ka func10 O ntmps10 Mb (Ae _ _) ?_;have hF:=FR.start w0 [];refine Ha (Ea ?_);refine Xf hF O ?_;intro b1 w hb1 hF hE;refine Ca (Vh O) (Ca (Bc O) ?_);refine Ra (Ga ?_);refine Ha (Sa ?_);refine Ha (Ha ?_);refine Ea (Ca (Kd O) ?_);refine Ta hF (B2 h A c _ _ (hF.rep hX) hT (hG.ext hF.same)) (Va SK O O) ?_;intro w hF;refine Ca (Bi O) (Ca (Eb O) ?_);refine Ra (Ga ?_);refine Je O O (λhc0=>?_) (λhc0=>?_)
  ·
   refine Ma (Ga ?_);refine Od O (Ha ?_);refine Ea (Ca (Vh O) ?_);refine Ca (Bc O) (Ra ?_);refine Ga (Gb (Fb (Pa (Wd (v:=.slice _ _ _) (x:=J 1) O O O) ?_)));have e:Tk h x=1:=if_neg (λhh=>by simp_all);rw[e];exact⟨λ_=>⟨O,hF.same⟩,λh=>absurd h Cc⟩
  refine Ea (Ed (Ej isAgg29 gZ O hF.F 0 O O) ?_);refine Ca (Kd O) (Ca (Rf nZ O) ?_);refine Ta hF (E8 x q h.length _ _ hq (hF.rep hQP) (hF.rep hQV) hTx (hG.ext hF.same)) (Qb IR O O O) ?_;intro w hF;refine Ca (Bi O) (Ca (Eb O) ?_);refine Ra (Ga ?_);refine Je O O (λhc1=>?_) (λhc1=>?_)
  ·
   refine Ha (Ea ?_);refine Ca (Vh O) (Ca (Bc O) ?_);refine Ra (Ga ?_);refine Gb (Fb (Pa (Wd (v:=.slice _ _ _) (x:=J 1) O O O) ?_));have e:Tk h x=1:=if_neg (λhh=>by simp_all);rw[e];exact⟨λ_=>⟨O,hF.same⟩,λh=>absurd h Cc⟩
  refine Ha (Ea ?_);refine Ca (Kd O) (Ca (Rf nZ O) ?_);refine Ca (Jj O O) (Ca (Eb O) ?_);refine Ra (Ga ?_);refine Wb O O (λhc2=>?_) (λhc2=>?_)
  ·
   refine Ha (Ea ?_);refine Ca (Vh O) (Ca (Bc O) ?_);refine Ra (Ga ?_);refine Gb (Fb (Pa (Wd (v:=.slice _ _ _) (x:=J 11) O O O) ?_));have e:Tk h x=11:=by unfold Tk;rw[if_pos ⟨by simp_all,by simp_all⟩,if_pos U]
   rw[e];exact⟨λ_=>⟨O,hF.same⟩,λh=>absurd h Cc⟩
  refine Ma (Ib ?_);refine Ga (Ha ?_);refine Ea (Ca (Vh O) ?_);refine Ra (Ga ?_);refine Ha (Ha ?_);have hr:Pc h=true:=by simp_all
  have hcx:Fe x h.length=true:=by simp_all
  have h64:h.length<=64:=by have:=hr;unfold Pc at this;rw[Bool.and_eq_true,decide_eq_true_eq]at this;exact this.1
  have hok:=UU hr hcx h64 hT hTx;have hXl:=hX.slice_len;simp only[rQ]at hXl;obtain⟨es,hes,hesl,hLie⟩:=hX.slice_open (QN h);have hrr0:RepL (λb=>b<w0.heap.size) w0 (((h++[x]).drop 0).map cmD) (es++q.cells):=by rw[List.drop_zero,jQ];exact RepL.append hes (by have:=RepL.cons_mk (Pt hq hQP hQV) RepL.nil_mk;rw[qQ]at this;exact this)
  refine Te (zs:=.of []) (bQ [0,1,2,3,4,5,6,10] (.act 7 (.act 8 (.free 9 .nil)))) hF ?_;intro w hF;refine Zc O (Kd O) (Zc O (Kd O) ?_);refine Zc O (Rf nZ O) (Zc O (Kd O) ?_);refine Zc O (Rf nZ O) (Pb O (v:=.slice A h.length h.length) (λw hC=>CG (h.length) Jf O O O U) ?_);refine Cp O (Ej isAgg29 gZ O C0 0 O O) (Zc O (Db O) ?_);refine Oo 1 O hF (Sc (cs:=(q.cells).toArray) nZ gZ wZ Cc Cc Nc) ?_;intro b2 w hb2 hF hE;refine⟨hF.drop 1,?_⟩;obtain⟨Aw,cw,sw,ww,hr_,hSa,hF2,hE,hnw⟩:=J9 (k:=1) (c2:=1) (ty:=_) (news:=q.cells) H9 hF hesl (Lie.ext hLie hF.same) Cc rfl ⟨_,rfl,Xe (hF.cellsAll 0 rfl)⟩ (by simp[Mv.cells,Tv.cells,Value.oneCell']) (by simp only[maxLen];omega) U;have hF3:=hF2.noseg;refine S7 O (v:=.slice Aw (h.length+1) cw) (Dq O O hr_) (hF3.sub (.cons _ (.cons_cons _ .slnil))) ?_;clear hF hE hr_ hnw;have hF:FR w0 [] ([(b2,.cells (q.cells).toArray 29),(b1,.cells (q.cells).toArray 29)]++(sw++([]++[]))) ww:=hF2;clear hF2 hF3;refine Zc O (Rf nZ O) (Xd ?_);refine Ga (Sa ?_);refine Gc (λμ σ w=>∃(j:Nat),∃(dn:List Value),∃(rs:List Value),∃(Ao:Option Addr),∃(co:Nat),∃(so:List (Nat × Obj)),∃(pl:List Pl),∃(hi:Nat),μ=h.length+1-j/\(j<=h.length+1)/\(SlB 29 5 Aw (h.length+1) cw (dn++rs) sw)/\(dn.length=j*5)/\(RepL (λb=>b<w0.heap.size) w0 (((h++[x]).drop j).map cmD) rs)/\(SlB 29 5 Ao j co (Ue pl) so)/\(CmsAt w w0.heap.size ((h++[x]).take j) pl hi)/\(hi<=w.heap.size)/\(∀p∈so,Dr pl p.1)/\AllEq σ [(6,.slice Ao j co),(30,.slice (Aw) (h.length+1) (cw)),(31,J ((h.length+1:Nat))),(32,J ((j:Int)))]/\FR w0 [] ([(b2,.cells (q.cells).toArray 29),(b1,.cells (q.cells).toArray 29)]++(sw++(so++[]))) w) _ ⟨0,[],es++q.cells,none,0,[],[],w0.heap.size,O,(Nat.zero_le _),(hSa),(O),(hrr0),(SlB.nil _ _),(⟨O,gQ _⟩),(hF.same.size),Ua,Fj,hF⟩ ?_;rintro μ σ w ⟨j,dn,rs,Ao,co,so,pl,hi,rfl,hj,hSa,hd,hrr,hSo,hCs,hHi,hOf,hs,hF⟩
  refine Cg.slots hs ?_;clear hs;intro σ;refine Ha (Ea ?_);refine Ca (Tg O O) (Ra ?_);refine Ga (Ha ?_);refine Wb O O (λhc3=>?_) (λhc3=>?_)
  ·
   refine Ma (Ga ?_);refine Ha (Sa ?_);refine Ha (Ea ?_);have hjx:j<(h++[x]).length:=by rw[dQ,List.length_singleton];omega
   rw[ML hjx]at hrr;obtain⟨c1_,c2_,rfl,hr1,hr2⟩:=RepL.cons_inv hrr;obtain⟨qe,rfl,hqn,hqP,hqV⟩:=R_ hr1;have ho1:=hr1.one_;obtain⟨hTj,hRj,hPj⟩:=hok _ (eQ hjx);obtain⟨eP,hrP,hPl,hPc⟩:=hqP.slice_open (R4 _);obtain⟨ad0,hA0,hk0⟩:=hSa.elemMid (pre:=[(b2,.cells (q.cells).toArray 29),(b1,.cells (q.cells).toArray 29)]) (post:=(so++[])) (pr:=dn) (mid:=qe.cells) (po:=c2_) hF (j:=j) hd rfl U;refine Ja (v:=.pointer (some (ad0.add (j*5)))) (Qa (i:=(j:Int)) Jf O hA0 O U U) (Ja (v:=.agg (qe.cells).toArray) (Hb (l:=qe.cells) isAgg29 gZ O O hk0) ?_);refine Vl hF wZ gZ O ?_;intro b3 w hb3 hF hE;have hCs:=hCs.ext hE;have hHi:=fQ hHi hE.size;refine Ra (Ga ?_);refine Rj (.of []) (bQ [0,1,2,4,5] (.act 3 (.act 6 (.free 7 (.act 8 (.act 9 (.free 10 .nil))))))) hF ?_;intro w hF hE;have hCs:=hCs.ext hE;have hHi:=fQ hHi hE.size;refine⟨λwq=>FR w0 [] [(b3,.cells (qe.cells).toArray 29),(b2,.cells (q.cells).toArray 29),(b1,.cells (q.cells).toArray 29)] wq,hF.mid 0 3,?_⟩;refine Zc O (Kd O) (Zc O (Cd Ze O) ?_);refine Cp O (Mh uQ O C0 0 O O) (Zc O (Cd Lh O) ?_);refine Pb O (v:=.agg (qe.v.cells).toArray) (λw hC=>Hb (l:=qe.v.cells) xQ fZ O O (hC.part 0 1 O O)) ?_;have hlo:∀p∈so,p.1<w.heap.size:=λp hp=>Wa (hF.own p (by simp[hp])).1;refine Tf O (KI qe.n qe.A qe.c eP _ hPl (Lie.ext hPc hF.same) hrP.one_ U) (Va UX O O) ?_;rintro _ w hcl;rw[hqn]at hcl;obtain⟨Apq,cpq,rfl,hP1,hE⟩:=F_ hcl hrP;obtain⟨a1,m1,hlo1,hNa,ham,hmw,hPI⟩:∃a m,(∀p∈so,p.1<a)/\hi<=a/\a<=m/\m<=w.heap.size/\Rep (Iv a m w) w (.slice ((h++[x])[j].par.map We)) [.slice Apq (h++[x])[j].par.length cpq]:=⟨_,_,hlo,hHi,hE.size,gQ _,hP1⟩;have hCs:=hCs.ext hE;have hHi:=fQ hHi hE.size;have hF:=hF.ext hE;clear hE hcl hP1;refine⟨hF.mid 0 3,?_⟩;refine Tf O (Ey (h++[x])[j].val hTj.1 _ _ qe.v.cells (hF.rep hqV) hTj.2 (hG.ext hF.same)) (Va IF O O) ?_
   rintro _ w ⟨ct,rfl,hRt,hE⟩;obtain⟨qt,rfl,-⟩:=Cl hRt;rw[Uo hRj]at hRt;obtain⟨b1v,hmb,hbw,hVI⟩:∃b,m1<=b/\b<=w.heap.size/\Rep (Iv m1 b w) w (Fc (h++[x])[j].val) qt.cells:=⟨_,fQ hmw hE.size,gQ _,hRt.weaken λk hk _=>⟨fQ hmw hk.1,hk.2.1,hk.2.2⟩⟩;have hCs:=hCs.ext hE;have hHi:=fQ hHi hE.size;have hPI:=Iv.same hPI hE Ua;have hF:=hF.ext hE;clear hE hRt;refine⟨hF.mid 0 3,?_⟩;refine Pb O (v:=.agg #[.slice (Apq) ((h++[x])[j].par.length) (cpq),J (qt.k),I (qt.t),.slice qt.A qt.n qt.c,.slice qt.B qt.m qt.e]) (λw hC=>by kernel_rfl) (Oo 1 O hF (Sc (cs:=#[.slice (Apq) ((h++[x])[j].par.length) (cpq),J (qt.k),I (qt.t),.slice qt.A qt.n qt.c,.slice qt.B qt.m qt.e]) nZ gZ wZ Cc Cc Nc) ?_);intro b4 w hb4 hF hE;have hCs:=hCs.ext hE;have hHi:=fQ hHi hE.size;have hPI:=Iv.same hPI hE Ua;have hVI:=Iv.same hVI hE Ua;have hbw:=fQ hbw hE.size;refine⟨hF.mid 1 3,?_⟩;refine TM [_,_,_,_] [sw,so] 1 (news:=[.slice (Apq) ((h++[x])[j].par.length) (cpq),J (qt.k),I (qt.t),.slice qt.A qt.n qt.c,.slice qt.B qt.m qt.e]) (len':=j+1) (ys:=Ue (pl++[(Pl.mk (Mv.mk Apq (h++[x])[j].par.length cpq qt) a1 m1 b1v)])) O H9 hF hSo O O (O) (λ_=>⟨_,O,Xe (hF.cellsAll 0 O)⟩) (by simp[Value.oneCell']) (by simp only[maxLen];omega) (O) ((Vw pl (Pl.mk (Mv.mk Apq (h++[x])[j].par.length cpq qt) a1 m1 b1v)).symm) U ?_;intro A1 c1 o_1 w hS1_o hF hE hnew;have hso:∀k∈so.map (·.1),Dr pl k/\k<a1:=λk hk=>by obtain⟨p,hp,rfl⟩:=nQ.1 hk;exact⟨hOf p hp,hlo1 p hp⟩
   have hCm:CmAt _ (h++[x])[j] (⟨Apq,(h++[x])[j].par.length,cpq,qt⟩:Mv) a1 m1 b1v:=⟨rfl,hPI,hVI,ham,hmb,hbw⟩;have hCm:=hCm.same hE (λk h1 h2 hk=>by have:=(hso k hk).2;omega);have hb1w:b1v<=w.heap.size:=fQ hbw hE.size;have hCs:=(hCs.same hE (λk hk=>(hso k hk).1)).snoc (p:=(Pl.mk (Mv.mk Apq (h++[x])[j].par.length cpq qt) a1 m1 b1v)) hCm hNa (gQ _);have hOf:∀p∈o_1,Dr (pl++[(Pl.mk (Mv.mk Apq (h++[x])[j].par.length cpq qt) a1 m1 b1v)]) p.1:=λp hp=>by
     rcases hnew p hp with h|h
     ·exact U9 (hso _ h).1 (.inl (hso _ h).2)
     exact CmsAt.off hCs (fQ hbw h)
   refine⟨hF.mid 1 3,?_⟩;refine Zc O (Vh O) (Xd ?_);refine Ib (Ga ?_);refine Ea (Ca (Lk O O) ?_);refine Ca (Db O) (Ra ?_);refine Za ⟨_,?_,j+1,dn++qe.cells,c2_,A1,c1,o_1,pl++[(Pl.mk (Mv.mk Apq (h++[x])[j].par.length cpq qt) a1 m1 b1v)],b1v,O,U,(by simpa using hSa),(by rw[dQ,hd];show _+5=_;omega),(hr2),(hS1_o),(by rw[iQ hjx];exact hCs),(hb1w),(hOf),Fj,hF.drop 2⟩;omega
  refine Zb (Vb O ?_);refine Ga (Ha ?_);refine Ea (Ca (Kd O) ?_);refine Ca (Vh O) (Ca (Bc O) ?_);refine Ra (Ga ?_);refine Gb (Fb (Pa (Wd (v:=.slice _ _ _) (x:=J 0) O O O) ?_));have e:Tk h x=0:=by unfold Tk;rw[if_pos ⟨hr,hcx⟩,if_neg U]
  rw[e];have ej:j=h.length+1:=by omega
  subst ej;refine⟨λh=>absurd O h,λ_=>⟨Ao,co,so,pl,hi,by simp,by simpa using hSo,λp hp=>⟨(hF.own p (by simp[hp])).1,(hF.own p (by simp[hp])).2.resolve_right Ua⟩,?_,hHi,hOf,hF.same⟩⟩
  rwa [List.take_of_length_le Ua]at hCs
end Go.Scarf
