/- A part of the proof. -/
import Derived.Test.YtndkhbfnfagbgaaGreatDoorHi9
set_option linter.all false
set_option maxHeartbeats 8000000
set_option maxRecDepth 10000
namespace Go.Scarf
open Go.RowKit Go.Proofs Go.Proofs.Tryz
theorem cloneI_c(len:Nat)(A:Option Addr)(c:Nat)(es:List Value)(w0:World)(hel:es.length=len*1)(hcell:Lie w0 A len es)(ho:∀v∈es,one v=true)(hb:len<=1000000000):Calls prog 22 #[.slice A len c] w0 (Td λv w'=>D1 3 1 len es w0 v w'):=by
 refine Ga func22 O ntmps22 Fb (Ad _) ?_;have hF:=FR.start w0 [];refine Ja (Ca (Qg O) (Ea (Ha (Ja (Ca (Pd O) (Ka (v:=.bool ((A).isNone)) (Vz bX O O) (Ea ?_)))))));refine Uf O O (λhc0=>?_) (λhc0=>?_);have hA:A=none:=by simpa using hc0
 refine Ja (Ca (Qg O) (Ea ?_));refine Qd (v:=.slice _ _ _) O O ?_;have h0:len=0:=by rcases Nat.eq_zero_or_pos len with h|h;exact h;obtain⟨ad,hh,_⟩:=hcell sX;rw[hA]at hh;cases hh
 have hes:es=[]:=List.eq_nil_of_length_eq_zero (by rw[hel,h0,Nat.zero_mul]);subst hes;exact⟨none,0,[],by rw[h0],by rw[h0];exact SlB.nil _ _,by simp,hF.same⟩;refine Ta (Ia (Ja ?_));refine Pf 0 hF (Ws bX qZ) ?_;rintro b1 w hb1 hF -;have hS0:SlB 3 1 (some ⟨b1,0,none⟩) 0 0 [] [(b1,.cells #[] 3)]:=⟨by simp,.inr ⟨b1,#[],rfl,rfl,gQ _,Nat.zero_le _,by simp,by simp⟩⟩;refine Ca (Pd O) ?_;refine Kw [] [] (news:=es) (len':=0+len) (ys:=[]++es) Sj hF hS0 rfl rfl (by rw[hel]) (λhk=>by obtain⟨ad,hA,hc⟩:=hcell hk;exact⟨ad,hA,Ob (hF.cells0 hc)⟩) (Px ho) (by simp only[maxLen];omega) (rfl) (rfl) sX ?_;intro A0 c0 a_0 w hS0_a hF hE hnew;refine Ca (Qg O) (Ea ?_);refine Qd (v:=.slice _ _ _) O O ?_;simp only[Nat.zero_add,List.nil_append]at *;exact⟨_,_,_,O,by assumption,hF.sbown (pre:=[]) (post:=[]),hF.same⟩
theorem KD{n:Int}:∀{l:List Int}{last:Int},Hp n last l=true->l=[]\/(l.length:Int)+last<n
  | [],_,_=>.inl rfl
  | p :: l, last, h => by
    rw[Hp,Bool.and_eq_true,Bool.and_eq_true,decide_eq_true_eq,decide_eq_true_eq]at h;rw[kQ];rcases KD h.2.2 with rfl|h3
    ·exact .inr (by simp only[List.length_nil];omega)
    exact .inr sX
theorem QP{x:Cm}{n:Nat}(h:Sf x n=true):x.par.length<=n:=by
  unfold Sf at h;rcases KD (Bool.and_eq_true_iff.1 h).1 with h1|h1
  ·rw[h1];exact Nat.zero_le _
  omega
theorem LC{x:Cm}{n:Nat}(h:Sf x n=true):Kd x.val=true:=by
  unfold Sf at h;exact (Bool.and_eq_true_iff.1 h).2
def Ix(h:List Cm)(x:Cm):Int:=if Ld h=true/\Sf x h.length=true then (if h.length=64 then 11 else 0) else 1
def AddO(l:List Cm)(w0:World)(v:Value)(w':World):Prop:=∃(A:Option Addr)(c:Nat)(sb:List (Nat × Obj))(pl:List Pl)(hi:Nat),v=.tuple #[.slice A l.length c,J 0]/\SlB 29 5 A l.length c (Bk pl) sb/\(∀p∈sb,w'.heap[p.1]? = some p.2/\w0.heap.size<=p.1)/\CmsAt w' w0.heap.size l pl hi/\hi<=w'.heap.size/\(∀p∈sb,Z_ pl p.1)/\Same [] w0 w'
theorem all_ok{h:List Cm}{x:Cm}(hr:Ld h=true)(hx:Sf x h.length=true)(h64:h.length<=64)(hT:∀y∈h,Xm y)(hTx:Xm x):∀y∈h++[x],Xm y/\Kd y.val=true/\y.par.length<=64:=λy hy=>by
  rcases mQ.1 hy with hy|hy
  ·obtain⟨i, hi, rfl⟩ := List.getElem_of_mem hy
   have hc:=Kq hr hi;exact⟨hT _ hy,LC hc,by have:=QP hc;omega⟩
  rw[pQ.1 hy];exact⟨hTx,LC hx,by have:=QP hx;omega⟩
theorem XX{l:List Cm}{j:Nat}(h:j<l.length):(l.drop j).map cmD=cmD l[j]::(l.drop (j+1)).map cmD:=by rw[List.drop_eq_getElem_cons h];rfl
theorem off_snoc{pl:List Pl}{p:Pl}{k:Nat}(h:Z_ pl k)(hp:k<p.a\/p.b<=k):Z_ (pl++[p]) k:=λq hq=>by
  rcases mQ.1 hq with hq|hq
  ·exact h q hq
  rw[pQ.1 hq];exact hp
theorem CmsAt.off{w:World}{l:List Cm}{a0 hi k:Nat}{pl:List Pl}(h:CmsAt w a0 l pl hi)(hk:hi<=k):Z_ pl k:=λp hp=>.inr (by have:=(CmsAt.mem h p hp).2.2;omega)
theorem SO(h:List Cm)(x:Cm)(A:Option Addr)(c:Nat)(q:Mv)(S1 S2:Nat->Prop)(w0:World)(hX1:Rep S1 w0 (Nr h) [.slice A h.length c])(hq:q.n=x.par.length)(hQP1:Rep S2 w0 (.slice (x.par.map Zd)) [.slice q.A q.n q.c])(hQV1:Rep S2 w0 (Zb x.val) q.v.cells)(hT:∀y∈h,Xm y)(hTx:Xm x)(hG:Gl w0):Calls prog 7 #[.slice A h.length c,.agg q.cells.toArray] w0 (Td λv w'=>(Ix h x≠0->v=.tuple #[aQ,J (Ix h x)]/\Same [] w0 w')/\(Ix h x=0->AddO (h++[x]) w0 v w')):=by
  have hX:=hX1.lowH;have hQP:=hQP1.lowH;have hQV:=hQV1.lowH;refine Ga func7 O ntmps7 Fb (Zc _ _) ?_;have hF:=FR.start w0 [];refine Ha (Fa ?_);refine Ve hF O ?_;intro b1 w hb1 hF hE;refine Ca (Qg O) (Ca (Sc O) ?_);refine Db (Ia ?_);refine Ha (Va ?_);refine Ha (Ha ?_);refine Fa (Ca (Pd O) ?_);refine Gb hF (M9 h A c _ _ (hF.rep hX) hT (hG.ext hF.same)) (Ra en_9 O O) ?_;intro w hF;refine Ca (Zj O) (Ca (Hc O) ?_);refine Db (Ia ?_);refine Uf O O (λhc0=>?_) (λhc0=>?_)
  ·
   refine Ta (Ia ?_);refine Ge O (Ha ?_);refine Fa (Ca (Qg O) ?_);refine Ca (Sc O) (Db ?_);refine Ia (Cc (Bc (Sa (Bg (v:=.slice _ _ _) (x:=J 1) O O O) ?_)));have e:Ix h x=1:=if_neg (λhh=>by simp_all);rw[e];exact⟨λ_=>⟨O,hF.same⟩,λh=>absurd h Ua⟩
  refine Fa (Yc (Ch isAgg29 pZ O hF.F 0 O O) ?_);refine Ca (Pd O) (Ca (Ye aX O) ?_);refine Gb hF (NI x q h.length _ _ hq (hF.rep hQP) (hF.rep hQV) hTx (hG.ext hF.same)) (Za en_21 O O O) ?_;intro w hF;refine Ca (Zj O) (Ca (Hc O) ?_);refine Db (Ia ?_);refine Uf O O (λhc1=>?_) (λhc1=>?_)
  ·
   refine Ha (Fa ?_);refine Ca (Qg O) (Ca (Sc O) ?_);refine Db (Ia ?_);refine Cc (Bc (Sa (Bg (v:=.slice _ _ _) (x:=J 1) O O O) ?_));have e:Ix h x=1:=if_neg (λhh=>by simp_all);rw[e];exact⟨λ_=>⟨O,hF.same⟩,λh=>absurd h Ua⟩
  refine Ha (Fa ?_);refine Ca (Pd O) (Ca (Ye aX O) ?_);refine Ca (Pq O O) (Ca (Hc O) ?_);refine Db (Ia ?_);refine Pc O O (λhc2=>?_) (λhc2=>?_)
  ·
   refine Ha (Fa ?_);refine Ca (Qg O) (Ca (Sc O) ?_);refine Db (Ia ?_);refine Cc (Bc (Sa (Bg (v:=.slice _ _ _) (x:=J 11) O O O) ?_));have e:Ix h x=11:=by unfold Ix;rw[if_pos ⟨by simp_all,by simp_all⟩,if_pos sX]
   rw[e];exact⟨λ_=>⟨O,hF.same⟩,λh=>absurd h Ua⟩
  refine Ta (Ib ?_);refine Ia (Ha ?_);refine Fa (Ca (Qg O) ?_);refine Db (Ia ?_);refine Ha (Ha ?_);have hr:Ld h=true:=by simp_all
  have hcx:Sf x h.length=true:=by simp_all
  have h64:h.length<=64:=by have:=hr;unfold Ld at this;rw[Bool.and_eq_true,decide_eq_true_eq]at this;exact this.1
  have hok:=all_ok hr hcx h64 hT hTx;have hXl:=hX.slice_len;simp only[rQ]at hXl;obtain⟨es,hes,hesl,hLie⟩:=hX.slice_open (size_cms h);have hrr0:RepL (λb=>b<w0.heap.size) w0 (((h++[x]).drop 0).map cmD) (es++q.cells):=by rw[List.drop_zero,jQ];exact RepL.append hes (by have:=RepL.cons_mk (F8 hq hQP hQV) RepL.nil_mk;rw[qQ]at this;exact this)
  refine If (zs:=.of []) (bQ [0,1,2,3,4,5,6,10] (.act 7 (.act 8 (.free 9 .nil)))) hF ?_;intro w hF;refine Hb O (Pd O) (Hb O (Pd O) ?_);refine Hb O (Ye aX O) (Hb O (Pd O) ?_);refine Hb O (Ye aX O) (Qa O (v:=.slice A h.length h.length) (λw hC=>VS (h.length) Pt O O O sX) ?_);refine Hl O (Ch isAgg29 pZ O C0 0 O O) (Hb O (Kb O) ?_);refine Fe 1 O hF (Xa (cs:=(q.cells).toArray) aX pZ zeroValue29 Ua Ua Mb) ?_;intro b2 w hb2 hF hE;refine⟨hF.drop 1,?_⟩;obtain⟨Aw,cw,sw,ww,hr_,hSa,hF2,hE,hnw⟩:=UH (k:=1) (c2:=1) (ty:=_) (news:=q.cells) el_22 hF hesl (Lie.ext hLie hF.same) Ua rfl ⟨_,rfl,Ob (hF.cellsAll 0 rfl)⟩ (by simp[Mv.cells,Tv.cells,Value.oneCell']) (by simp only[maxLen];omega) sX;have hF3:=hF2.noseg;refine Ke O (v:=.slice Aw (h.length+1) cw) (L0 O O hr_) (hF3.sub (.cons _ (.cons_cons _ .slnil))) ?_;clear hF hE hr_ hnw;have hF:FR w0 [] ([(b2,.cells (q.cells).toArray 29),(b1,.cells (q.cells).toArray 29)]++(sw++([]++[]))) ww:=hF2;clear hF2 hF3;refine Hb O (Ye aX O) (Ec ?_);refine Ia (Va ?_);refine Rc (λμ σ w=>∃(j:Nat),∃(dn:List Value),∃(rs:List Value),∃(Ao:Option Addr),∃(co:Nat),∃(so:List (Nat × Obj)),∃(pl:List Pl),∃(hi:Nat),μ=h.length+1-j/\(j<=h.length+1)/\(SlB 29 5 Aw (h.length+1) cw (dn++rs) sw)/\(dn.length=j*5)/\(RepL (λb=>b<w0.heap.size) w0 (((h++[x]).drop j).map cmD) rs)/\(SlB 29 5 Ao j co (Bk pl) so)/\(CmsAt w w0.heap.size ((h++[x]).take j) pl hi)/\(hi<=w.heap.size)/\(∀p∈so,Z_ pl p.1)/\AllEq σ [(6,.slice Ao j co),(30,.slice (Aw) (h.length+1) (cw)),(31,J ((h.length+1:Nat))),(32,J ((j:Int)))]/\FR w0 [] ([(b2,.cells (q.cells).toArray 29),(b1,.cells (q.cells).toArray 29)]++(sw++(so++[]))) w) _ ⟨0,[],es++q.cells,none,0,[],[],w0.heap.size,O,(Nat.zero_le _),(hSa),(O),(hrr0),(SlB.nil _ _),(⟨O,gQ _⟩),(hF.same.size),Da,Tq,hF⟩ ?_;rintro μ σ w ⟨j,dn,rs,Ao,co,so,pl,hi,rfl,hj,hSa,hd,hrr,hSo,hCs,hHi,hOf,hs,hF⟩
  refine Cg.slots hs ?_;clear hs;intro σ;refine Ha (Fa ?_);refine Ca (Kl O O) (Db ?_);refine Ia (Ha ?_);refine Pc O O (λhc3=>?_) (λhc3=>?_)
  ·
   refine Ta (Ia ?_);refine Ha (Va ?_);refine Ha (Fa ?_);have hjx:j<(h++[x]).length:=by rw[dQ,List.length_singleton];omega
   rw[XX hjx]at hrr;obtain⟨c1_,c2_,rfl,hr1,hr2⟩:=RepL.cons_inv hrr;obtain⟨qe,rfl,hqn,hqP,hqV⟩:=XL hr1;have ho1:=hr1.one_;obtain⟨hTj,hRj,hPj⟩:=hok _ (eQ hjx);obtain⟨eP,hrP,hPl,hPc⟩:=hqP.slice_open (RU _);obtain⟨ad0,hA0,hk0⟩:=hSa.elemMid (pre:=[(b2,.cells (q.cells).toArray 29),(b1,.cells (q.cells).toArray 29)]) (post:=(so++[])) (pr:=dn) (mid:=qe.cells) (po:=c2_) hF (j:=j) hd rfl sX;refine Ka (v:=.pointer (some (ad0.add (j*5)))) (Pa (i:=(j:Int)) Pt O hA0 O sX sX) (Ka (v:=.agg (qe.cells).toArray) (Ya (l:=qe.cells) isAgg29 pZ O O hk0) ?_);refine Kh hF zeroValue29 pZ O ?_;intro b3 w hb3 hF hE;have hCs:=hCs.ext hE;have hHi:=fQ hHi hE.size;refine Db (Ia ?_);refine Id (.of []) (bQ [0,1,2,4,5] (.act 3 (.act 6 (.free 7 (.act 8 (.act 9 (.free 10 .nil))))))) hF ?_;intro w hF hE;have hCs:=hCs.ext hE;have hHi:=fQ hHi hE.size;refine⟨λwq=>FR w0 [] [(b3,.cells (qe.cells).toArray 29),(b2,.cells (q.cells).toArray 29),(b1,.cells (q.cells).toArray 29)] wq,hF.mid 0 3,?_⟩;refine Hb O (Pd O) (Hb O (Xb U1 O) ?_);refine Hl O (Rf vQ O C0 0 O O) (Hb O (Xb Un O) ?_);refine Qa O (v:=.agg (qe.v.cells).toArray) (λw hC=>Ya (l:=qe.v.cells) aZ oZ O O (hC.part 0 1 O O)) ?_;have hlo:∀p∈so,p.1<w.heap.size:=λp hp=>Ma (hF.own p (by simp[hp])).1;refine Qb O (cloneI_c qe.n qe.A qe.c eP _ hPl (Lie.ext hPc hF.same) hrP.one_ sX) (Ra en_22 O O) ?_;rintro _ w hcl;rw[hqn]at hcl;obtain⟨Apq,cpq,rfl,hP1,hE⟩:=BK hcl hrP;obtain⟨a1,m1,hlo1,hNa,ham,hmw,hPI⟩:∃a m,(∀p∈so,p.1<a)/\hi<=a/\a<=m/\m<=w.heap.size/\Rep (Iv a m w) w (.slice ((h++[x])[j].par.map Zd)) [.slice Apq (h++[x])[j].par.length cpq]:=⟨_,_,hlo,hHi,hE.size,gQ _,hP1⟩;have hCs:=hCs.ext hE;have hHi:=fQ hHi hE.size;have hF:=hF.ext hE;clear hE hcl hP1;refine⟨hF.mid 0 3,?_⟩;refine Qb O (I2 (h++[x])[j].val hTj.1 _ _ qe.v.cells (hF.rep hqV) hTj.2 (hG.ext hF.same)) (Ra TK O O) ?_
   rintro _ w ⟨ct,rfl,hRt,hE⟩;obtain⟨qt,rfl,-⟩:=Ll hRt;rw[So hRj]at hRt;obtain⟨b1v,hmb,hbw,hVI⟩:∃b,m1<=b/\b<=w.heap.size/\Rep (Iv m1 b w) w (Zb (h++[x])[j].val) qt.cells:=⟨_,fQ hmw hE.size,gQ _,hRt.weaken λk hk _=>⟨fQ hmw hk.1,hk.2.1,hk.2.2⟩⟩;have hCs:=hCs.ext hE;have hHi:=fQ hHi hE.size;have hPI:=Iv.same hPI hE Da;have hF:=hF.ext hE;clear hE hRt;refine⟨hF.mid 0 3,?_⟩;refine Qa O (v:=.agg #[.slice (Apq) ((h++[x])[j].par.length) (cpq),J (qt.k),I (qt.t),.slice qt.A qt.n qt.c,.slice qt.B qt.m qt.e]) (λw hC=>by kernel_rfl) (Fe 1 O hF (Xa (cs:=#[.slice (Apq) ((h++[x])[j].par.length) (cpq),J (qt.k),I (qt.t),.slice qt.A qt.n qt.c,.slice qt.B qt.m qt.e]) aX pZ zeroValue29 Ua Ua Mb) ?_);intro b4 w hb4 hF hE;have hCs:=hCs.ext hE;have hHi:=fQ hHi hE.size;have hPI:=Iv.same hPI hE Da;have hVI:=Iv.same hVI hE Da;have hbw:=fQ hbw hE.size;refine⟨hF.mid 1 3,?_⟩;refine Hw [_,_,_,_] [sw,so] 1 (news:=[.slice (Apq) ((h++[x])[j].par.length) (cpq),J (qt.k),I (qt.t),.slice qt.A qt.n qt.c,.slice qt.B qt.m qt.e]) (len':=j+1) (ys:=Bk (pl++[(Pl.mk (Mv.mk Apq (h++[x])[j].par.length cpq qt) a1 m1 b1v)])) O el_22 hF hSo O O (O) (λ_=>⟨_,O,Ob (hF.cellsAll 0 O)⟩) (by simp[Value.oneCell']) (by simp only[maxLen];omega) (O) ((II pl (Pl.mk (Mv.mk Apq (h++[x])[j].par.length cpq qt) a1 m1 b1v)).symm) sX ?_;intro A1 c1 o_1 w hS1_o hF hE hnew;have hso:∀k∈so.map (·.1),Z_ pl k/\k<a1:=λk hk=>by obtain⟨p,hp,rfl⟩:=nQ.1 hk;exact⟨hOf p hp,hlo1 p hp⟩
   have hCm:CmAt _ (h++[x])[j] (⟨Apq,(h++[x])[j].par.length,cpq,qt⟩:Mv) a1 m1 b1v:=⟨rfl,hPI,hVI,ham,hmb,hbw⟩;have hCm:=hCm.same hE (λk h1 h2 hk=>by have:=(hso k hk).2;omega);have hb1w:b1v<=w.heap.size:=fQ hbw hE.size;have hCs:=(hCs.same hE (λk hk=>(hso k hk).1)).snoc (p:=(Pl.mk (Mv.mk Apq (h++[x])[j].par.length cpq qt) a1 m1 b1v)) hCm hNa (gQ _);have hOf:∀p∈o_1,Z_ (pl++[(Pl.mk (Mv.mk Apq (h++[x])[j].par.length cpq qt) a1 m1 b1v)]) p.1:=λp hp=>by
     rcases hnew p hp with h|h
     ·exact off_snoc (hso _ h).1 (.inl (hso _ h).2)
     exact CmsAt.off hCs (fQ hbw h)
   refine⟨hF.mid 1 3,?_⟩;refine Hb O (Qg O) (Ec ?_);refine Ib (Ia ?_);refine Fa (Ca (Um O O) ?_);refine Ca (Kb O) (Db ?_);refine Yb ⟨_,?_,j+1,dn++qe.cells,c2_,A1,c1,o_1,pl++[(Pl.mk (Mv.mk Apq (h++[x])[j].par.length cpq qt) a1 m1 b1v)],b1v,O,sX,(by simpa using hSa),(by rw[dQ,hd];show _+5=_;omega),(hr2),(hS1_o),(by rw[iQ hjx];exact hCs),(hb1w),(hOf),Tq,hF.drop 2⟩;omega
  refine Nc (Kc O ?_);refine Ia (Ha ?_);refine Fa (Ca (Pd O) ?_);refine Ca (Qg O) (Ca (Sc O) ?_);refine Db (Ia ?_);refine Cc (Bc (Sa (Bg (v:=.slice _ _ _) (x:=J 0) O O O) ?_));have e:Ix h x=0:=by unfold Ix;rw[if_pos ⟨hr,hcx⟩,if_neg sX]
  rw[e];have ej:j=h.length+1:=by omega
  subst ej;refine⟨λh=>absurd O h,λ_=>⟨Ao,co,so,pl,hi,by simp,by simpa using hSo,λp hp=>⟨(hF.own p (by simp[hp])).1,(hF.own p (by simp[hp])).2.resolve_right Da⟩,?_,hHi,hOf,hF.same⟩⟩
  rwa [List.take_of_length_le Da]at hCs
end Go.Scarf
