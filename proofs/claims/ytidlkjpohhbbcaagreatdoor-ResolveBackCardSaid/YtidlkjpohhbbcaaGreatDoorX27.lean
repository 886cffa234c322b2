/- A part of the proof. -/
import Derived.Test.YtidlkjpohhbbcaaGreatDoorRe14
set_option linter.all false
set_option maxHeartbeats 8000000
set_option maxRecDepth 10000
namespace Go.Scarf
open Go.RowKit Go.Proofs Go.Proofs.Tryz
theorem CI{x:Tree}{m:Int}(hm:0<=m)(h2:m<=200)(h:V0 x m=true):Db x<=200/\Ad x<=2048:=by
  obtain⟨h1,-,h3⟩:=BC hm h;have:=H9 x h3;exact⟨by omega,by omega⟩
structure Sm27 (c:Cf):Prop where
  b:Db c.b.val<=200/\Ad c.b.val<=2048
  l:Db c.l.val<=200/\Ad c.l.val<=2048
  r:Db c.r.val<=200/\Ad c.r.val<=2048
theorem Sm27.p{c:Cf}(h:Sm27 c):CfP c:=by
  obtain⟨⟨b1,b2⟩,⟨l1,l2⟩,⟨r1,r2⟩⟩:=h;exact⟨⟨⟨by omega,Rk _ Aa⟩,⟨by omega,Rk _ Aa⟩,⟨by omega,Rk _ Aa⟩⟩,by omega,by omega,by omega,by omega⟩
theorem Sg(l Z:Str)(n i:Nat)(hi:i<n)(hn:n<=l.length):(l.take n++Z).getD i 0=l.getD i 0:=by
  simp only[List.getD];rw[List.getElem?_append_left (by rw[List.length_take];omega),List.getElem?_take,if_pos hi]
theorem SC(l Z:Str)(hne:l≠[])(hv:¬((Lib.decodeL l).1=65533/\(Lib.decodeL l).2=1)):Lib.decodeL (l.take (Lib.decodeL l).2++Z)=Lib.decodeL l:=by
  have hle:=Lib.decodeL_le l hne;rw[Lib.decodeL_N (l.take _++Z)];rw[Lib.decodeL_N l]at hv hle ⊢;rcases Lib.decodeN_shape l.length (l.getD 0 0).toNat (l.getD 1 0).toNat (l.getD 2 0).toNat (l.getD 3 0).toNat with ⟨c,e⟩|⟨c1,c2,c3,cv,e⟩|⟨c1,c2,c3,c4,cv,cs,e⟩|⟨c1,c2,c3,c4,c5,cv,cw,e⟩|e
  ·rw[e]at hle ⊢
   rw[Sg l Z 1 0 Aa (by simpa using hle)];unfold Lib.decodeN;rw[if_pos c]
  ·rw[e]at hle ⊢
   simp only at hle ⊢;rw[Sg l Z 2 0 Aa hle,Sg l Z 2 1 Aa hle];unfold Lib.decodeN;rw[if_neg Aa,if_pos ⟨c1,by rw[dQ,List.length_take];omega,c3⟩,if_pos cv]
  ·rw[e]at hle ⊢
   simp only at hle ⊢;rw[Sg l Z 3 0 Aa hle,Sg l Z 3 1 Aa hle,Sg l Z 3 2 Aa hle];unfold Lib.decodeN;rw[if_neg Aa,if_neg Aa,if_pos ⟨c1,⟨by rw[dQ,List.length_take];omega,c3⟩,by rw[dQ,List.length_take];omega,c4⟩,if_pos ⟨cv,by omega⟩]
  ·rw[e]at hle ⊢
   simp only at hle ⊢;rw[Sg l Z 4 0 Aa hle,Sg l Z 4 1 Aa hle,Sg l Z 4 2 Aa hle,Sg l Z 4 3 Aa hle];unfold Lib.decodeN;rw[if_neg Aa,if_neg Aa,if_neg Aa,if_pos ⟨c1,⟨by rw[dQ,List.length_take];omega,c3⟩,⟨by rw[dQ,List.length_take];omega,c4⟩,by rw[dQ,List.length_take];omega,c5⟩,if_pos ⟨cv,by omega⟩]
  rw[e]at hv;exact absurd ⟨O,O⟩ hv
theorem esc_low:∀r:Nat,r<32->Ce r=0->Yl r=[92,117,48,48,dg (r/16),dg (r%16)]/\Sh (dg (r/16))=true/\Sh (dg (r%16))=true/\16*I3 (dg (r/16))+I3 (dg (r%16))=r:=by decide +kernel
theorem MM:∀r:Nat,r<128->Ce r≠0->Dj (UInt8.ofNat (Ce r).toNat)=some r:=by decide +kernel
theorem DL{r:Nat}(h:Ce r≠0):r<128:=by
  unfold Ce at h
  repeat' (split at h)
  all_goals omega
theorem DX(l Z:Str)(hne:l≠[])(hv:¬((Lib.decodeL l).1=65533/\(Lib.decodeL l).2=1)) :
    Si (Yl (Lib.decodeL l).1++Z)=((Lib.decodeL l).1,(Yl (Lib.decodeL l).1).length)/\∃c s,Yl (Lib.decodeL l).1=c::s/\c≠34:=by
  have he:Vf ((Lib.decodeL l).1:Int)=l.take (Lib.decodeL l).2:=Lib.encode_decode l hne hv;have hf:=SC l Z hne hv;have hle:=Lib.decodeL_le l hne;have hw:=Lib.decodeL_width l
  revert he hf hle hw hv
  generalize Lib.decodeL l=p;obtain⟨r,n⟩:=p;intro hv he hf hle hw;simp only at hv he hf hle hw ⊢;by_cases h1:Ce r≠0
  ·have hlow := DL h1
   have hm:=MM r hlow h1;have e:Yl r=[92,UInt8.ofNat (Ce r).toNat]:=by rw[Yl,if_pos h1]
   rw[e];refine⟨?_,_,_,O,by decide⟩;unfold Si;rw[if_pos (by rfl)];simp only[List.cons_append,List.nil_append,Vj,hm,kQ,List.length_nil]
  by_cases h2 : 32 <= r
  ·have e : Yl r = Vf r := by rw[Yl, if_neg h1, if_pos h2]
   have hb:=JH h2 h1;rw[e,he];rw[he]at hb;have hn:(l.take n).length=n:=by rw[List.length_take];omega
   cases hl:l.take n with
   | nil=>rw[hl]at hn;simp at hn;omega
   | cons c s =>
     rw[hl]at hb hf hn;have hc:=hb c List.mem_cons_self;refine⟨?_,c,s,O,hc.1⟩;unfold Si;rw[if_neg (by simpa using hc.2.1),hf,if_neg (by simp only;omega),hn]
  obtain⟨e, x1, x2, x3⟩ := esc_low r Aa (by simpa using h1);rw[e];refine⟨?_,_,_,O,by decide⟩;unfold Si;rw[if_pos (by rfl)];have hm:Dj 117=none:=by decide
  have h48:Sh 48=true:=by decide
  have v48:I3 48=0:=by decide
  simp only[List.cons_append,List.nil_append,Vj,hm,show (117:UInt8).toNat=117 from rfl,if_true,Qf,List.drop_succ_cons,List.drop_zero,Fl,h48,x1,x2,Bool.and_self,v48,kQ,List.length_nil];have e3:4096*0+256*0+16*I3 (dg (r/16))+I3 (dg (r%16))=r:=by omega
  simp only[e3];rw[if_neg Aa,if_pos Aa]
theorem Jv{t:Str}{a:Nat}{c:UInt8}{s:Str}(h:t.drop a=c::s):∃hlt:a<t.length,t[a]=c:=by
  have h1:t[a]? = some c:=by have:=congrArg (·[0]?) h;simpa using this
  exact List.getElem?_eq_some_iff.1 h1
theorem O9:∀(k:Nat)(s:Str),s.length<=k->Lib.validD s=true->∀(f:Nat)(t:Str)(a:Nat)(out X:Str),t.drop a=Jo s++34::X->t.length-a<f->Wm f t a out=(out++s,a+(Jo s).length+1,0)
  | k,s,hk,hv,0,t,a,out,X,h,hf=>by omega
  | k, s, hk, hv, f + 1, t, a, out, X, h, hf => by
    cases hs:s with
    | nil =>
      subst hs;obtain⟨hlt,hc⟩:=Jv (c:=34) (s:=X) (by simpa[Jo]using h);rw[Wm,dif_pos hlt,if_pos hc];simp[Jo]
    | cons c0 s0 =>
      have hne:s≠[]:=by rw[hs];simp
      rw[<-hs];have hbad:¬((Lib.decodeL s).1=65533/\(Lib.decodeL s).2=1):=by
        intro hb;rw[Lib.validD_step s hne,if_pos hb]at hv;cases hv
      have hv2:Lib.validD (s.drop (Lib.decodeL s).2)=true:=by rw[Lib.validD_step s hne,if_neg hbad]at hv;exact hv
      have he:Vf ((Lib.decodeL s).1:Int)=s.take (Lib.decodeL s).2:=Lib.encode_decode s hne hbad;have hle:=Lib.decodeL_le s hne;have hw:=Lib.decodeL_width s;have hsp:Jo s=Yl (Lib.decodeL s).1++Jo (s.drop (Lib.decodeL s).2):=by
        rw[SJ,he,<-K7,List.take_append_drop]
      rw[hsp,sQ]at h;obtain⟨hp,c,s1,hc,h34⟩:=DX s (Jo (s.drop (Lib.decodeL s).2)++34::X) hne hbad;obtain⟨hlt,hg⟩:=Jv (c:=c) (s:=s1++(Jo (s.drop (Lib.decodeL s).2)++34::X)) (by rw[h,hc];rfl);have hlen:0<(Yl (Lib.decodeL s).1).length:=by rw[hc];simp
      rw[Wm,dif_pos hlt,if_neg (by rw[hg];exact h34),h,hp,if_neg (by simp only;omega)];simp only;have hd:t.drop (a+(Yl (Lib.decodeL s).1).length)=Jo (s.drop (Lib.decodeL s).2)++34::X:=by
        rw[<-List.drop_drop,h,List.drop_left]
      cases k with
      | zero=>rw[hs]at hk;simp at hk
      | succ k =>
        rw[O9 k (s.drop (Lib.decodeL s).2) (by rw[List.length_drop];omega) hv2 f t _ _ X hd Aa,he,sQ,List.take_append_drop,hsp,dQ];simp only[Prod.mk.injEq,true_and,and_true];omega
theorem Q2{t s X:Str}{a:Nat}(hv:Lib.validD s=true)(h:t.drop a=Cj s++X):Re t a=(s,a+(Cj s).length,0):=by
  rw[Wu hv]at h ⊢;have h':t.drop a=34::(Jo s++34::X):=by simpa using h
  obtain⟨hlt,hg⟩:=Jv h';have hd:t.drop (a+1)=Jo s++34::X:=by rw[<-List.drop_drop,h'];rfl
  rw[Re,if_pos (by rw[List.getElem?_eq_getElem hlt,hg]),O9 s.length s (gQ _) hv _ t (a+1) [] X hd Aa];simp only[List.nil_append,dQ,kQ,List.length_nil,Prod.mk.injEq,true_and,and_true];omega
theorem Oq{s:Str}(hv:Lib.validD s=true):Vc (Cj s)=(s,(Cj s).length,0):=by
  have h:=Q2 (t:=Cj s) (a:=0) (X:=[]) hv La;rw[Nat.zero_add]at h;rw[Vc,h,if_neg (by simp only;omega)]
structure FewM (t:List Mm):Prop where
  n:t.length<=270
  m:∀m∈t,V0 m.sd.val 60=true/\m.pr.length<=2048
theorem keys27{x:Tree}{m:Int}(hm:0<=m)(h2:m<=200)(h:V0 x m=true):x.keys.length<=1000:=by
  obtain⟨k,t,ks,xs⟩:=x;have:=(BC hm h).1;simp only[Tree.keys];simp only[Ft]at this;omega
theorem side_few{s:Sd}{m:Int}(hm:0<=m)(h2:m<=200)(h:V0 s.val m=true):SdOk s/\s.val.keys.length<=1000000000:=by
  obtain⟨h1,h3⟩:=CI hm h2 h;have:=keys27 hm h2 h;exact⟨⟨by omega,Rk _ Aa⟩,by omega⟩
theorem FewM.ok{t:List Mm}(h:FewM t):∀m∈t,MmOk m:=λm hm=>by
  obtain⟨h1,h2⟩:=h.m m hm;obtain⟨h3,h4⟩:=side_few Aa Aa h1;exact⟨h3,by omega,h4⟩
theorem EL{t:List Mm}{j:Nat}(hs:∀i (hi:i<t.length),i<j->V0 t[i].sd.val 60=true/\t[i].pr.length<=2048)(hj:∀hj:j<t.length,V0 t[j].sd.val 60=true/\t[j].pr.length<=2048):∀i (hi:i<t.length),i<j+1->V0 t[i].sd.val 60=true/\t[i].pr.length<=2048:=λi hi h2=>by
  by_cases e:i=j
  ·subst e;exact hj hi
  exact hs i hi Aa
theorem few27_c(t:List Mm)(A:Option Addr)(c:Nat)(S:Nat->Prop)(w0:World)(hX:Rep S w0 (Tf t) [.slice A t.length c]):Calls prog 7 #[.slice A t.length c] w0 (Oc λv w'=>∃b:Bool,v=.bool b/\(b=true->FewM t)/\Same [] w0 w'):=by
 have hXl:=hX.slice_len;simp only[rQ]at hXl;refine Ea func7 O ntmps7 Bb (Tb _) ?_;have hF:=FR.start w0 [];refine Da (Ba (Kb O) (Ca (Fa (Da (Ba (Gb O) (Ca (Sa ?_)))))));refine Rc (λμ σ w=>∃(j:Nat),μ=t.length-j/\(j<=t.length/\j<=300)/\(∀i (hi:i<t.length),i<j->V0 t[i].sd.val 60=true/\t[i].pr.length<=2048)/\AllEq σ [(0,.slice A t.length c),(3,J ((j:Int)))]/\FR w0 [] [] w) _ ⟨0,O,Aa,(λi _ h=>by omega),PC,hF⟩ ?_;rintro μ σ w ⟨j,rfl,hj,hs_,hs,hF⟩;refine Cg.slots hs ?_;clear hs;intro σ;refine Fa (Da (Ba (Cb O) (Ba (Qe O) (Ba (Qg dX O) (Ba (Dl O O) (Ba (Sc O) ?_))))));refine Wb (d:=9) O (λhg0=>?_) (λhg0=>?_);refine Ba (Cb O) (Ba (Dl O O) (Ba (Fc O O) (Ca ?_)));refine Lb O O (λhc0=>?_) (λhc0=>?_);refine Na (Ga (Fa (Sa (Da (Ba (Qe O) (Ba (Cb O) ?_))))));obtain⟨ad1,q1,hA1,hk1,hx1,hp1⟩:=hX.mm_elem (i:=j) Aa;refine Ia (v:=.pointer (some (ad1.add (j*6)))) (Ra (i:=(j:Int)) El O hA1 O Aa Aa) (Ia (v:=.pointer (some ((ad1.add (j*6)).add 1))) (Gd (a:=ad1.add (j*6)) Uk O) (Ia (v:=.pointer (some (((ad1.add (j*6)).add 1).add 1))) (Gd (a:=(ad1.add (j*6)).add 1) Ih O) (Ia (v:=.agg (q1.v.cells).toArray) (Za (l:=q1.v.cells) aZ oZ O O (Hi (Hi (l:=q1.cells) (hF.cells0 hk1) 1 O) 1 O)) ?_)));refine Qa hF (few_v t[j].sd.val 60 Oa Oa _ _ q1.v.cells (hF.rep (Ze hx1).2.2.2.2)) (Ua en_16 O O O) ?_;intro w hF;refine Ba (Kb O) (Ob (Ba (Sc O) (Ba (Wi O) (Ba (Sc O) ?_))));refine Je (d:=24) O (λhg2=>?_) (λhg2=>?_);refine Ha (Ha (Ha (Ha (Ha (Ha (Ha (Ba (Fc O O) (Ca (Od O (Da (Ba (Kb O) ?_)))))))))));refine Ca (Lc (v:=.bool false) O O ?_);exact⟨_,O,λhb=>(by cases hb),hF.same⟩;refine Ba (Qe O) (Ba (Cb O) ?_);obtain⟨ad3,q3,hA3,hk3,hx3,hp3⟩:=hX.mm_elem (i:=j) Aa;refine Ia (v:=.pointer (some (ad3.add (j*6)))) (Ra (i:=(j:Int)) El O hA3 O Aa Aa) (Ia (v:=.pointer (some ((ad3.add (j*6)).add 0))) (Gd (a:=ad3.add (j*6)) Fo O) (Ia (v:=I (t[j].pr)) (Yc fZ O (hF.cell0 (hk3 0 Bb))) (Ba (Rp oX O) (Ba (Yx O O) (Ba (Pc O O) (Ca ?_))))))
 refine Lb O O (λhc1=>?_) (λhc1=>?_);refine Da (Ba (Kb O) (Ca ?_));refine Lc (v:=.bool false) O O ?_;exact⟨_,O,λhb=>(by cases hb),hF.same⟩;refine Na (Wa (Ga (Ja (Ba (Cb O) (Ba (Un (((j+1:Nat):Int)) O O) (Ba (Gb O) (Eb ?_)))))));refine Qb ⟨_,?_,j+1,rfl,Aa,(EL hs_ (λ_=>⟨by first|assumption|simp_all,by omega⟩)),PC,hF⟩;omega;refine Ic (Ec O ?_);refine Ga (Da (Ba (Qe O) (Ba (Qg dX O) (Ba (NM O O) (Ba (Kb O) (Ca ?_))))));refine Lc (v:=.bool _) O O ?_;exact⟨_,rfl,λhb=>by have:=of_decide_eq_true hb;exact⟨by omega,λm hm=>by obtain⟨i,hi,rfl⟩:=List.getElem_of_mem hm;exact hs_ i hi Aa⟩,hF.same⟩;refine Ha (Ha (Ba (Pc O O) (Ca (Te O ?_))));refine Ic (Ec O ?_);refine Ga (Da (Ba (Qe O) (Ba (Qg dX O) (Ba (NM O O) (Ba (Kb O) (Ca ?_))))));refine Lc (v:=.bool _) O O ?_;exact⟨_,rfl,λhb=>by have:=of_decide_eq_true hb;exact⟨by omega,λm hm=>by obtain⟨i,hi,rfl⟩:=List.getElem_of_mem hm;exact hs_ i hi Aa⟩,hF.same⟩
end Go.Scarf
namespace Go.Scarf.Fn
open Go.Scarf Go.RowKit Go.Proofs Go.Proofs.Tryz
section
variable {r:Option Nat}{m:Nat}{P:Program}{md:Region.Mode}
theorem G1{ops:Array Oper}{i:Nat}{a:Act}{w:World}{K K':Act->World->Prop}{Q:Exit->Act->World->Prop}(h:∀a w,K a w->K' a w)(hh:opStep P ops i K a w):wpOpIn (Fw r) m P ops Q i K' a w:=by
  unfold opStep at hh;unfold wpOpIn;cases hi:ops[i]? with
  | none=>simp only[hi]at hh ⊢;exact h _ _ hh
  | some o =>
    simp only[hi]at hh ⊢;by_cases hw:Region.wanted o (yielded ops a.tmps)=true
    ·rw[if_pos hw]at hh ⊢
     refine⟨λ_ _=>trivial,?_⟩;unfold StepN at hh;cases hr:(execOp a.eval o).run P w with
     | ok x w' =>
       rw[hr]at hh;cases x <;> simp only[]at hh
       case value v=>rw[Tx _ _ (QA hr λ_ h=>(by cases h)),hr,Oper.uponIn_value];exact h _ _ hh
       case skip=>rw[Tx _ _ (QA hr λ_ h=>(by cases h)),hr,Oper.uponIn_skip];exact h _ _ hh
       case enter f args =>
         rw[Tx _ _ (QA hr λ_ h=>(by cases h)),hr,Oper.uponIn_enter];exact⟨λh=>(by cases h),(Iy hh).mono λe w'' ⟨v,he,hk⟩=>by subst he;exact h _ _ hk⟩
     | halt x w'=>rw[hr]at hh;simp only[]at hh
    rw[if_neg hw]at hh ⊢;exact⟨λ_ _=>trivial,h _ _ hh⟩
theorem Wo{ops:Array Oper}{zs:Lt}{Q:Act->World->Prop}{Q':Exit->Act->World->Prop}(hq:∀a w,Q a w->Q' .normal a w) :
    ∀(fuel:Nat)(C:World->Prop)(listed:Array Bool)(a:Act)(w:World),P3 P md ops zs Q fuel C listed a w->wpAnyIn (Fw r) m P md ops Q' fuel listed a w
  | 0,_,_,_,_,h=>⟨h.1,hq _ _ h.2⟩
  | fuel+1,C,_,_,_,h=>⟨λh0=>hq _ _ (h.2.1 h0),λi hi=>G1 (λa' w' hh=>by
      by_cases hz:zs.contains i=true
      ·rw[if_pos hz]at hh;exact Wo hq fuel _ _ a' w' hh.2
      rw[if_neg hz]at hh;exact Wo hq fuel _ _ a' w' hh.2) (h.2.2 i hi)⟩
variable {R:Exit->Act->World->Prop}{n:Nat}{k:Kt}{s s0 s1:Nat->Value}{w w0:World}{ops:List Oper}{zs:Lt}{Ds:List Nat}{bs_:List (Nat × Obj)}
theorem LM{id:Nat}(order:Ord)(zs:Lt)(C:World->Prop)(hm:P.follows .mixedOrders=true)(hs:Region.noSelect ops.toArray=true)
    (hB:Jk .any ops.toArray zs true ops.toArray.size order (Array.replicate ops.toArray.size false)=true) (hC:C w.drew) (h:Dg P (post r m [] P R n k) n ops .done zs order C s w.drew):Cg r m [] P R n (.region id ops.toArray true) k s w:=by
  unfold Cg;refine wpIn_region_any hm (Wo (zs:=zs) (Q:=λa w=>post r m [] P R n k .normal a w) (λ_ _ h=>h) _ C _ _ _ ?_);unfold Dg at h;exact (Po hs order).1 _ C (Array.replicate ops.toArray.size false) s w.drew hB hC h
theorem Dd{id:Nat}(zs:Lt)(order:Ord)(hF:FR w0 Ds bs_ w)(h:∀w',FR w0 Ds bs_ w'->Same [] w w'->∃C:World->Prop,C w'/\Dg P (post r m [] P R n k) n ops .done zs order C s w')(hm:P.follows .mixedOrders=true:=by kernel_rfl)(hs:Region.noSelect ops.toArray=true:=by kernel_rfl)(hB:Jk .any ops.toArray zs true ops.toArray.size order (Array.replicate ops.toArray.size false)=true:=by kernel_rfl):Cg r m [] P R n (.region id ops.toArray true) k s w:=by
  have hE:Same [] w w.drew:=Same.drew w;obtain⟨C,hC,hD⟩:=h w.drew (hF.ext hE) hE;exact LM order zs C hm hs hB hC hD
theorem d_nil{C:World->Prop}(h:Eg r m [] P R n .normal k s w):Dg P (post r m [] P R n k) n ops .done zs .nil C s w:=by
  unfold Eg at h;have h':Go.Scarf.Eg P (post r m [] P R n k) n .normal .done s w:=by unfold Go.Scarf.Eg;exact h
  exact Go.Scarf.d_nil h'
def recP(fn:FuncId)(n:Nat)(s:Nat->Value)(ps:Array Tmp)(as_ body:Code)(D:Nat)(st:LoopState):Obj:=.loop { state:=st,pending:=some .ret,fn:=fn,tmps:=(Ix n s []).tmps,params:=ps,assign:=as_,body:=body,defers:=D }
variable {fn l D:Nat}{ps:Array Tmp}{as_ body:Code}{Rd:Ending->World->Prop}{RC RJ:LoopState->Obj}
theorem MX{g:Operand}{gf:FuncId}{lb:Array Value}(hF:FR w0 Ds bs_ w)(hg:ev n s g=.func (.func gf) #[] lb)(eg:Pa P gf)
    (h:∀fn D l w' RC RJ,RC=Np fn n s ps as_ body D->RJ=recP fn n s ps as_ body D->FR w0 Ds ((l,RC .ready)::(D,.deferred (some []))::bs_) w'->Same [] w w' ->
      Calls P gf (#[.func (.yield l) #[] #[]]++lb) w' (Oc λ_ w3=>(w3.heap[l]? = some (RC .ready)/\Eg none m (CJ D) P R n .normal k s (w3.putObj l (RC .exhausted)))\/(w3.heap[l]? = some (RJ .done)/\Eg none m (CJ D) P R n .ret k s (w3.putObj l (RJ .exhausted))))) (hk:MA k=true:=by rfl) :
    Cg none m [] P R n (.rangeFunc g ps as_ body) k s w:=by
  unfold Cg;refine wpIn_rangeFunc ?_;intro fn _;have hF1:=hF.alloc (.deferred (some []));have hF2:=hF1.alloc (Np fn n s ps as_ body w.heap.size .ready);rw[World.size_alloc]at hF2;refine⟨w.heap.size+1,CJ w.heap.size,(w.alloc (.deferred (some []))).alloc (Np fn n s ps as_ body w.heap.size .ready),{ target:=.fn (.func gf) lb,args:=#[.func (.yield (w.heap.size+1)) #[] #[]] },(w.alloc (.deferred (some []))).alloc (Np fn n s ps as_ body w.heap.size .ready),gf,
    #[.func (.yield (w.heap.size+1)) #[] #[]]++lb,(w.alloc (.deferred (some []))).alloc (Np fn n s ps as_ body w.heap.size .ready),?_,?_,?_,?_,λh=>(by cases h),?_⟩
  ·exact run_enterLoop_outer _ _ _ _ _
  ·have hg' : (Ix n s []).eval g = .func (.func gf) #[] lb := by rw[Dn];exact hg
   simp only[resolve,hg'];simp[go_sem]
  ·intro f' _;trivial
  ·simp[invoke,go_sem,eg _ _]
  refine (Iy (h fn w.heap.size (w.heap.size + 1) _ _ _ O O hF2 ((Same.alloc w _).trans (Same.alloc _ _)))).mono ?_;rintro e w3 ⟨v,rfl,⟨hl,hE⟩|⟨hl,hE⟩⟩
  ·refine⟨none, _, run_endLoop hl (λh => (by cases h)), ?_⟩
   have hE':=hE;unfold Eg at hE';rw[Pz (ds':=[]) hk]at hE';exact hE'
  refine⟨some .ret, _, run_endLoop hl (λh => (by cases h)), wpIn_ret ?_⟩;have hE':=hE;unfold Eg at hE';rw[Pz (ds':=[]) hk]at hE';exact hE'
theorem VS{t:Kt}(hRC:RC=Np fn n s0 ps as_ body D)(hRJ:RJ=recP fn n s0 ps as_ body D)(hl:w.heap[l]? = some (RC .busy))(h:Rd (.returned (.bool false)) (w.putObj l (RJ .done))) :
    Cg (some l) m [] P (roundPost P l Rd) n .ret t s1 w:=by
  subst hRC hRJ;exact Xa (Va ⟨_,_,run_endRound (some .ret) hl,h⟩)
end
theorem FV(ex A sb:List (Nat × Obj)):(A++(ex++(sb++[]))).Perm (ex++((A++sb)++[])):=by
  rw[qQ,qQ,<-sQ,<-sQ];exact List.Perm.append_right sb List.perm_append_comm
theorem bperm_(ex A sb:List (Nat × Obj)):(ex++((A++sb)++[])).Perm (A++(ex++(sb++[]))):=(FV ex A sb).symm
theorem K1:∀(f:Nat)(s:Str)(a:Nat)(out:List Tk),((Gg f s a out).2.2=0->(Gg f s a out).2.1=s.length)/\((Gg f s a out).2.2≠0->(Gg f s a out).1=[])
  | 0,s,a,out=>⟨λh=>(by cases h),λ_=>rfl⟩
  | f + 1, s, a, out => by
    rw[Gg];by_cases h1:a<s.length
    ·rw[if_pos h1]
     by_cases h2:(Ud s a).2=0
     ·rw[if_pos h2];exact K1 f s _ _
     rw[if_neg h2];exact⟨λh=>absurd h h2,λ_=>rfl⟩
    rw[if_neg h1];exact⟨λ_=>rfl,λh=>absurd rfl h⟩
theorem toks_at{s:Str}(h:(Ub s).2.2=0):(Ub s).2.1=s.length:=by
  unfold Ub at h ⊢;split at h
  ·cases h
  rename_i h1;rw[if_neg h1];exact (K1 _ _ _ _).1 h
theorem toks_nil{s:Str}(h:(Ub s).2.2≠0):(Ub s).1=[]:=by
  unfold Ub at h ⊢;split at h
  ·rename_i h1;rw[if_pos h1]
  rename_i h1;rw[if_neg h1];exact (K1 _ _ _ _).2 h
set_option maxHeartbeats 4000000 in
set_option maxRecDepth 10000 in
theorem all1E_c(s:Str)(hU:UniC s)(hls:s.length<=1000000)(w0:World)(hG:Gl w0)(l Bn:Nat)(SU:List Tk->List (Nat × Obj)->Prop)(SE:Nat->Int->List (Nat × Obj)->Prop)(hBn:∀pre u,SU pre u->(Bn,.cells #[I s] 9)∈u)(hY:∀pre (ex:List (Nat × Obj)) u w x (er:Int),pre.length<65536->(er=0->Bu x)->SU pre u->FR w0 [] (ex++(u++[])) w->YieldAt (Fw none) 2 prog l #[tkA x,J er] w (λe w'=>e=.returned (.bool (decide (er=0)))/\∃u',(if er=0 then SU (pre++[x]) u' else SE x.f er u')/\FR w0 [] (ex++(u'++[])) w'))(u:List (Nat × Obj))(hSU:SU [] u)(w:World)(hF0:FR w0 [] u w):Calls prog 230 #[.func (.yield l) #[] #[],V Bn] w (Oc λv w'=>∃u,(if (Ub s).2.2=0 then SU (Ub s).1 u else SE (Ub s).2.1 (Ub s).2.2 u)/\FR w0 [] u w'):=by
 refine Cz (m:=3) func230 O ntmps230 (Nat.le_of_ble_eq_true O) (Nc _ _) ?_;have hF:FR w0 [] ([]++(u++[])) w:=by simpa using hF0
 refine Fa (Fa (Ja ?_));refine Ia (v:=I s) (Yc fZ O (by rw[Bc (hF.memHeap (List.mem_append_right _ (List.mem_append_left _ (hBn _ _ hSU)))) 0];rfl)) ?_;refine Ba (Rp oX O) (Ba (Yx O O) (Eb (Ga ?_)));refine Lb O O (λhc0=>?_) (λhc0=>?_);refine Fa (Ja (Ba (Vp) ?_));refine Ia (w':=w) (v:=.agg #[J 0,J 0,J 0]) (by kernel_rfl) ?_;have e:Ub s=([],0,3):=by rw[Ub,if_pos (by omega)]
 have hyy:=hY [] [] u w ⟨0,0,0⟩ 3 (by decide) (λh=>(by cases h)) hSU hF;refine M3 hyy (λhy=>Fz O O O hy) ?_;clear hF hyy;rintro e w ⟨rfl,u2,hSU2,hF⟩;rw[if_neg (by decide)]at hSU2;refine⟨.bool false,O,?_⟩;refine Eb (Ga ?_);refine Xa (Va (Ka (Ui O) ?_));exact⟨u2,by rw[e,if_neg (by decide)];exact hSU2,by simpa using hF⟩;have hl:s.length<=65536:=by omega
 refine Na (Ga (Fa (Ja (Ba (Gb O) (Eb (Ga (Sa ?_)))))));refine Rc (λμ σ w=>∃(f:Nat),∃(a:Nat),∃(pre:List Tk),∃(u:List (Nat × Obj)),μ=s.length-a/\(Gg f s a pre=Ub s/\s.length-a<f/\a<=s.length/\pre.length<=a)/\(SU pre u)/\AllEq σ [(0,.func (.yield l) #[] #[]),(1,.pointer (some ((⟨Bn,0,none⟩:Addr)))),(3,J ((a:Int)))]/\FR w0 [] ([]++(u++[])) w) _ ⟨s.length+1,0,[],u,O,(⟨by rw[Ub,if_neg (by omega)],by omega,Nat.zero_le _,gQ _⟩),(hSU),⟨O,O,O,trivial⟩,hF⟩ ?_;rintro μ σ w ⟨f,a,pre,u,rfl,hq,hSU,hs,hF⟩;refine Cg.slots hs ?_;clear hs;intro σ;obtain⟨f,rfl⟩:∃g,f=g+1:=⟨f-1,by omega⟩;have hstep:=hq.1;rw[Gg]at hstep;refine Fa (Fa (Ja (Ba (Cb O) ?_)));refine Ia (v:=I s) (Yc fZ O (by rw[Bc (hF.memHeap (List.mem_append_right _ (List.mem_append_left _ (hBn _ _ hSU)))) 0];rfl)) ?_;refine Ba (Rp oX O) (Ba (Dl O O) (Eb (Ga ?_)));refine Lb O O (λhc1=>?_) (λhc1=>?_);refine Na (Ga (Sa (Fa (Ja ?_))));refine Ia (v:=I s) (Yc fZ O (by rw[Bc (hF.memHeap (List.mem_append_right _ (List.mem_append_left _ (hBn _ _ hSU)))) 0];rfl)) ?_;refine Ba (Cb O) ?_;rw[if_pos (by omega)]at hstep;refine Ta (Q9 s a hU (by omega) (by omega) _ (hG.ext hF.same)) (Ua en_231 O O O) ?_;rintro _ w ⟨rfl,hE⟩;have hF:=hF.ext hE;refine Ba (Aj O) (Ba (Ru O O) (Ba (Nh O O) ?_));refine Hf hF qX lZ O ?_;rintro b1 w hb1 hF -;refine Ba (Gb O) (Eb (Ga (Fa (Fa (Ja (Ba (Vp) (Yb (Ig wQ lZ O hF.F 0 O O) (Ba (Cb O) ?_))))))));rcases Decidable.em ((Ud s a).2=0)with hz|hz
 rw[if_pos hz]at hstep;have hto:=Lz (s:=s) (a:=a) (by omega) hz;have hyy:=hY pre [(b1,.cells (#[J (Ud s a).1.k,J ((Ud s a).1.f:Nat),J ((Ud s a).1.t:Nat)]) 140)] u w (Ud s a).1 (Ud s a).2 (by omega) (λ_=>⟨hto.2.2.2.1,hto.2.2.2.2,by rw[hto.2.2.1];exact hto.1,by omega⟩) hSU hF;refine M3 hyy (λhy=>Fz O O O hy) ?_;clear hF hyy;rintro e w ⟨rfl,u2,hSU2,hF⟩;rw[if_pos hz]at hSU2;refine⟨.bool true,by rw[decide_eq_true hz],?_⟩;refine Ba (Wi (b:=true) O) (Ba (Sc O) (Ba (Cb O) (Ba (Sn O O) (Ba (Pc O O) (Eb (Ga ?_))))));refine Lb O O (λhc2=>?_) (λhc2=>?_);exact absurd hz hc2;refine Na (Ga (Ja (Ba (Rb Hn O) (Ba (Rb Qj O) (Yb (Pi xQ O hF.F 0 O O) (Ba (Gb O) (Eb (Wa ?_))))))));refine Qb ⟨_,?_,f,(Ud s a).1.t,(pre++[(Ud s a).1]),u2,O,(⟨hstep,by omega,hto.2.1,by rw[dQ];show pre.length+1<=_;omega⟩),(hSU2),⟨O,O,O,trivial⟩,hF.drop 1⟩;omega;rw[if_neg hz]at hstep;have hyy:=hY pre [(b1,.cells (#[J (Ud s a).1.k,J ((Ud s a).1.f:Nat),J ((Ud s a).1.t:Nat)]) 140)] u w (Ud s a).1 (Ud s a).2 (by omega) (λh=>absurd h hz) hSU hF;refine M3 hyy (λhy=>Fz O O O hy) ?_;clear hF hyy;rintro e w ⟨rfl,u2,hSU2,hF⟩;rw[if_neg hz]at hSU2;refine⟨.bool false,by rw[decide_eq_false hz],?_⟩;refine Ba (Wi (b:=false) O) (Ba (Sc O) (Ha (Ha (Ba (Fc O O) (Eb (Ga (Od O ?_)))))));refine Xa (Va (Ka (Ui O) ?_));exact⟨u2,by rw[<-hstep,if_neg hz];exact hSU2,by have:=hF.drop 1;simpa using this⟩;refine Ic (Ec O ?_);refine Kg (Le (Ui O) ?_);rw[if_neg (by omega)]at hstep;exact⟨u,by rw[<-hstep,if_pos O];exact hSU,by simpa using hF⟩
set_option maxHeartbeats 4000000 in
set_option maxRecDepth 10000 in
theorem tokensE_c(s:Str)(hU:UniC s)(hl:s.length<=1000000)(w0:World)(hG:Gl w0):Calls prog 112 #[I s] w0 (Oc λv w'=>∃A c,v=.tuple #[.slice A (Ub s).1.length c,J ((Ub s).2.1:Nat),J (Ub s).2.2]/\Rep (Btw w0 w') w' (Mk (Ub s).1) [.slice A (Ub s).1.length c]/\(∀y∈(Ub s).1,Bu y)/\Same [] w0 w'):=by
 refine Ty (m:=3) func112 O ntmps112 (Nat.le_of_ble_eq_true O) (Tb _) ?_;have hF:=FR.start w0 [];refine Fa (Ja ?_);refine Gc (cs:=#[aQ]) hF zeroValue131 O ?_;rintro b1 w hb1 hF -;refine Gc (cs:=#[J 0]) hF rX O ?_;rintro b2 w hb2 hF -;refine Gc (cs:=#[J 0]) hF zeroValue25 O ?_;rintro b3 w hb3 hF -;refine Eb (Ga (Fa (Ja ?_)));refine Gc (cs:=#[aQ]) hF zeroValue131 O ?_;rintro b4 w hb4 hF -;refine Eb (Ga (Fa (Fa (Ja (Ba (Pd O) ?_)))));refine Ta (all_c s _) (Ma ZW O O) ?_;rintro v w' ⟨ba,rfl,hb,hg,hE⟩;have hF:=FR.takeK hF hE hb hg;clear hE hb hg;refine Eb (Ga (Sa ?_));refine MX hF O PV ?_;intro fn D l w RC RJ hRC hRJ hF hE;clear hE;refine Pj (all1E_c s hU hl w0 hG l ba (λpre u=>∃A c sb,SlB 140 3 A pre.length c (tkCs pre) sb/\(∀y∈pre,Bu y)/\u=(l,RC .ready)::(D,.deferred (some []))::(ba,.cells #[I s] 9)::(b4,.cells #[.slice A pre.length c] 131)::(b3,.cells #[J 0] 25)::(b2,.cells #[J 0] 3)::(b1,.cells #[aQ] 131)::sb) (λat_ er u=>∃A nn c sb,u=(l,RJ .done)::(D,.deferred (some []))::(ba,.cells #[I s] 9)::(b4,.cells #[.slice A nn c] 131)::(b3,.cells #[J er] 25)::(b2,.cells #[J ((at_:Nat))] 3)::(b1,.cells #[aQ] 131)::sb) ?_ ?_ _ ⟨none,0,[],SlB.nil _ _,by simp,O⟩ w hF) ?_
 ·rintro pre u ⟨A,c,sb,hS,hok1,rfl⟩;simp
 ·rintro pre ex u w x er hpl hxk ⟨A, c, sb, hS, hok1, rfl⟩ hF
  have hF:FR w0 [] ([(l,RC .ready),(D,.deferred (some [])),(ba,.cells #[I s] 9),(b4,.cells #[.slice A pre.length c] 131),(b3,.cells #[J 0] 25),(b2,.cells #[J 0] 3),(b1,.cells #[aQ] 131)]++(ex++(sb++[]))) w:=hF.perm (FV ex _ sb);have hl1:w.heap[l]? = some (RC .ready):=hF.heap (i:=0) rfl;refine MG hRC hl1 (Cg.slots (l:=[(2,V b1),(3,V b2),(4,V b3),(5,V b4),(10,tkA x),(11,J er)]) ⟨O,O,O,O,O,O,trivial⟩ ?_);clear hl1;intro σ;refine Fa (Ja ?_);refine Hf hF qX lZ O ?_;rintro b5 w hb5 hF -;refine Eb (Ga (Ja (Ba (Gb O) (Eb ?_))));refine FQ hRC (hF.heap (i:=1) O) ?_;have hF:=FR.put hF 1 (RC .busy) rfl;generalize w.putObj l (RC .busy)=w at hF ⊢;have hF:FR w0 [] ([(b5,.cells #[J (x.k),J ((x.f:Nat)),J ((x.t:Nat))] 140),(l,RC .busy),(D,.deferred (some [])),(ba,.cells #[I s] 9),(b4,.cells #[.slice A pre.length c] 131),(b3,.cells #[J 0] 25),(b2,.cells #[J 0] 3),(b1,.cells #[aQ] 131)]++(ex++(sb++[]))) w:=hF;refine Sa (Fa (Fa (Ja (Ba (Cb O) (Ba (Sn O O) (Eb (Ga ?_)))))));refine Lb O O (λhc0=>?_) (λhc0=>?_)
  ·
   refine Fa (Dd (.of [6]) (bQ [0,1,2,3] (cQ [4,5,6] .nil)) hF ?_);rintro w hF -;refine⟨λwq=>FR w0 [] [(b5,.cells #[J (x.k),J ((x.f:Nat)),J ((x.t:Nat))] 140),(l,RC .busy),(D,.deferred (some [])),(ba,.cells #[I s] 9),(b4,.cells #[.slice A pre.length c] 131),(b3,.cells #[J 0] 25)] wq,hF.sub (.cons_cons _ (.cons_cons _ (.cons_cons _ (.cons_cons _ (.cons_cons _ (.cons_cons _ (.cons _ (.cons _ (List.nil_sublist _))))))))),?_⟩;refine Hb O (Rb Hn O) (Hb O (Rb Rr O) (Nf O (Pi xQ O C0 0 O O) (Hb O (Cb O) ?_)));refine CC O 7 (l:=[aQ]) (cs':=#[aQ]) hF sizeOf131 O (v:=aQ) O O (by simp[one]) O (Nat.le_of_ble_eq_true O) O ?_;rintro w hF -;have hF:FR w0 [] ([(b5,.cells #[J (x.k),J ((x.f:Nat)),J ((x.t:Nat))] 140),(l,RC .busy),(D,.deferred (some [])),(ba,.cells #[I s] 9),(b4,.cells #[.slice A pre.length c] 131),(b3,.cells #[J 0] 25),(b2,.cells #[J 0] 3),(b1,.cells #[aQ] 131)]++(ex++(sb++[]))) w:=hF;refine⟨hF.sub (.cons_cons _ (.cons_cons _ (.cons_cons _ (.cons_cons _ (.cons_cons _ (.cons_cons _ (.cons _ (.cons _ (List.nil_sublist _))))))))),?_⟩;refine CC O 6 (l:=[J ((x.f:Nat))]) (cs':=#[J ((x.f:Nat))]) hF sizeOf3 O (v:=J ((x.f:Nat))) O O (by simp[one]) O (Nat.le_of_ble_eq_true O) O ?_;rintro w hF -;have hF:FR w0 [] ([(b5,.cells #[J (x.k),J ((x.f:Nat)),J ((x.t:Nat))] 140),(l,RC .busy),(D,.deferred (some [])),(ba,.cells #[I s] 9),(b4,.cells #[.slice A pre.length c] 131),(b3,.cells #[J 0] 25),(b2,.cells #[J ((x.f:Nat))] 3),(b1,.cells #[aQ] 131)]++(ex++(sb++[]))) w:=hF;refine⟨hF.sub (.cons_cons _ (.cons_cons _ (.cons_cons _ (.cons_cons _ (.cons_cons _ (.cons_cons _ (.cons _ (.cons _ (List.nil_sublist _))))))))),?_⟩;refine Y4 O 5 (l:=[J er]) (cs':=#[J er]) hF sizeOf25 O (v:=J er) O O (by simp[one]) O (Nat.le_of_ble_eq_true O) O ?_;rintro w hF -;have hF:FR w0 [] ([(b5,.cells #[J (x.k),J ((x.f:Nat)),J ((x.t:Nat))] 140),(l,RC .busy),(D,.deferred (some [])),(ba,.cells #[I s] 9),(b4,.cells #[.slice A pre.length c] 131),(b3,.cells #[J er] 25),(b2,.cells #[J ((x.f:Nat))] 3),(b1,.cells #[aQ] 131)]++(ex++(sb++[]))) w:=hF
   refine d_nil (Ga ?_);refine VS hRC hRJ (hF.heap (i:=1) O) ?_;have hF:FR w0 [] ([(l,RJ .done),(D,.deferred (some [])),(ba,.cells #[I s] 9),(b4,.cells #[.slice A pre.length c] 131),(b3,.cells #[J er] 25),(b2,.cells #[J ((x.f:Nat))] 3),(b1,.cells #[aQ] 131)]++(ex++(sb++[]))) _:=(FR.put hF 1 (RJ .done) rfl).drop 1;refine⟨by rw[decide_eq_false hc0],_,?_,hF.perm (bperm_ ex _ _)⟩;rw[if_neg hc0];exact⟨A,_,c,sb,rfl⟩
  refine Na (Ga (Ja (Yb (Ff uQ O hF.F 4 O O) (Yb (Ig wQ lZ O hF.F 0 O O) ?_))));refine Tt (v:=λb=>W b 1 1) hF (Fb (cs:=#[J (x.k),J ((x.f:Nat)),J ((x.t:Nat))]) xZ lZ qX (by decide) (by decide) (by kernel_rfl)) ?_;rintro b6 w hb6 hF -;refine Uo ([(b6,.cells #[J (x.k),J ((x.f:Nat)),J ((x.t:Nat))] 140),(b5,.cells #[J (x.k),J ((x.f:Nat)),J ((x.t:Nat))] 140),(l,RC .busy),(D,.deferred (some [])),(ba,.cells #[I s] 9),(b4,.cells #[.slice A pre.length c] 131),(b3,.cells #[J 0] 25),(b2,.cells #[J 0] 3),(b1,.cells #[aQ] 131)]++ex) [] (news:=[J (x.k),J ((x.f:Nat)),J ((x.t:Nat))]) (len':=(pre++[x]).length) (ys:=tkCs (pre++[x])) UB hF hS O O (O) (λ_=>⟨_,O,Tc (hF.cellsAll 0 O)⟩) (by simp[Value.oneCell']) (by simp only[maxLen];omega) (by simp) (by rw[T_];rfl) (by omega) ?_;intro A0 c0 o_0 w hS0_o hF hE hnew;refine Gh 5 (l:=[.slice (A0) ((pre++[x]).length) (c0)]) (cs':=#[.slice (A0) ((pre++[x]).length) (c0)]) hF sizeOf131 O (v:=.slice (A0) ((pre++[x]).length) (c0)) O O (by simp[one]) O (Nat.le_of_ble_eq_true O) O ?_;rintro w hF -;have hF:FR w0 [] ([(b6,.cells #[J (x.k),J ((x.f:Nat)),J ((x.t:Nat))] 140),(b5,.cells #[J (x.k),J ((x.f:Nat)),J ((x.t:Nat))] 140),(l,RC .busy),(D,.deferred (some [])),(ba,.cells #[I s] 9),(b4,.cells #[.slice (A0) ((pre++[x]).length) (c0)] 131),(b3,.cells #[J 0] 25),(b2,.cells #[J 0] 3),(b1,.cells #[aQ] 131)]++(ex++(o_0++[]))) w:=hF;refine Eb (Wa ?_);refine EB hRC (hF.heap (i:=2) O) ?_;have hF:FR w0 [] ([(l,RC .ready),(D,.deferred (some [])),(ba,.cells #[I s] 9),(b4,.cells #[.slice (A0) ((pre++[x]).length) (c0)] 131),(b3,.cells #[J 0] 25),(b2,.cells #[J 0] 3),(b1,.cells #[aQ] 131)]++(ex++(o_0++[]))) _:=(FR.put hF 2 (RC .ready) rfl).drop 2;have hz:er=0:=Decidable.not_not.1 hc0;refine⟨by rw[hz];rfl,_,?_,hF.perm (bperm_ ex _ _)⟩;rw[if_pos hz];exact⟨_,_,_,hS0_o,λy hy=>(mQ.1 hy).elim (hok1 y) (λh=>by rw[pQ.1 h];exact hxk hz),rfl⟩
 rintro v w ⟨u, hSS, hF⟩;by_cases hz:(Ub s).2.2=0
 ·
  rw[if_pos hz]at hSS;obtain⟨A,c,sb,hS,hok1,rfl⟩:=hSS;refine .inl ⟨hF.heap (i:=0) O,?_⟩;have hF:=FR.put hF 0 (RC .exhausted) rfl;generalize w.putObj l (RC .exhausted)=w at hF ⊢;have hF:FR w0 [] ([(l,RC .exhausted),(D,.deferred (some [])),(ba,.cells #[I s] 9),(b4,.cells #[.slice (A) ((Ub s).1.length) (c)] 131),(b3,.cells #[J 0] 25),(b2,.cells #[J 0] 3),(b1,.cells #[aQ] 131)]++(sb++[])) w:=by simpa using hF
  refine Wa (Ga (Fa (Ja (Yb (Ff uQ O hF.F 3 O O) (Ba (Pd O) (Ba (Rp oX O) ?_))))));refine Zl (.slice _ _ _) hF sizeOf131 O O sI6.app Oi ?_;rintro w hF -;refine Zl (.int _ _) hF sizeOf3 O O sI5.app Oi ?_;rintro w hF -;refine Zl (.int _ _) hF sizeOf25 O O XU.app Oi ?_;rintro w hF -;refine Eb (Ga ?_);have hF9:=FR.put hF 1 (.deferred none) rfl;refine Xa (Va (C1 (hF.heap (i:=1) O) (HN O O O O uQ xQ isAgg25 (hF9.cell 6 O O) (hF9.cell 5 O O) (hF9.cell 4 O O)) ?_));rw[hz,toks_at hz];refine⟨A,c,O,?_,hok1,hF9.same⟩;exact SlB.rep (pre:=[(l,RC .exhausted),(D,.deferred none),(ba,.cells #[I s] 9),(b4,.cells #[.slice (A) ((Ub s).1.length) (c)] 131),(b3,.cells #[J 0] 25),(b2,.cells #[J ((((s):Str).length:Int))] 3),(b1,.cells #[.slice (A) ((Ub s).1.length) (c)] 131)]) (post:=[]) hS hF9 (RX.plain (ids:=[]) λS=>tk_reps _ hok1) (by simp)
 rw[if_neg hz]at hSS;obtain⟨A,nn,c,sb,rfl⟩:=hSS;refine .inr ⟨hF.heap (i:=0) O,?_⟩;have hF:=FR.put hF 0 (RJ .exhausted) rfl;generalize w.putObj l (RJ .exhausted)=w at hF ⊢;have hF:FR w0 [] ([(l,RJ .exhausted),(D,.deferred (some [])),(ba,.cells #[I s] 9),(b4,.cells #[.slice A nn c] 131),(b3,.cells #[J ((Ub s).2.2)] 25),(b2,.cells #[J (((Ub s).2.1:Nat))] 3),(b1,.cells #[aQ] 131)]++(sb++[])) w:=by simpa using hF
 have hF9:=FR.put hF 1 (.deferred none) rfl;refine Va (C1 (hF.heap (i:=1) O) (HN O O O O uQ xQ isAgg25 (hF9.cell 6 O O) (hF9.cell 5 O O) (hF9.cell 4 O O)) ?_);have h1:=toks_nil hz;rw[h1];exact⟨none,0,rfl,Rep.nil_slice 0 (by omega) none,λy hy=>(by cases hy),hF9.same⟩
end Go.Scarf.Fn
namespace Go.Scarf
end Go.Scarf
