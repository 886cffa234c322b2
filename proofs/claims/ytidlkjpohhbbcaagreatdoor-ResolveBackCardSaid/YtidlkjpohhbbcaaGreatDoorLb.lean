/- A part of the proof. -/
import Derived.Test.YtidlkjpohhbbcaaGreatDoorPv
set_option linter.all false
set_option maxHeartbeats 8000000
set_option maxRecDepth 10000
namespace Go.Scarf
open Go.RowKit Go.Proofs Go.Proofs.Tryz
theorem UI{x:Tree}(h:Ye x=true):Ye (sortT x)=true:=by
  have:=UD x;rw[Wd,if_pos (Cs h),h]at this;exact this
def sM(m:Mm):Mm:=⟨m.pr,if m.sd.has then ⟨true,sortT m.sd.val⟩ else noS⟩
theorem MS(m:Mm):sortT (Ml m)=Ml (sM m):=by
  obtain⟨pr,has,val⟩:=m;unfold Ml;rw[B5,List.map_cons,List.map_cons,List.map_nil,GT];have e:sortT (YU pr)=YU pr:=by rw[YU,Lm];rfl
  rw[e];cases has <;> rfl
theorem L9(t:List Mm):sortT (Yf t)=Yf (t.map sM):=by
  unfold Yf;rw[B5,List.map_map,List.map_map]
  congr 1
  exact List.map_congr_left λm _=>MS m
theorem C8(m:Mm):Td (Ml (sM m))=(sM m,true):=by
  obtain⟨pr,has,val⟩:=m;cases has <;> rfl
theorem LU(t:List Mm):Pn (Yf (t.map sM))=t.map sM:=by
  unfold Pn Yf;show List.map _ (List.map Ml (t.map sM))=_;rw[List.map_map,List.map_map];exact List.map_congr_left λm _=>congrArg Prod.fst (C8 m)
theorem IZ(t:List Mm):((Yf (t.map sM)).items.all λy=>(Td y).2)=true:=by
  rw[List.all_eq_true];intro y hy;obtain⟨m,hm,rfl⟩:=nQ.1 hy;obtain⟨m,-,rfl⟩:=nQ.1 hm;exact congrArg Prod.snd (C8 m)
theorem VY{m:Mm}(h:In m=true):In (sM m)=true:=by
  obtain⟨pr,has,val⟩:=m;unfold In Gt at h ⊢;cases has with
  | true =>
    simp only[Bool.and_eq_true,Bool.or_eq_true,Bool.not_true,Bool.false_or]at h;have hr:Ye val=true:=by simp_all
    have:=UI hr;simp_all[sM]
  | false =>
    simp only[Bool.and_eq_true,Bool.or_eq_true,Bool.not_false,Bool.true_or]at h;simp_all[sM,noS];rfl
theorem DU{t:List Mm}(h:Bh t=true):Bh (t.map sM)=true:=by
  obtain⟨h1,h2,h3⟩:=Lp.1 h;refine Lp.2 ⟨?_,λm hm=>?_,by rw[rQ];exact h3⟩
  ·unfold Asc at h1 ⊢
   exact List.pairwise_map.2 h1
  obtain⟨m', hm', rfl⟩ := nQ.1 hm;exact VY (h2 m' hm')
theorem Qo{t:List Mm}{a:Str}(h:Am t=(a,0)):Bh t=true/\Bt (Wd (Yf t))=a/\Ye (Wd (Yf t))=true:=by
  unfold Am at h;by_cases hr:Bh t=true
  ·rw[if_pos hr, Prod.mk.injEq]at h
   refine⟨hr,h.1,?_⟩;have h2:=h.2;unfold Ou at h2;by_cases h3:Ye (Wd (Yf t))=true
   ·exact h3
   rw[if_neg h3]at h2;cases h2
  rw[if_neg hr,Prod.mk.injEq]at h;cases h.2
theorem LL{t:List Mm}{a:Str}(h:Am t=(a,0))(hl:a.length<=65536):Rf a=(t.map sM,true):=by
  obtain⟨hr,h1,h2⟩:=Qo h;have ho:Ag (Yf t)=true:=by
    by_cases ho:Ag (Yf t)=true
    ·exact ho
    rw[Wd,if_neg ho]at h2;exact absurd h2 Oa
  have hw:Wd (Yf t)=Yf (t.map sM):=by rw[En ho,L9]
  have hww:Wd (Yf (t.map sM))=Yf (t.map sM):=by rw[<-L9];exact LF ho
  rw[hw]at h1 h2;have ea:a=Wc false 0 (Yf (t.map sM)) 0:=by rw[<-h1,Bt,if_pos h2]
  have hrd:Cc a=(Yf (t.map sM),a.length,0):=by
    have:=CU h2 (by rw[<-ea];exact hl);rw[<-ea]at this;exact this
  have hs:Am (t.map sM)=(a,0):=by
    unfold Am;rw[if_pos (DU hr),hww,h1,Ou,if_pos h2]
  unfold Rf;rw[hrd];dsimp only;rw[LU,if_pos ⟨rfl,rfl,IZ t,hs⟩]
theorem Gm{s:Str}(h:(Rf s).2=true):Am (Rf s).1=(s,0):=by
  unfold Rf at h ⊢;split at h
  ·rename_i h1;rw[if_pos h1];exact h1.2.2.2
  cases h
theorem Bx{s:Str}(h:(Rf s).2=false):(Rf s).1=[]:=by
  unfold Rf at h ⊢;split at h
  ·cases h
  rename_i h1;rw[if_neg h1]
theorem Ro{s:Str}(hl:s.length<=65536):MmsP (Rf s).1:=by
  unfold Rf;split
  ·exact RG hl
  exact⟨λm hm=>(by cases hm),Nat.zero_le _,by simp[Yf,Db,Nb],by simp[Yf,Ad,Jh,Di]⟩
theorem R1:∀(t:List Mm)(N:Nat),(∀m∈t,Db m.sd.val<=N)->Nb (t.map Ml)<=t.length*(3+N)
  | [],N,_=>Nat.zero_le _
  | m :: t, N, h => by
    have h1:=R1 t N λx hx=>h x (List.mem_cons_of_mem _ hx);have h3:=h m List.mem_cons_self;have h2:Db (Ml m)<=3+Db m.sd.val:=by
      unfold Ml Xe YU;simp only[Db,Nb];split
      ·simp only[Nb];omega
      simp only[Nb];omega
    simp only[List.map_cons,Nb,kQ,Nat.add_mul];omega
theorem few_mms{t:List Mm}(h:FewM t):MmsP t:=by
  have hn:=h.n;have h1:∀m∈t,Db m.sd.val<=60/\Ad m.sd.val<=2048/\m.pr.length<=2048:=λm hm=>by
    obtain⟨h2,h3⟩:=h.m m hm;obtain⟨h4,-,h5⟩:=BC Oa h2;exact⟨by omega,H9 _ h5,h3⟩
  refine⟨h.ok,by omega,?_,?_⟩
  ·have h2 := R1 t 60 λm hm => (h1 m hm).1
   unfold Yf;rw[Db];omega
  unfold Yf;rw[Ad];refine Nat.max_le.2 ⟨by simp,Nat.max_le.2 ⟨by simp[Di],Pp λx hx=>?_⟩⟩;obtain⟨m,hm,rfl⟩:=nQ.1 hx;obtain⟨-,h3,h4⟩:=h1 m hm;unfold Ml Xe YU;simp only[Ad,Di,Jh];split
  ·simp only[Jh,List.length_nil];omega
  simp only[Jh,List.length_nil];omega
theorem Y8(w0:World)(hG:Gl w0)(t:List Mm)(A:Option Addr)(c:Nat)(rt:Rep (λ_=>True) w0 (Tf t) [.slice A t.length c])(s:Str)(hs64:s.length<=9223372036854775807):Calls prog 4 #[.slice A t.length c,I s] w0 (Oc λv w'=>v=.bool true/\Same [] w0 w'):=by
 refine Ea func4 O ntmps4 Bb (Nc _ _) ?_;have hF:=FR.start w0 [];refine Da (Ba (Kb O) (Ob ?_));refine Qa hF (BR _ (hG.ext hF.same)) (x_call0 en_6 O) ?_;intro w hF;refine Ba (Kb O) (Ob (Ba (Qe O) ?_));refine Ta (few27_c t A c _ _ (hF.rep rt)) (Ma en_7 O O) ?_;rintro _ w ⟨q0,rfl,hf,hE⟩;have hF:=hF.ext hE;refine Ba (Kb O) (Ca (Fa (Da (Ba (Sc O) (Ba (Wi O) (Ba (Sc O) ?_))))));refine Je (d:=22) O (λhg0=>?_) (λhg0=>?_);refine Ha (Ha (Ha (Ba (Fc O O) (Ca (Od O (Da (Ba (Sc O) (Ba (Kb O) (Ca ?_)))))))));refine Lc (v:=.bool true) O O ?_;exact⟨O,hF.same⟩;refine Ba (Pd O) (Ba (Rp oX O) (Ba (Yx O O) (Ba (Pc O O) (Ca ?_))));refine Lb O O (λhc0=>?_) (λhc0=>?_);refine Da (Ba (Sc O) (Ba (Kb O) (Ca ?_)));refine Lc (v:=.bool true) O O ?_;exact⟨O,hF.same⟩;refine Na (Ga (Fa ?_));have hft:=hf (by simp_all);have hls:s.length<=8192:=by simp_all <;> omega
 refine Ja (Ba (Qe O) ?_);refine Ta (Mu t A c _ _ (hF.rep rt) (few_mms hft) (hG.ext hF.same)) (Ma QJ O O) ?_;rintro _ w ⟨rfl,hE⟩;obtain⟨a,e0,hsv⟩:∃a e0,Am t=(a,e0):=⟨_,_,rfl⟩;rw[hsv];have hF:=hF.ext hE;refine Ba (Aj O) (Ba (L1 O O) (Ba (Nh O O) (Ba (Xf O) (Ba (Gb O) (Ca (Fa (Da (Ba (Cb O) (Ba (Xh O O) (Ba (Sc O) ?_))))))))));refine Wb (d:=35) O (λhg1=>?_) (λhg1=>?_);refine Ba (Pd O) (Ba (Rp oX O) (Ba (NM O O) (Ba (Fc O O) (Ca ?_))));refine Lb O O (λhc1=>?_) (λhc1=>?_);refine Fa ?_;have hla:a.length<=65536:=by simp_all <;> omega
 have he0:e0=0:=by simp_all
 subst he0;have hlo:=LL hsv hla;have hmu:=Ro hla;have hsu:=Gm (s:=a) (by rw[hlo]);rw[hlo]at hmu hsu;refine Ja (Ba (Pd O) ?_);refine Ta (Lv a hla _ (hG.ext hF.same)) (Ma GF O O) ?_;rintro _ w ⟨Au,cu,rfl,hRt,hE⟩;rw[hlo]at hRt ⊢;have hU:=hRt;have hF:=hF.ext hE;clear hE hRt;refine Ba (Aj O) (Ba (yxl O O) (Ba (Xn O O) (Ba (Cm O) (Ba (Kb O) (Ob (Ba (Qe O) ?_))))));refine Ta (Lh (v':=.tuple #[I a,J 0]) (Mu (t.map sM) Au cu _ _ hU hmu (hG.ext hF.same)) (by rw[hsu])) (Ma QJ O O) ?_;rintro _ w ⟨rfl,hE⟩;have hF:=hF.ext hE;have hU:=hU.ext hE;refine Ba (Aj O) (Ba (L1 O O) (Ba (Nh O O) (Ba (Xf O) (Ba (Gb O) (Ob (Ba (Sc O) (Ba (Wi (b:=true) O) (Ba (Sc O) (Ba (Cb O) (Ia (v:=.bool false) (Id (YH O O) Oa) ?_))))))))));refine Ba (Pc O O) (Ba (Sc O) (Ba (Pd O) (Ba (Pd O) ?_)));refine Ia (v:=.bool false) (Id (RL O O) La) (Ba (Pc O O) (Ba (Sc O) (Ba (Qe O) (Ba (Qg dX O) (Ba (Qe O) (Ba (Qg dX O) ?_))))));refine Ia (v:=.bool false) (Id (YH O O) (by rw[rQ];exact λh=>h O)) ?_;refine Ba (Pc O O) (Ba (Sc O) (Ba (Qe O) ?_));refine Ta (Lh (v':=.bool true) (Cn (t.map sM) Au cu _ _ hU hmu.ok (hG.ext hF.same)) (by rw[(Qo hsu).1])) (Ma F2 O O) ?_;rintro _ w ⟨rfl,hE⟩;have hF:=hF.ext hE;have hU:=hU.ext hE;refine Ba (Wi (b:=true) O) (Ba (Pc O O) (Ca (Dr O (Da (Ba (Pd O) ?_)))));refine Ta (Lv s Aa _ (hG.ext hF.same)) (Ma GF O O) ?_;rintro _ w ⟨Av,cv,rfl,hRt,hE⟩;have hV:=hRt;have hF:=hF.ext hE;clear hE hRt;refine Ba (Aj O) (Ba (yxl O O) (Ba (Xn O O) (Ba (Cm O) (Ba (Kb O) (Ca (Fa (Da (Ba (Sc O) (Ba (Wi O) (Ca ?_))))))))));refine He O O (λhc3=>?_) (λhc3=>?_);have h3:(Rf s).2=false:=by simpa using hc3
 refine Da (Ba (Sc O) (Ba (Sc O) (Ba (Qe O) (Ba (Qg dX O) ?_))));refine Ia (v:=.bool true) (Me (Sj O O) (by rw[Bx h3];rfl)) ?_;refine Ba (Fc O O) (Ba (Kb O) (Ca ?_));refine Lc (v:=.bool true) O O ?_;exact⟨O,hF.same⟩;have h3:(Rf s).2=true:=by simpa using hc3
 refine Na (Ga (Da (Ba (Qe O) ?_)));refine Ta (Lh (v':=.tuple #[I s,J 0]) (Mu (Rf s).1 Av cv _ _ hV (Ro Aa) (hG.ext hF.same)) (by rw[Gm h3])) (Ma QJ O O) ?_;rintro _ w ⟨rfl,hE⟩;have hF:=hF.ext hE;have hV:=hV.ext hE;refine Ba (Aj O) (Ba (L1 O O) (Ba (Nh O O) (Ba (Xf O) (Ba (Gb O) (Ob (Ba (Sc O) (Ba (Sc O) (Ba (Cb O) (Ia (v:=.bool true) (Me (Sj O O) O) (Ba (Fc O O) ?_))))))))));refine Ba (Sc O) (Ba (Pd O) (Ba (Pd O) (Ia (v:=.bool true) (Me (Ms O O) O) (Ba (Fc O O) (Ba (Sc O) (Ba (Qe O) ?_))))));refine Ta (Lh (v':=.bool true) (Cn (Rf s).1 Av cv _ _ hV (Ro (s:=s) Aa).ok (hG.ext hF.same)) (by rw[(Qo (Gm h3)).1])) (Ma F2 O O) ?_;rintro _ w ⟨rfl,hE⟩;have hF:=hF.ext hE;have hV:=hV.ext hE;refine Ba (Fc O O) (Ba (Kb O) (Ca ?_));refine Lc (v:=.bool true) O O ?_;exact⟨O,hF.same⟩;refine Na (Ga (Da (Ba (Pd O) ?_)));refine Ta (Lv s Aa _ (hG.ext hF.same)) (Ma GF O O) ?_;rintro _ w ⟨Av,cv,rfl,hRt,hE⟩;have hV:=hRt;have hF:=hF.ext hE;clear hE hRt;refine Ba (Aj O) (Ba (yxl O O) (Ba (Xn O O) (Ba (Cm O) (Ba (Kb O) (Ca (Fa (Da (Ba (Sc O) (Ba (Wi O) (Ca ?_))))))))));refine He O O (λhc3=>?_) (λhc3=>?_);have h3:(Rf s).2=false:=by simpa using hc3
 refine Da (Ba (Sc O) (Ba (Sc O) (Ba (Qe O) (Ba (Qg dX O) ?_))));refine Ia (v:=.bool true) (Me (Sj O O) (by rw[Bx h3];rfl)) ?_;refine Ba (Fc O O) (Ba (Kb O) (Ca ?_));refine Lc (v:=.bool true) O O ?_;exact⟨O,hF.same⟩;have h3:(Rf s).2=true:=by simpa using hc3
 refine Na (Ga (Da (Ba (Qe O) ?_)));refine Ta (Lh (v':=.tuple #[I s,J 0]) (Mu (Rf s).1 Av cv _ _ hV (Ro Aa) (hG.ext hF.same)) (by rw[Gm h3])) (Ma QJ O O) ?_;rintro _ w ⟨rfl,hE⟩;have hF:=hF.ext hE;have hV:=hV.ext hE;refine Ba (Aj O) (Ba (L1 O O) (Ba (Nh O O) (Ba (Xf O) (Ba (Gb O) (Ob (Ba (Sc O) (Ba (Sc O) (Ba (Cb O) (Ia (v:=.bool true) (Me (Sj O O) O) (Ba (Fc O O) ?_))))))))));refine Ba (Sc O) (Ba (Pd O) (Ba (Pd O) (Ia (v:=.bool true) (Me (Ms O O) O) (Ba (Fc O O) (Ba (Sc O) (Ba (Qe O) ?_))))));refine Ta (Lh (v':=.bool true) (Cn (Rf s).1 Av cv _ _ hV (Ro (s:=s) Aa).ok (hG.ext hF.same)) (by rw[(Qo (Gm h3)).1])) (Ma F2 O O) ?_;rintro _ w ⟨rfl,hE⟩;have hF:=hF.ext hE;have hV:=hV.ext hE;refine Ba (Fc O O) (Ba (Kb O) (Ca ?_));refine Lc (v:=.bool true) O O ?_;exact⟨O,hF.same⟩;refine Ha (Ha (Ha (Ba (Pc O O) (Ca (Dr O (Da (Ba (Pd O) ?_)))))));refine Ta (Lv s Aa _ (hG.ext hF.same)) (Ma GF O O) ?_;rintro _ w ⟨Av,cv,rfl,hRt,hE⟩;have hV:=hRt;have hF:=hF.ext hE;clear hE hRt;refine Ba (Aj O) (Ba (yxl O O) (Ba (Xn O O) (Ba (Cm O) (Ba (Kb O) (Ca (Fa (Da (Ba (Sc O) (Ba (Wi O) (Ca ?_))))))))));refine He O O (λhc3=>?_) (λhc3=>?_);have h3:(Rf s).2=false:=by simpa using hc3
 refine Da (Ba (Sc O) (Ba (Sc O) (Ba (Qe O) (Ba (Qg dX O) ?_))));refine Ia (v:=.bool true) (Me (Sj O O) (by rw[Bx h3];rfl)) ?_;refine Ba (Fc O O) (Ba (Kb O) (Ca ?_));refine Lc (v:=.bool true) O O ?_;exact⟨O,hF.same⟩;have h3:(Rf s).2=true:=by simpa using hc3
 refine Na (Ga (Da (Ba (Qe O) ?_)));refine Ta (Lh (v':=.tuple #[I s,J 0]) (Mu (Rf s).1 Av cv _ _ hV (Ro Aa) (hG.ext hF.same)) (by rw[Gm h3])) (Ma QJ O O) ?_;rintro _ w ⟨rfl,hE⟩;have hF:=hF.ext hE;have hV:=hV.ext hE;refine Ba (Aj O) (Ba (L1 O O) (Ba (Nh O O) (Ba (Xf O) (Ba (Gb O) (Ob (Ba (Sc O) (Ba (Sc O) (Ba (Cb O) (Ia (v:=.bool true) (Me (Sj O O) O) (Ba (Fc O O) ?_))))))))));refine Ba (Sc O) (Ba (Pd O) (Ba (Pd O) (Ia (v:=.bool true) (Me (Ms O O) O) (Ba (Fc O O) (Ba (Sc O) (Ba (Qe O) ?_))))));refine Ta (Lh (v':=.bool true) (Cn (Rf s).1 Av cv _ _ hV (Ro (s:=s) Aa).ok (hG.ext hF.same)) (by rw[(Qo (Gm h3)).1])) (Ma F2 O O) ?_;rintro _ w ⟨rfl,hE⟩;have hF:=hF.ext hE;have hV:=hV.ext hE;refine Ba (Fc O O) (Ba (Kb O) (Ca ?_));refine Lc (v:=.bool true) O O ?_;exact⟨O,hF.same⟩
end Go.Scarf
