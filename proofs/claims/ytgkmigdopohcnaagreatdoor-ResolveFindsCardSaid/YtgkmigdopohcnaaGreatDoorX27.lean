/- A part of the proof. -/
import Derived.Test.YtgkmigdopohcnaaGreatDoorRe14
set_option linter.all false
set_option maxHeartbeats 8000000
set_option maxRecDepth 10000
namespace Go.Scarf
open Go.RowKit Go.Proofs Go.Proofs.Tryz
theorem No{x:Tree}{m:Int}(hm:0<=m)(h2:m<=200)(h:To x m=true):Mb x<=200/\Id x<=2048:=by
  obtain⟨h1,-,h3⟩:=ZK hm h;have:=SO x h3;exact⟨by omega,by omega⟩
structure Sm27 (c:Cf):Prop where
  b:Mb c.b.val<=200/\Id c.b.val<=2048
  l:Mb c.l.val<=200/\Id c.l.val<=2048
  r:Mb c.r.val<=200/\Id c.r.val<=2048
theorem sm27{c:Cf}(h:(To c.b.val 100&&(To c.l.val 100&&To c.r.val 100))=true):Sm27 c:=by
  rw[Bool.and_eq_true,Bool.and_eq_true]at h;exact⟨No Ba Ba h.1,No Ba Ba h.2.1,No Ba Ba h.2.2⟩
theorem Sm27.p{c:Cf}(h:Sm27 c):CfP c:=by
  obtain⟨⟨b1,b2⟩,⟨l1,l2⟩,⟨r1,r2⟩⟩:=h;exact⟨⟨⟨by omega,Yk _ Ba⟩,⟨by omega,Yk _ Ba⟩,⟨by omega,Yk _ Ba⟩⟩,by omega,by omega,by omega,by omega⟩
theorem Sm27.turn{c:Cf}(h:Sm27 c):Sm27 (ZZ c):=⟨h.b,h.r,h.l⟩
theorem CvOf.turn{S:Nat->Prop}{w:World}{c:Cf}{q:Cv}(h:CvOf S w c q):CvOf S w (ZZ c) ⟨none,0,0,q.k,q.x,q.z,q.y⟩ :=
  ⟨rfl,h.k,Rep.nil_slice 0 Ba none,h.x,h.z,h.y⟩
theorem Jg(l Z:Str)(n i:Nat)(hi:i<n)(hn:n<=l.length):(l.take n++Z).getD i 0=l.getD i 0:=by
  simp only[List.getD];rw[List.getElem?_append_left (by rw[List.length_take];omega),List.getElem?_take,if_pos hi]
theorem Kv(l Z:Str)(hne:l≠[])(hv:¬((Lib.decodeL l).1=65533/\(Lib.decodeL l).2=1)):Lib.decodeL (l.take (Lib.decodeL l).2++Z)=Lib.decodeL l:=by
  have hle:=Lib.decodeL_le l hne;rw[Lib.decodeL_N (l.take _++Z)];rw[Lib.decodeL_N l]at hv hle ⊢;rcases Lib.decodeN_shape l.length (l.getD 0 0).toNat (l.getD 1 0).toNat (l.getD 2 0).toNat (l.getD 3 0).toNat with ⟨c,e⟩|⟨c1,c2,c3,cv,e⟩|⟨c1,c2,c3,c4,cv,cs,e⟩|⟨c1,c2,c3,c4,c5,cv,cw,e⟩|e
  ·rw[e]at hle ⊢
   rw[Jg l Z 1 0 Ba (by simpa using hle)];unfold Lib.decodeN;rw[if_pos c]
  ·rw[e]at hle ⊢
   simp only at hle ⊢;rw[Jg l Z 2 0 Ba hle,Jg l Z 2 1 Ba hle];unfold Lib.decodeN;rw[if_neg Ba,if_pos ⟨c1,by rw[dQ,List.length_take];omega,c3⟩,if_pos cv]
  ·rw[e]at hle ⊢
   simp only at hle ⊢;rw[Jg l Z 3 0 Ba hle,Jg l Z 3 1 Ba hle,Jg l Z 3 2 Ba hle];unfold Lib.decodeN;rw[if_neg Ba,if_neg Ba,if_pos ⟨c1,⟨by rw[dQ,List.length_take];omega,c3⟩,by rw[dQ,List.length_take];omega,c4⟩,if_pos ⟨cv,by omega⟩]
  ·rw[e]at hle ⊢
   simp only at hle ⊢;rw[Jg l Z 4 0 Ba hle,Jg l Z 4 1 Ba hle,Jg l Z 4 2 Ba hle,Jg l Z 4 3 Ba hle];unfold Lib.decodeN;rw[if_neg Ba,if_neg Ba,if_neg Ba,if_pos ⟨c1,⟨by rw[dQ,List.length_take];omega,c3⟩,⟨by rw[dQ,List.length_take];omega,c4⟩,by rw[dQ,List.length_take];omega,c5⟩,if_pos ⟨cv,by omega⟩]
  rw[e]at hv;exact absurd ⟨O,O⟩ hv
theorem IX:∀r:Nat,r<32->Me r=0->Do r=[92,117,48,48,dg (r/16),dg (r%16)]/\GB (dg (r/16))=true/\GB (dg (r%16))=true/\16*KZ (dg (r/16))+KZ (dg (r%16))=r:=by decide +kernel
theorem B7:∀(n:Nat)(a b:Str),a.length<=n->Lib.validD a=true->Lib.validD (a++b)=Lib.validD b
  | _,[],b,_,_=>rfl
  | 0,c::a,b,h,_=>by simp at h
  | n + 1, c :: a, b, h, hv => by
    have hne:c::a≠[]:=by simp
    have hbad:¬((Lib.decodeL (c::a)).1=65533/\(Lib.decodeL (c::a)).2=1):=by
      intro hb;rw[Lib.validD_step _ hne,if_pos hb]at hv;cases hv
    have hv2:Lib.validD ((c::a).drop (Lib.decodeL (c::a)).2)=true:=by rw[Lib.validD_step _ hne,if_neg hbad]at hv;exact hv
    have hle:=Lib.decodeL_le _ hne;have hw:=Lib.decodeL_width (c::a);have e:Lib.decodeL ((c::a)++b)=Lib.decodeL (c::a):=by
      have h1:=Kv (c::a) ((c::a).drop (Lib.decodeL (c::a)).2++b) hne hbad;rw[<-sQ,List.take_append_drop]at h1;exact h1
    rw[Lib.validD_step ((c::a)++b) La,e,if_neg hbad,List.drop_append_of_le_length hle];exact B7 n _ b (by rw[List.length_drop];simp only[kQ]at h ⊢;omega) hv2
theorem Wh{a b:Str}(ha:Lib.validD a=true)(hb:Lib.validD b=true):Lib.validD (a++b)=true:=by rw[B7 a.length a b (gQ _) ha];exact hb
theorem Zm:∀{a:Str},(∀c∈a,c.toNat<128)->Lib.validD a=true
  | [],_=>rfl
  | c :: a, h => by
    have hc:=h c List.mem_cons_self;rw[Lib.validD_step _ La,Lib.decodeL_ascii c a hc,if_neg (by simp only;omega)];exact Zm λd hd=>h d (List.mem_cons_of_mem _ hd)
theorem XT:∀k<32,(dg k).toNat<128:=by decide
theorem QF(l:Str)(hne:l≠[])(hv:¬((Lib.decodeL l).1=65533/\(Lib.decodeL l).2=1)):Lib.validD (Do (Lib.decodeL l).1)=true:=by
  have he:Uf ((Lib.decodeL l).1:Int)=l.take (Lib.decodeL l).2:=Lib.encode_decode l hne hv;have hf:=Kv l [] hne hv;have hle:=Lib.decodeL_le l hne;have hw:=Lib.decodeL_width l;rw[qQ]at hf
  revert he hf hle hw hv
  generalize Lib.decodeL l=p;obtain⟨r,n⟩:=p;intro hv he hf hle hw;simp only at hv he hf hle hw ⊢;by_cases h1:Me r≠0
  ·rw[Do, if_pos h1]
   have:=So r;refine Zm λc hc=>?_;have hl:Me r<128:=by unfold Me;repeat' split
                                   all_goals omega
   simp only[oQ,List.not_mem_nil,or_false]at hc;rcases hc with rfl|rfl
   ·decide
   simp only[UInt8.toNat_ofNat'];omega
  by_cases h2 : 32 <= r
  ·rw[Do, if_neg h1, if_pos h2, he]
   have hn:(l.take n).length=n:=by rw[List.length_take];omega
   rw[Lib.validD_step _ (by intro h0;rw[h0]at hn;simp at hn;omega),hf,if_neg hv];simp only;rw[List.drop_eq_nil_of_le Ba];rfl
  obtain⟨e, -, -, -⟩ := IX r Ba (by simpa using h1);rw[e];refine Zm λc hc=>?_;simp only[oQ,List.not_mem_nil,or_false]at hc;rcases hc with rfl|rfl|rfl|rfl|rfl|rfl
  ·decide
  ·decide
  ·decide
  ·decide
  ·exact XT _ Ba
  exact XT _ Ba
theorem W3:∀(k:Nat)(s:Str),s.length<=k->Lib.validD s=true->Lib.validD (St s)=true
  | _,[],_,_=>rfl
  | 0,c::s,h,_=>by simp at h
  | k + 1, c :: s0, hk, hv => by
    have hne:c::s0≠[]:=by simp
    revert hk hv hne
    generalize c::s0=s;intro hk hv hne;have hbad:¬((Lib.decodeL s).1=65533/\(Lib.decodeL s).2=1):=by
      intro hb;rw[Lib.validD_step s hne,if_pos hb]at hv;cases hv
    have hv2:Lib.validD (s.drop (Lib.decodeL s).2)=true:=by rw[Lib.validD_step s hne,if_neg hbad]at hv;exact hv
    have he:Uf ((Lib.decodeL s).1:Int)=s.take (Lib.decodeL s).2:=Lib.encode_decode s hne hbad;have hw:=Lib.decodeL_width s;have hsp:St s=Do (Lib.decodeL s).1++St (s.drop (Lib.decodeL s).2):=by
      rw[Q_,he,<-G3,List.take_append_drop]
    rw[hsp];exact Wh (QF s hne hbad) (W3 k _ (by rw[List.length_drop];omega) hv2)
theorem DA{s:Str}(h:Lib.validD s=true):Lib.validD (Cs s)=true:=by
  rw[SA h];exact Wh Ta (Wh (W3 s.length s (gQ _) h) Ta)
theorem SB(s:Str):Lib.validD (qS s)=true:=by
  unfold qS;split
  ·rename_i h;exact DA h
  rfl
theorem H3(d:Nat):∀(ps:List Str)(b:Bool),(∀p∈ps,Lib.validD p=true)->Lib.validD (Cl false 0 d b ps)=true
  | [],_,_=>rfl
  | p :: ps, b, h => by
    unfold Cl;refine Wh (by cases b <;> decide) ?_;refine Wh (by unfold Xk;rfl) (Wh (h p List.mem_cons_self) (H3 d ps false λq hq=>h q (List.mem_cons_of_mem _ hq)))
theorem Ty(d:Nat)(o c:UInt8)(ps:List Str)(ho:o.toNat<128)(hc:c.toNat<128)(h:∀p∈ps,Lib.validD p=true):Lib.validD (Bk false 0 d o c ps)=true:=by
  unfold Bk;refine Wh (Zm λx hx=>by rw[pQ.1 hx];exact ho) (Wh (H3 d ps true h) ?_);have e:(if ps=[] then [] else Xk false 0 d)=([]:Str):=by split <;> rfl
  rw[e];exact Zm λx hx=>by rw[List.nil_append,pQ]at hx;rw[hx];exact hc
theorem XS{c:UInt8}(h:UW c):c.toNat<128:=by
  rcases h with h|rfl|rfl
  ·unfold Ji at h
   simp only[Bool.and_eq_true,decide_eq_true_eq]at h;omega
  ·decide
  decide
def VT(x:Tree):Prop:=Qd rnodeB x=true->∀d,Lib.validD (Tg false 0 x d)=true
theorem U1:∀(xs:List Tree)(d:Nat),(∀x∈xs,VT x)->(∀x∈xs,Qd rnodeB x=true)->∀p∈Lo false 0 xs d,Lib.validD p=true
  | [],_,_,_,p,hp=>by rw[Lo]at hp;cases hp
  | x :: xs, d, h, hr, p, hp => by
    rw[Lo]at hp;rcases oQ.1 hp with rfl|hp
    ·exact h x List.mem_cons_self (hr x List.mem_cons_self) d
    exact U1 xs d (λy hy=>h y (List.mem_cons_of_mem _ hy)) (λy hy=>hr y (List.mem_cons_of_mem _ hy)) p hp
theorem D1:∀(xs:List Tree)(ks:List Str)(d:Nat),(∀x∈xs,VT x)->(∀x∈xs,Qd rnodeB x=true)->∀p∈Oj false 0 xs ks d,Lib.validD p=true
  | [],_,_,_,_,p,hp=>by rw[Oj]at hp;cases hp
  | x :: xs, ks, d, h, hr, p, hp => by
    rw[Oj]at hp;rcases oQ.1 hp with rfl|hp
    ·exact Wh (SB _) (Wh Ta (Wh (by rfl) (h x List.mem_cons_self (hr x List.mem_cons_self) d)))
    exact D1 xs _ d (λy hy=>h y (List.mem_cons_of_mem _ hy)) (λy hy=>hr y (List.mem_cons_of_mem _ hy)) p hp
theorem VL(x:Tree):VT x:=Tree.ind (Q:=VT) (λk t ks xs ih hx d=>by
  obtain⟨hn,hxs⟩:=Tf hx;rcases LD hn with ⟨rfl,rfl,rfl,rfl⟩|⟨rfl,ht,rfl,rfl⟩|⟨rfl,ht,rfl,rfl⟩|⟨rfl,ht,rfl,rfl⟩|⟨rfl,rfl,rfl⟩|⟨rfl,rfl,-,hv,hl⟩
  ·rw[Tg];exact (by decide:Lib.validD [110,117,108,108]=true)
  ·rw[Tg];rcases ht with rfl|rfl
   ·exact (by decide:Lib.validD [116,114,117,101]=true)
   exact (by decide:Lib.validD [102,97,108,115,101]=true)
  ·rw[Tg];exact Zm λc hc=>XS (PD ht c hc)
  ·rw[Tg];exact SB t
  ·rw[Tg];exact Ty d 91 93 _ Ta Ta (U1 xs _ ih hxs)
  rw[Tg];exact Ty d 123 125 _ Ta Ta (D1 xs ks _ ih hxs)) x
theorem CG(x:Tree):Lib.validD (Dm x)=true:=by
  unfold Dm;split
  ·rename_i h;exact VL x (G9 h) 0
  rfl
theorem ZW{k:Int}(h:1<=k/\k<=6):(Qh (L4 k)).length<=2048:=by
  rcases (by omega:k=1\/k=2\/k=3\/k=4\/k=5\/k=6)with rfl|rfl|rfl|rfl|rfl|rfl <;>
    exact of_decide_eq_true Ib
theorem ES(c:Cf):Lib.validD (Mf c).1=true:=by
  unfold Mf;split
  ·exact CG _
  rfl
theorem U7(s:Sd):Mb (Te s)<=1+Mb s.val/\Id (Te s)<=Id s.val:=by
  unfold Te;split
  ·simp only[Mb,Vb,Id,Qj,Uj,List.length_nil];omega
  simp only[Mb,Vb,Id,Qj,Uj,List.length_nil];omega
theorem TQ{c:Cf}(h:Sm27 c):(Mf c).1.length<=1000000000:=by
  unfold Mf;split
  ·rename_i hr
   simp only;rw[Fz];unfold Dm;split
   ·have hk:1<=c.cls/\c.cls<=6:=by
      unfold Qq at hr;simp only[Bool.and_eq_true,decide_eq_true_eq]at hr;exact hr.2.2.2
    have h1:=ZW hk;obtain⟨b1,b2⟩:=U7 c.b;obtain⟨l1,l2⟩:=U7 c.l;obtain⟨r1,r2⟩:=U7 c.r;obtain⟨⟨hb1,hb2⟩,⟨hl1,hl2⟩,⟨hr1,hr2⟩⟩:=h;have hx:=Q2 (q:=λx=>Mb x<=201/\Id x<=2048) (x:=Te c.l) (y:=Te c.r) ⟨by omega,by omega⟩ ⟨by omega,by omega⟩;have hs:Mb (Ws c)<=700/\Id (Ws c)<=2048:=by
      unfold Ws PO;simp only[Mb,Vb,Id,Qj,Uj,List.length_nil];omega
    have hb:=K7 false 0 2048 (0+Gd (Ws c)) (Ws c) 0 hs.2 (gQ _);have:Mb (Ws c)*(12*2048+40+2*(0*(0+Gd (Ws c))))<=700*(12*2048+40):=by
      rw[Nat.zero_mul,Nat.mul_zero,Nat.add_zero];exact Nat.mul_le_mul_right _ hs.1
    omega
   simp
  simp
structure FewM (t:List Mm):Prop where
  n:t.length<=270
  m:∀m∈t,To m.sd.val 60=true/\m.pr.length<=2048
theorem keys27{x:Tree}{m:Int}(hm:0<=m)(h2:m<=200)(h:To x m=true):x.keys.length<=1000:=by
  obtain⟨k,t,ks,xs⟩:=x;have:=(ZK hm h).1;simp only[Tree.keys];simp only[Zq]at this;omega
theorem N2{s:Sd}{m:Int}(hm:0<=m)(h2:m<=200)(h:To s.val m=true):SdOk s/\s.val.keys.length<=1000000000:=by
  obtain⟨h1,h3⟩:=No hm h2 h;have:=keys27 hm h2 h;exact⟨⟨by omega,Yk _ Ba⟩,by omega⟩
theorem FewM.ok{t:List Mm}(h:FewM t):∀m∈t,MmOk m:=λm hm=>by
  obtain⟨h1,h2⟩:=h.m m hm;obtain⟨h3,h4⟩:=N2 Ba Ba h1;exact⟨h3,by omega,h4⟩
theorem CX{t:List Mm}{c:Cf}{s:Sd}{m:Mm}(h:m∈(Ld t c s).1):m∈t\/m=⟨(Mf c).1,Bg s⟩:=by
  unfold Ld at h;split at h
  ·simp only at h
   split at h
   ·rcases mQ.1 h with h|h
    ·exact .inl (List.mem_of_mem_take h)
    rcases oQ.1 h with h|h
    ·exact .inr h
    exact .inl (List.mem_of_mem_drop h)
   split at h
   ·cases h
   rcases mQ.1 h with h|h
   ·exact .inl (List.mem_of_mem_take h)
   rcases oQ.1 h with h|h
   ·exact .inr h
   exact .inl (List.mem_of_mem_drop h)
  cases h
theorem TW(t:List Mm)(c:Cf)(s:Sd):(Ld t c s).1.length<=t.length+1:=by
  unfold Ld;split
  ·simp only
   split
   ·simp only[dQ,kQ,List.length_take,List.length_drop];omega
   split
   ·simp
   simp only[dQ,kQ,List.length_take,List.length_drop];omega
  simp
theorem rec_no{t:List Mm}{c:Cf}{s:Sd}(h:(Ld t c s).2≠0):(Ld t c s).1=[]:=by
  unfold Ld at h ⊢;split
  ·rename_i h1
   rw[if_pos h1]at h;simp only at h ⊢;split
   ·rename_i h2
    rw[if_pos h2]at h;exact absurd O h
   rename_i h2
   rw[if_neg h2]at h;split
   ·rfl
   rename_i h3
   rw[if_neg h3]at h;exact absurd O h
  rfl
theorem VW{t:List Mm}{c:Cf}{m:Mm}(h:m∈(Kf t c).1):m∈t:=by
  unfold Kf at h;split at h
  ·split at h
   ·rcases mQ.1 h with h|h
    ·exact List.mem_of_mem_take h
    exact List.mem_of_mem_drop h
   exact h
  cases h
theorem JW(t:List Mm)(c:Cf):(Kf t c).1.length<=t.length:=by
  unfold Kf;split
  ·split
   ·simp only[dQ,List.length_take,List.length_drop];omega
   exact gQ _
  simp
theorem WX{t:List Mm}{c:Cf}{s:Sd}(ht:FewM t)(hc:Sm27 c)(hs:To s.val 100=true):∀m∈(Ld t c s).1,MmOk m:=λm hm=>by
  rcases CX hm with h|rfl
  ·exact ht.ok m h
  obtain⟨h1, h2⟩ := N2 Ba Ba hs;refine⟨?_,TQ hc,?_⟩
  ·unfold Bg
   split
   ·exact⟨h1.sz,h1.ok⟩
   exact noS_ok
  unfold Bg;split
  ·exact h2
  simp[noS,zeroT,Tree.keys]
theorem JO{s:Sd}{k:Int}(h:Pm s k=true):Rh (Bg s)=Bg s:=by
  have h1:=Pq h;unfold Bg Rh at h1 ⊢;cases hs:s.has with
  | false=>rfl
  | true =>
    rw[hs]at h1;simpa using h1
structure FindL (t u w:List Mm) (c:Cf) (s:Sd):Prop where
  pc:(Mf c).2=true
  ru:Df u=true
  rw_:Df w=true
  fu:Zf u c=(Bg s,true)
  cs:Rh (Bg s)=Bg s
  go:(Kf u c).2=true
  st:(Zf w c).2=false
  ot:∀d,(Mf d).2=true->(Mf d).1≠(Mf c).1->Zf u d=Zf t d/\Zf w d=Zf t d
theorem findL{t:List Mm}{c:Cf}{s:Sd}(h:(Ld t c s).2=0):FindL t (Ld t c s).1 (Kf (Ld t c s).1 c).1 c s:=by
  obtain⟨h1,h2,h3,h4,h5,h6⟩:=EN h λ_=>ES c;obtain⟨g1,g2,g3,g4⟩:=RN (c:=c) h4 h2;refine⟨h2,h4,g2,?_,JO h3,?_,?_,λd hd hne=>?_⟩
  ·rw[Up h4 h2,h5]
  ·rw[g1,h5];rfl
  ·rw[Up g2 h2,g3]
  rw[Up h4 hd, Up g2 hd, Up h1 hd, g4 _ hne, h6 _ hne];exact⟨O,O⟩
theorem IF{t:List Mm}{j:Nat}(hs:∀i (hi:i<t.length),i<j->To t[i].sd.val 60=true/\t[i].pr.length<=2048)(hj:∀hj:j<t.length,To t[j].sd.val 60=true/\t[j].pr.length<=2048):∀i (hi:i<t.length),i<j+1->To t[i].sd.val 60=true/\t[i].pr.length<=2048:=λi hi h2=>by
  by_cases e:i=j
  ·subst e;exact hj hi
  exact hs i hi Ba
theorem HX(t:List Mm)(A:Option Addr)(c:Nat)(S:Nat->Prop)(w0:World)(hX:Rep S w0 (Hf t) [.slice A t.length c]):Calls prog 10 #[.slice A t.length c] w0 (Pc λv w'=>∃b:Bool,v=.bool b/\(b=true->FewM t)/\Same [] w0 w'):=by
 have hXl:=hX.slice_len;simp only[rQ]at hXl;refine Ea func10 O ntmps10 Db (Rb _) ?_;have hF:=FR.start w0 [];refine Da (Aa (Jb O) (Ca (Fa (Da (Aa (Kb O) (Ca (Va ?_)))))));refine Sc (λμ σ w=>∃(j:Nat),μ=t.length-j/\(j<=t.length/\j<=300)/\(∀i (hi:i<t.length),i<j->To t[i].sd.val 60=true/\t[i].pr.length<=2048)/\AllEq σ [(0,.slice A t.length c),(3,J ((j:Int)))]/\FR w0 [] [] w) _ ⟨0,O,Ba,(λi _ h=>by omega),FA,hF⟩ ?_;rintro μ σ w ⟨j,rfl,hj,hs_,hs,hF⟩;refine Cg.slots hs ?_;clear hs;intro σ;refine Fa (Da (Aa (Gb O) (Aa (Xd O) (Aa (Ug bX O) (Aa (Vl O O) (Aa (Dc O) ?_))))));refine Wb (d:=9) O (λhg0=>?_) (λhg0=>?_);refine Aa (Gb O) (Aa (Vl O O) (Aa (Yb O O) (Ca ?_)));refine Pb O O (λhc0=>?_) (λhc0=>?_);refine Na (Ga (Fa (Va (Da (Aa (Xd O) (Aa (Gb O) ?_))))));obtain⟨ad1,q1,hA1,hk1,hx1,hp1⟩:=hX.mm_elem (i:=j) Ba;refine Ja (v:=.pointer (some (ad1.add (j*6)))) (Sa (i:=(j:Int)) Oi O hA1 O Ba Ba) (Ja (v:=.pointer (some ((ad1.add (j*6)).add 1))) (Dd (a:=ad1.add (j*6)) Vj O) (Ja (v:=.pointer (some (((ad1.add (j*6)).add 1).add 1))) (Dd (a:=(ad1.add (j*6)).add 1) Xe O) (Ja (v:=.agg (q1.v.cells).toArray) (Xa (l:=q1.v.cells) aZ mZ O O (Bj (Bj (l:=q1.cells) (hF.cells0 hk1) 1 O) 1 O)) ?_)));refine Oa hF (GC t[j].sd.val 60 Ta Ta _ _ q1.v.cells (hF.rep (Cd hx1).2.2.2.2)) (Ra XB O O O) ?_;intro w hF;refine Aa (Jb O) (Qb (Aa (Dc O) (Aa (Nh O) (Aa (Dc O) ?_))));refine Rc (d:=24) O (λhg2=>?_) (λhg2=>?_);refine Ia (Ia (Ia (Ia (Ia (Ia (Ia (Aa (Yb O O) (Ca (Fd O (Da (Aa (Jb O) ?_)))))))))));refine Ca (Hc (v:=.bool false) O O ?_);exact⟨_,O,λhb=>(by cases hb),hF.same⟩;refine Aa (Xd O) (Aa (Gb O) ?_);obtain⟨ad3,q3,hA3,hk3,hx3,hp3⟩:=hX.mm_elem (i:=j) Ba;refine Ja (v:=.pointer (some (ad3.add (j*6)))) (Sa (i:=(j:Int)) Oi O hA3 O Ba Ba) (Ja (v:=.pointer (some ((ad3.add (j*6)).add 0))) (Dd (a:=ad3.add (j*6)) Jm O) (Ja (v:=I (t[j].pr)) (Ed iZ O (hF.cell0 (hk3 0 Db))) (Aa (Qr iX O) (Aa (Pz O O) (Aa (Bc O O) (Ca ?_))))))
 refine Pb O O (λhc1=>?_) (λhc1=>?_);refine Da (Aa (Jb O) (Ca ?_));refine Hc (v:=.bool false) O O ?_;exact⟨_,O,λhb=>(by cases hb),hF.same⟩;refine Na (Cb (Ga (Ha (Aa (Gb O) (Aa (Bo (((j+1:Nat):Int)) O O) (Aa (Kb O) (Ua ?_)))))));refine Xb ⟨_,?_,j+1,rfl,Ba,(IF hs_ (λ_=>⟨by first|assumption|simp_all,by omega⟩)),FA,hF⟩;omega;refine Kc (Ec O ?_);refine Ga (Da (Aa (Xd O) (Aa (Ug bX O) (Aa (QV O O) (Aa (Jb O) (Ca ?_))))));refine Hc (v:=.bool _) O O ?_;exact⟨_,rfl,λhb=>by have:=of_decide_eq_true hb;exact⟨by omega,λm hm=>by obtain⟨i,hi,rfl⟩:=List.getElem_of_mem hm;exact hs_ i hi Ba⟩,hF.same⟩;refine Ia (Ia (Aa (Bc O O) (Ca (We O ?_))));refine Kc (Ec O ?_);refine Ga (Da (Aa (Xd O) (Aa (Ug bX O) (Aa (QV O O) (Aa (Jb O) (Ca ?_))))));refine Hc (v:=.bool _) O O ?_;exact⟨_,rfl,λhb=>by have:=of_decide_eq_true hb;exact⟨by omega,λm hm=>by obtain⟨i,hi,rfl⟩:=List.getElem_of_mem hm;exact hs_ i hi Ba⟩,hF.same⟩
end Go.Scarf
