/- A part of the proof. -/
import Derived.Test.YtgkmigdopohcnaaGreatDoorRe14
set_option linter.all false
set_option maxHeartbeats 8000000
set_option maxRecDepth 10000
namespace Go.Scarf
open Go.RowKit Go.Proofs Go.Proofs.Tryz
theorem Io{x:Tree}{m:Int}(hm:0<=m)(h2:m<=200)(h:Ro x m=true):Mb x<=200/\Id x<=2048:=by
  obtain⟨h1,-,h3⟩:=RI hm h;have:=CO x h3;exact⟨by omega,by omega⟩
structure Sm27 (c:Cf):Prop where
  b:Mb c.b.val<=200/\Id c.b.val<=2048
  l:Mb c.l.val<=200/\Id c.l.val<=2048
  r:Mb c.r.val<=200/\Id c.r.val<=2048
theorem sm27{c:Cf}(h:(Ro c.b.val 100&&(Ro c.l.val 100&&Ro c.r.val 100))=true):Sm27 c:=by
  rw[Bool.and_eq_true,Bool.and_eq_true]at h;exact⟨Io Ba Ba h.1,Io Ba Ba h.2.1,Io Ba Ba h.2.2⟩
theorem Sm27.p{c:Cf}(h:Sm27 c):CfP c:=by
  obtain⟨⟨b1,b2⟩,⟨l1,l2⟩,⟨r1,r2⟩⟩:=h;exact⟨⟨⟨by omega,Al _ Ba⟩,⟨by omega,Al _ Ba⟩,⟨by omega,Al _ Ba⟩⟩,by omega,by omega,by omega,by omega⟩
theorem Sm27.turn{c:Cf}(h:Sm27 c):Sm27 (RZ c):=⟨h.b,h.r,h.l⟩
theorem CvOf.turn{S:Nat->Prop}{w:World}{c:Cf}{q:Cv}(h:CvOf S w c q):CvOf S w (RZ c) ⟨none,0,0,q.k,q.x,q.z,q.y⟩ :=
  ⟨rfl,h.k,Rep.nil_slice 0 Ba none,h.x,h.z,h.y⟩
theorem Ig(l Z:Str)(n i:Nat)(hi:i<n)(hn:n<=l.length):(l.take n++Z).getD i 0=l.getD i 0:=by
  simp only[List.getD];rw[List.getElem?_append_left (by rw[List.length_take];omega),List.getElem?_take,if_pos hi]
theorem Gw(l Z:Str)(hne:l≠[])(hv:¬((Lib.decodeL l).1=65533/\(Lib.decodeL l).2=1)):Lib.decodeL (l.take (Lib.decodeL l).2++Z)=Lib.decodeL l:=by
  have hle:=Lib.decodeL_le l hne;rw[Lib.decodeL_N (l.take _++Z)];rw[Lib.decodeL_N l]at hv hle ⊢;rcases Lib.decodeN_shape l.length (l.getD 0 0).toNat (l.getD 1 0).toNat (l.getD 2 0).toNat (l.getD 3 0).toNat with ⟨c,e⟩|⟨c1,c2,c3,cv,e⟩|⟨c1,c2,c3,c4,cv,cs,e⟩|⟨c1,c2,c3,c4,c5,cv,cw,e⟩|e
  ·rw[e]at hle ⊢
   rw[Ig l Z 1 0 Ba (by simpa using hle)];unfold Lib.decodeN;rw[if_pos c]
  ·rw[e]at hle ⊢
   simp only at hle ⊢;rw[Ig l Z 2 0 Ba hle,Ig l Z 2 1 Ba hle];unfold Lib.decodeN;rw[if_neg Ba,if_pos ⟨c1,by rw[dQ,List.length_take];omega,c3⟩,if_pos cv]
  ·rw[e]at hle ⊢
   simp only at hle ⊢;rw[Ig l Z 3 0 Ba hle,Ig l Z 3 1 Ba hle,Ig l Z 3 2 Ba hle];unfold Lib.decodeN;rw[if_neg Ba,if_neg Ba,if_pos ⟨c1,⟨by rw[dQ,List.length_take];omega,c3⟩,by rw[dQ,List.length_take];omega,c4⟩,if_pos ⟨cv,by omega⟩]
  ·rw[e]at hle ⊢
   simp only at hle ⊢;rw[Ig l Z 4 0 Ba hle,Ig l Z 4 1 Ba hle,Ig l Z 4 2 Ba hle,Ig l Z 4 3 Ba hle];unfold Lib.decodeN;rw[if_neg Ba,if_neg Ba,if_neg Ba,if_pos ⟨c1,⟨by rw[dQ,List.length_take];omega,c3⟩,⟨by rw[dQ,List.length_take];omega,c4⟩,by rw[dQ,List.length_take];omega,c5⟩,if_pos ⟨cv,by omega⟩]
  rw[e]at hv;exact absurd ⟨O,O⟩ hv
theorem WX:∀r:Nat,r<32->Pe r=0->Do r=[92,117,48,48,dg (r/16),dg (r%16)]/\MA (dg (r/16))=true/\MA (dg (r%16))=true/\16*EZ (dg (r/16))+EZ (dg (r%16))=r:=by decide +kernel
theorem L7:∀(n:Nat)(a b:Str),a.length<=n->Lib.validD a=true->Lib.validD (a++b)=Lib.validD b
  | _,[],b,_,_=>rfl
  | 0,c::a,b,h,_=>by simp at h
  | n + 1, c :: a, b, h, hv => by
    have hne:c::a≠[]:=by simp
    have hbad:¬((Lib.decodeL (c::a)).1=65533/\(Lib.decodeL (c::a)).2=1):=by
      intro hb;rw[Lib.validD_step _ hne,if_pos hb]at hv;cases hv
    have hv2:Lib.validD ((c::a).drop (Lib.decodeL (c::a)).2)=true:=by rw[Lib.validD_step _ hne,if_neg hbad]at hv;exact hv
    have hle:=Lib.decodeL_le _ hne;have hw:=Lib.decodeL_width (c::a);have e:Lib.decodeL ((c::a)++b)=Lib.decodeL (c::a):=by
      have h1:=Gw (c::a) ((c::a).drop (Lib.decodeL (c::a)).2++b) hne hbad;rw[<-sQ,List.take_append_drop]at h1;exact h1
    rw[Lib.validD_step ((c::a)++b) La,e,if_neg hbad,List.drop_append_of_le_length hle];exact L7 n _ b (by rw[List.length_drop];simp only[kQ]at h ⊢;omega) hv2
theorem Vh{a b:Str}(ha:Lib.validD a=true)(hb:Lib.validD b=true):Lib.validD (a++b)=true:=by rw[L7 a.length a b (gQ _) ha];exact hb
theorem Ym:∀{a:Str},(∀c∈a,c.toNat<128)->Lib.validD a=true
  | [],_=>rfl
  | c :: a, h => by
    have hc:=h c List.mem_cons_self;rw[Lib.validD_step _ La,Lib.decodeL_ascii c a hc,if_neg (by simp only;omega)];exact Ym λd hd=>h d (List.mem_cons_of_mem _ hd)
theorem SS:∀k<32,(dg k).toNat<128:=by decide
theorem LF(l:Str)(hne:l≠[])(hv:¬((Lib.decodeL l).1=65533/\(Lib.decodeL l).2=1)):Lib.validD (Do (Lib.decodeL l).1)=true:=by
  have he:Uf ((Lib.decodeL l).1:Int)=l.take (Lib.decodeL l).2:=Lib.encode_decode l hne hv;have hf:=Gw l [] hne hv;have hle:=Lib.decodeL_le l hne;have hw:=Lib.decodeL_width l;rw[qQ]at hf
  revert he hf hle hw hv
  generalize Lib.decodeL l=p;obtain⟨r,n⟩:=p;intro hv he hf hle hw;simp only at hv he hf hle hw ⊢;by_cases h1:Pe r≠0
  ·rw[Do, if_pos h1]
   have:=Uo r;refine Ym λc hc=>?_;have hl:Pe r<128:=by unfold Pe;(repeat' split) <;> omega
   simp only[oQ,List.not_mem_nil,or_false]at hc;rcases hc with rfl|rfl
   ·decide
   simp only[UInt8.toNat_ofNat'];omega
  by_cases h2 : 32 <= r
  ·rw[Do, if_neg h1, if_pos h2, he]
   have hn:(l.take n).length=n:=by rw[List.length_take];omega
   rw[Lib.validD_step _ (by intro h0;rw[h0]at hn;simp at hn;omega),hf,if_neg hv];simp only;rw[List.drop_eq_nil_of_le Ba];rfl
  obtain⟨e, -, -, -⟩ := WX r Ba (by simpa using h1);rw[e];refine Ym λc hc=>?_;simp only[oQ,List.not_mem_nil,or_false]at hc;rcases hc with rfl|rfl|rfl|rfl|rfl|rfl
  ·decide
  ·decide
  ·decide
  ·decide
  ·exact SS _ Ba
  exact SS _ Ba
theorem X1:∀(k:Nat)(s:Str),s.length<=k->Lib.validD s=true->Lib.validD (St s)=true
  | _,[],_,_=>rfl
  | 0,c::s,h,_=>by simp at h
  | k + 1, c :: s0, hk, hv => by
    have hne:c::s0≠[]:=by simp
    revert hk hv hne
    generalize c::s0=s;intro hk hv hne;have hbad:¬((Lib.decodeL s).1=65533/\(Lib.decodeL s).2=1):=by
      intro hb;rw[Lib.validD_step s hne,if_pos hb]at hv;cases hv
    have hv2:Lib.validD (s.drop (Lib.decodeL s).2)=true:=by rw[Lib.validD_step s hne,if_neg hbad]at hv;exact hv
    have he:Uf ((Lib.decodeL s).1:Int)=s.take (Lib.decodeL s).2:=Lib.encode_decode s hne hbad;have hw:=Lib.decodeL_width s;have hsp:St s=Do (Lib.decodeL s).1++St (s.drop (Lib.decodeL s).2):=by
      rw[SC,he,<-E4,List.take_append_drop]
    rw[hsp];exact Vh (LF s hne hbad) (X1 k _ (by rw[List.length_drop];omega) hv2)
theorem LD{s:Str}(h:Lib.validD s=true):Lib.validD (Us s)=true:=by
  rw[IE h];exact Vh Ta (Vh (X1 s.length s (gQ _) h) Ta)
theorem LB(s:Str):Lib.validD (qS s)=true:=by
  unfold qS;split
  ·rename_i h;exact LD h
  rfl
theorem G0(d:Nat):∀(ps:List Str)(b:Bool),(∀p∈ps,Lib.validD p=true)->Lib.validD (Bl false 0 d b ps)=true
  | [],_,_=>rfl
  | p :: ps, b, h => by
    unfold Bl;refine Vh (by cases b <;> decide) ?_;refine Vh (by unfold Yk;rfl) (Vh (h p List.mem_cons_self) (G0 d ps false λq hq=>h q (List.mem_cons_of_mem _ hq)))
theorem Ly(d:Nat)(o c:UInt8)(ps:List Str)(ho:o.toNat<128)(hc:c.toNat<128)(h:∀p∈ps,Lib.validD p=true):Lib.validD (Ak false 0 d o c ps)=true:=by
  unfold Ak;refine Vh (Ym λx hx=>by rw[pQ.1 hx];exact ho) (Vh (G0 d ps true h) ?_);have e:(if ps=[] then [] else Yk false 0 d)=([]:Str):=by split <;> rfl
  rw[e];exact Ym λx hx=>by rw[List.nil_append,pQ]at hx;rw[hx];exact hc
theorem JP{c:UInt8}(h:RY c):c.toNat<128:=by
  rcases h with h|rfl|rfl
  ·unfold Hi at h
   simp only[Bool.and_eq_true,decide_eq_true_eq]at h;omega
  ·decide
  decide
def VT(x:Tree):Prop:=Td rnodeB x=true->∀d,Lib.validD (Tg false 0 x d)=true
theorem V1:∀(xs:List Tree)(d:Nat),(∀x∈xs,VT x)->(∀x∈xs,Td rnodeB x=true)->∀p∈Po false 0 xs d,Lib.validD p=true
  | [],_,_,_,p,hp=>by rw[Po]at hp;cases hp
  | x :: xs, d, h, hr, p, hp => by
    rw[Po]at hp;rcases oQ.1 hp with rfl|hp
    ·exact h x List.mem_cons_self (hr x List.mem_cons_self) d
    exact V1 xs d (λy hy=>h y (List.mem_cons_of_mem _ hy)) (λy hy=>hr y (List.mem_cons_of_mem _ hy)) p hp
theorem C4:∀(xs:List Tree)(ks:List Str)(d:Nat),(∀x∈xs,VT x)->(∀x∈xs,Td rnodeB x=true)->∀p∈Tj false 0 xs ks d,Lib.validD p=true
  | [],_,_,_,_,p,hp=>by rw[Tj]at hp;cases hp
  | x :: xs, ks, d, h, hr, p, hp => by
    rw[Tj]at hp;rcases oQ.1 hp with rfl|hp
    ·exact Vh (LB _) (Vh Ta (Vh (by rfl) (h x List.mem_cons_self (hr x List.mem_cons_self) d)))
    exact C4 xs _ d (λy hy=>h y (List.mem_cons_of_mem _ hy)) (λy hy=>hr y (List.mem_cons_of_mem _ hy)) p hp
theorem RO(x:Tree):VT x:=Tree.ind (Q:=VT) (λk t ks xs ih hx d=>by
  obtain⟨hn,hxs⟩:=Tf hx;rcases NE hn with ⟨rfl,rfl,rfl,rfl⟩|⟨rfl,ht,rfl,rfl⟩|⟨rfl,ht,rfl,rfl⟩|⟨rfl,ht,rfl,rfl⟩|⟨rfl,rfl,rfl⟩|⟨rfl,rfl,-,hv,hl⟩
  ·rw[Tg];exact (by decide:Lib.validD [110,117,108,108]=true)
  ·rw[Tg];rcases ht with rfl|rfl
   ·exact (by decide:Lib.validD [116,114,117,101]=true)
   exact (by decide:Lib.validD [102,97,108,115,101]=true)
  ·rw[Tg];exact Ym λc hc=>JP (MD ht c hc)
  ·rw[Tg];exact LB t
  ·rw[Tg];exact Ly d 91 93 _ Ta Ta (V1 xs _ ih hxs)
  rw[Tg];exact Ly d 123 125 _ Ta Ta (C4 xs ks _ ih hxs)) x
theorem JI(x:Tree):Lib.validD (Am x)=true:=by
  unfold Am;split
  ·rename_i h;exact RO x (P8 h) 0
  rfl
theorem ZV{k:Int}(h:1<=k/\k<=6):(Qh (M4 k)).length<=2048:=by
  rcases (by omega:k=1\/k=2\/k=3\/k=4\/k=5\/k=6)with rfl|rfl|rfl|rfl|rfl|rfl <;>
    exact of_decide_eq_true Ib
theorem TU(c:Cf):Lib.validD (Mf c).1=true:=by
  unfold Mf;split
  ·exact JI _
  rfl
theorem W9(s:Sd):Mb (Qe s)<=1+Mb s.val/\Id (Qe s)<=Id s.val:=by
  unfold Qe;split
  ·simp only[Mb,Vb,Id,Qj,Uj,List.length_nil];omega
  simp only[Mb,Vb,Id,Qj,Uj,List.length_nil];omega
theorem IR{c:Cf}(h:Sm27 c):(Mf c).1.length<=1000000000:=by
  unfold Mf;split
  ·rename_i hr
   simp only;rw[Ez];unfold Am;split
   ·have hk:1<=c.cls/\c.cls<=6:=by
      unfold Kq at hr;simp only[Bool.and_eq_true,decide_eq_true_eq]at hr;exact hr.2.2.2
    have h1:=ZV hk;obtain⟨b1,b2⟩:=W9 c.b;obtain⟨l1,l2⟩:=W9 c.l;obtain⟨r1,r2⟩:=W9 c.r;obtain⟨⟨hb1,hb2⟩,⟨hl1,hl2⟩,⟨hr1,hr2⟩⟩:=h;have hx:=N1 (q:=λx=>Mb x<=201/\Id x<=2048) (x:=Qe c.l) (y:=Qe c.r) ⟨by omega,by omega⟩ ⟨by omega,by omega⟩;have hs:Mb (Gs c)<=700/\Id (Gs c)<=2048:=by
      unfold Gs OL;simp only[Mb,Vb,Id,Qj,Uj,List.length_nil];omega
    have hb:=E7 false 0 2048 (0+Hd (Gs c)) (Gs c) 0 hs.2 (gQ _);have:Mb (Gs c)*(12*2048+40+2*(0*(0+Hd (Gs c))))<=700*(12*2048+40):=by
      rw[Nat.zero_mul,Nat.mul_zero,Nat.add_zero];exact Nat.mul_le_mul_right _ hs.1
    omega
   simp
  simp
structure FewM (t:List Mm):Prop where
  n:t.length<=270
  m:∀m∈t,Ro m.sd.val 60=true/\m.pr.length<=2048
theorem keys27{x:Tree}{m:Int}(hm:0<=m)(h2:m<=200)(h:Ro x m=true):x.keys.length<=1000:=by
  obtain⟨k,t,ks,xs⟩:=x;have:=(RI hm h).1;simp only[Tree.keys];simp only[Er]at this;omega
theorem H3{s:Sd}{m:Int}(hm:0<=m)(h2:m<=200)(h:Ro s.val m=true):SdOk s/\s.val.keys.length<=1000000000:=by
  obtain⟨h1,h3⟩:=Io hm h2 h;have:=keys27 hm h2 h;exact⟨⟨by omega,Al _ Ba⟩,by omega⟩
theorem FewM.ok{t:List Mm}(h:FewM t):∀m∈t,MmOk m:=λm hm=>by
  obtain⟨h1,h2⟩:=h.m m hm;obtain⟨h3,h4⟩:=H3 Ba Ba h1;exact⟨h3,by omega,h4⟩
theorem SY{t:List Mm}{c:Cf}{s:Sd}{m:Mm}(h:m∈(Jd t c s).1):m∈t\/m=⟨(Mf c).1,Bg s⟩:=by
  unfold Jd at h;split at h
  ·simp only at h
   split at h
   ·rcases mQ.1 h with h|h
    ·exact .inl (List.mem_of_mem_take h)
    rcases oQ.1 h with h|h
    ·exact .inr h
    exact .inl (List.mem_of_mem_drop h)
   split at h
   ·cases h
   rcases mQ.1 h with h|h
   ·exact .inl (List.mem_of_mem_take h)
   rcases oQ.1 h with h|h
   ·exact .inr h
   exact .inl (List.mem_of_mem_drop h)
  cases h
theorem CX(t:List Mm)(c:Cf)(s:Sd):(Jd t c s).1.length<=t.length+1:=by
  unfold Jd;split
  ·simp only
   split
   ·simp only[dQ,kQ,List.length_take,List.length_drop];omega
   split
   ·simp
   simp only[dQ,kQ,List.length_take,List.length_drop];omega
  simp
theorem rec_no{t:List Mm}{c:Cf}{s:Sd}(h:(Jd t c s).2≠0):(Jd t c s).1=[]:=by
  unfold Jd at h ⊢;split
  ·rename_i h1
   rw[if_pos h1]at h;simp only at h ⊢;split
   ·rename_i h2
    rw[if_pos h2]at h;exact absurd O h
   rename_i h2
   rw[if_neg h2]at h;split
   ·rfl
   rename_i h3
   rw[if_neg h3]at h;exact absurd O h
  rfl
theorem XW{t:List Mm}{c:Cf}{m:Mm}(h:m∈(Kf t c).1):m∈t:=by
  unfold Kf at h;split at h
  ·split at h
   ·rcases mQ.1 h with h|h
    ·exact List.mem_of_mem_take h
    exact List.mem_of_mem_drop h
   exact h
  cases h
theorem PY(t:List Mm)(c:Cf):(Kf t c).1.length<=t.length:=by
  unfold Kf;split
  ·split
   ·simp only[dQ,List.length_take,List.length_drop];omega
   exact gQ _
  simp
theorem VV{t:List Mm}{c:Cf}{s:Sd}(ht:FewM t)(hc:Sm27 c)(hs:Ro s.val 100=true):∀m∈(Jd t c s).1,MmOk m:=λm hm=>by
  rcases SY hm with h|rfl
  ·exact ht.ok m h
  obtain⟨h1, h2⟩ := H3 Ba Ba hs;refine⟨?_,IR hc,?_⟩
  ·unfold Bg
   split
   ·exact⟨h1.sz,h1.ok⟩
   exact noS_ok
  unfold Bg;split
  ·exact h2
  simp[noS,zeroT,Tree.keys]
theorem PN{s:Sd}{k:Int}(h:Im s k=true):Th (Bg s)=Bg s:=by
  have h1:=Rq h;unfold Bg Th at h1 ⊢;cases hs:s.has with
  | false=>rfl
  | true =>
    rw[hs]at h1;simpa using h1
structure FindL (t u w:List Mm) (c:Cf) (s:Sd):Prop where
  pc:(Mf c).2=true
  ru:Df u=true
  rw_:Df w=true
  fu:Zf u c=(Bg s,true)
  cs:Th (Bg s)=Bg s
  go:(Kf u c).2=true
  st:(Zf w c).2=false
  ot:∀d,(Mf d).2=true->(Mf d).1≠(Mf c).1->Zf u d=Zf t d/\Zf w d=Zf t d
theorem findL{t:List Mm}{c:Cf}{s:Sd}(h:(Jd t c s).2=0):FindL t (Jd t c s).1 (Kf (Jd t c s).1 c).1 c s:=by
  obtain⟨h1,h2,h3,h4,h5,h6⟩:=XL h λ_=>TU c;obtain⟨g1,g2,g3,g4⟩:=AM (c:=c) h4 h2;refine⟨h2,h4,g2,?_,PN h3,?_,?_,λd hd hne=>?_⟩
  ·rw[Tp h4 h2,h5]
  ·rw[g1,h5];rfl
  ·rw[Tp g2 h2,g3]
  rw[Tp h4 hd, Tp g2 hd, Tp h1 hd, g4 _ hne, h6 _ hne];exact⟨O,O⟩
theorem IH{t:List Mm}{j:Nat}(hs:∀i (hi:i<t.length),i<j->Ro t[i].sd.val 60=true/\t[i].pr.length<=2048)(hj:∀hj:j<t.length,Ro t[j].sd.val 60=true/\t[j].pr.length<=2048):∀i (hi:i<t.length),i<j+1->Ro t[i].sd.val 60=true/\t[i].pr.length<=2048:=λi hi h2=>by
  by_cases e:i=j
  ·subst e;exact hj hi
  exact hs i hi Ba
theorem IW(t:List Mm)(A:Option Addr)(c:Nat)(S:Nat->Prop)(w0:World)(hX:Rep S w0 (If t) [.slice A t.length c]):Calls prog 10 #[.slice A t.length c] w0 (Pc λv w'=>∃b:Bool,v=.bool b/\(b=true->FewM t)/\Same [] w0 w'):=by
 have hXl:=hX.slice_len;simp only[rQ]at hXl;refine Ea func10 O ntmps10 Db (Rb _) ?_;have hF:=FR.start w0 [];refine Da (Aa (Jb O) (Ca (Fa (Da (Aa (Lb O) (Ca (Va ?_)))))));refine Tc (λμ σ w=>∃(j:Nat),μ=t.length-j/\(j<=t.length/\j<=300)/\(∀i (hi:i<t.length),i<j->Ro t[i].sd.val 60=true/\t[i].pr.length<=2048)/\AllEq σ [(0,.slice A t.length c),(3,J ((j:Int)))]/\FR w0 [] [] w) _ ⟨0,O,Ba,(λi _ h=>by omega),UB,hF⟩ ?_;rintro μ σ w ⟨j,rfl,hj,hs_,hs,hF⟩;refine Cg.slots hs ?_;clear hs;intro σ;refine Fa (Da (Aa (Gb O) (Aa (Wd O) (Aa (Ug bX O) (Aa (Sl O O) (Aa (Dc O) ?_))))));refine Wb (d:=9) O (λhg0=>?_) (λhg0=>?_);refine Aa (Gb O) (Aa (Sl O O) (Aa (Yb O O) (Ca ?_)));refine Pb O O (λhc0=>?_) (λhc0=>?_);refine Na (Ga (Fa (Va (Da (Aa (Wd O) (Aa (Gb O) ?_))))));obtain⟨ad1,q1,hA1,hk1,hx1,hp1⟩:=hX.mm_elem (i:=j) Ba;refine Ja (v:=.pointer (some (ad1.add (j*6)))) (Sa (i:=(j:Int)) Qi O hA1 O Ba Ba) (Ja (v:=.pointer (some ((ad1.add (j*6)).add 1))) (Ed (a:=ad1.add (j*6)) Wj O) (Ja (v:=.pointer (some (((ad1.add (j*6)).add 1).add 1))) (Ed (a:=(ad1.add (j*6)).add 1) Xe O) (Ja (v:=.agg (q1.v.cells).toArray) (Xa (l:=q1.v.cells) aZ mZ O O (Cj (Cj (l:=q1.cells) (hF.cells0 hk1) 1 O) 1 O)) ?_)));refine Oa hF (Y_ t[j].sd.val 60 Ta Ta _ _ q1.v.cells (hF.rep (Dd hx1).2.2.2.2)) (Ra ZD O O O) ?_;intro w hF;refine Aa (Jb O) (Qb (Aa (Dc O) (Aa (Oh O) (Aa (Dc O) ?_))));refine Rc (d:=24) O (λhg2=>?_) (λhg2=>?_);refine Ia (Ia (Ia (Ia (Ia (Ia (Ia (Aa (Yb O O) (Ca (Fd O (Da (Aa (Jb O) ?_)))))))))));refine Ca (Hc (v:=.bool false) O O ?_);exact⟨_,O,λhb=>(by cases hb),hF.same⟩;refine Aa (Wd O) (Aa (Gb O) ?_);obtain⟨ad3,q3,hA3,hk3,hx3,hp3⟩:=hX.mm_elem (i:=j) Ba;refine Ja (v:=.pointer (some (ad3.add (j*6)))) (Sa (i:=(j:Int)) Qi O hA3 O Ba Ba) (Ja (v:=.pointer (some ((ad3.add (j*6)).add 0))) (Ed (a:=ad3.add (j*6)) Nm O) (Ja (v:=I (t[j].pr)) (Ad iZ O (hF.cell0 (hk3 0 Db))) (Aa (Qr iX O) (Aa (Gz O O) (Aa (Bc O O) (Ca ?_))))))
 refine Pb O O (λhc1=>?_) (λhc1=>?_);refine Da (Aa (Jb O) (Ca ?_));refine Hc (v:=.bool false) O O ?_;exact⟨_,O,λhb=>(by cases hb),hF.same⟩;refine Na (Cb (Ga (Ha (Aa (Gb O) (Aa (Bo (((j+1:Nat):Int)) O O) (Aa (Lb O) (Ua ?_)))))));refine Xb ⟨_,?_,j+1,rfl,Ba,(IH hs_ (λ_=>⟨by first|assumption|simp_all,by omega⟩)),UB,hF⟩;omega;refine Kc (Ec O ?_);refine Ga (Da (Aa (Wd O) (Aa (Ug bX O) (Aa (OV O O) (Aa (Jb O) (Ca ?_))))));refine Hc (v:=.bool _) O O ?_;exact⟨_,rfl,λhb=>by have:=of_decide_eq_true hb;exact⟨by omega,λm hm=>by obtain⟨i,hi,rfl⟩:=List.getElem_of_mem hm;exact hs_ i hi Ba⟩,hF.same⟩;refine Ia (Ia (Aa (Bc O O) (Ca (We O ?_))));refine Kc (Ec O ?_);refine Ga (Da (Aa (Wd O) (Aa (Ug bX O) (Aa (OV O O) (Aa (Jb O) (Ca ?_))))));refine Hc (v:=.bool _) O O ?_;exact⟨_,rfl,λhb=>by have:=of_decide_eq_true hb;exact⟨by omega,λm hm=>by obtain⟨i,hi,rfl⟩:=List.getElem_of_mem hm;exact hs_ i hi Ba⟩,hF.same⟩
end Go.Scarf
