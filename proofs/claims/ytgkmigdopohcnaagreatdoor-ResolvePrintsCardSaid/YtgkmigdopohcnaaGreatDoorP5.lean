/- A part of the proof. -/
import Derived.Test.YtgkmigdopohcnaaGreatDoorP3
import Derived.Lib.ItoaMem
import Derived.Sort.Walk0
set_option linter.all false
set_option maxHeartbeats 8000000
set_option maxRecDepth 10000
namespace Go.Scarf
def Bal(a b:Str):Prop:=∀r,Gp false (a++r)=b++Gp false r
def Inq(a:Str):Prop:=∀r,Gp true (a++r)=a++Gp true r
theorem W9{q:Bool}{c:UInt8}{r:Str}(h:¬(q=true/\c=92)):Gp q (c::r)=BE q c (Gp (nq q c) r):=by
  cases r with
  | nil=>rw[Gp,Gp]
  | cons d r=>rw[Gp,if_neg h]
theorem Bal.nil:Bal [] []:=λ_=>rfl
theorem Bal.app{a b a' b':Str}(h:Bal a a')(k:Bal b b'):Bal (a++b) (a'++b'):=λr=>by rw[sQ,h,k,sQ]
theorem Inq.nil:Inq []:=λ_=>rfl
theorem Inq.app{a b:Str}(h:Inq a)(k:Inq b):Inq (a++b):=λr=>by rw[sQ,h,k,sQ]
theorem Bal.byte{c:UInt8}(h1:c≠34)(h2:c≠32)(h3:c≠10):Bal [c] [c]:=λr=>by
  show Gp false (c::r)=c::Gp false r;rw[W9 Ma,BE,nq,if_neg h1,if_pos (.inr ⟨h2,h3⟩)]
theorem Bal.bytes:∀{a:Str},(∀c∈a,c≠34/\c≠32/\c≠10)->Bal a a
  | [],_=>Bal.nil
  | c :: a, h => by
    have h1:=h c Ma;exact (Bal.byte h1.1 h1.2.1 h1.2.2).app (Bal.bytes λd hd=>h d (by simp[hd]))
theorem Inq.byte{c:UInt8}(h1:c≠34)(h2:c≠92):Inq [c]:=λr=>by
  show Gp true (c::r)=c::Gp true r;rw[W9 (λh=>h2 h.2),BE,nq,if_neg h1,if_pos (.inl rfl)]
theorem Inq.bytes:∀{a:Str},(∀c∈a,c≠34/\c≠92)->Inq a
  | [],_=>Inq.nil
  | c :: a, h => by
    have h1:=h c Ma;exact (Inq.byte h1.1 h1.2).app (Inq.bytes λd hd=>h d (by simp[hd]))
theorem YD{r:Int}(h:128<=r):∀x∈Lib.encodeRuneZ r,128<=x:=by
  intro x hx;by_cases h1:r<=2047
  ·rw[Lib.encodeRuneZ_two h h1]at hx;simp at hx;omega
  by_cases h2:(2048<=r/\r<55296)\/(57343<r/\r<=65535)
  ·rw[Lib.encodeRuneZ_three h2]at hx;simp at hx;omega
  by_cases h3:65536<=r/\r<=1114111
  ·rw[Lib.encodeRuneZ_four h3.1 h3.2]at hx;simp at hx;omega
  rw[Lib.encodeRuneZ_bad Aa]at hx;simp at hx;omega
theorem KN:∀u:Nat,∀c∈Lib.decDigits u,Ge c=true:=λu=>by
  induction u using Nat.strongRecOn with
  | ind u ih =>
    intro c hc;rw[Lib.decDigits]at hc;split at hc
    ·rw[pQ.1 hc, Ge]
     simp only[UInt8.toNat_ofNat',Bool.and_eq_true,decide_eq_true_eq];omega
    rcases mQ.1 hc with hc|hc
    ·exact ih (u/10) Aa c hc
    rw[pQ.1 hc, Ge];simp only[UInt8.toNat_ofNat',Bool.and_eq_true,decide_eq_true_eq];omega
def PJ(c:UInt8):Prop:=Ge c=true\/c=45\/c=101
theorem VV(x:Num):∀c∈Tf x,PJ c:=by
  intro c hc;unfold Tf at hc;split at hc
  ·cases hc
  split at hc
  ·rw[pQ.1 hc];exact .inl Ab
  rename_i h1 h2
  have hd:∀c∈x.digits,Ge c=true:=by
    have h3:Rc x=true:=by simpa using h1
    unfold Rc at h3;simp only[Bool.or_eq_true,Bool.and_eq_true,decide_eq_true_eq]at h3;rcases h3 with h3|h3
    ·subst h3;exact absurd rfl h2
    have h4 : Sh x.digits = true := by simp_all
    unfold Sh at h4;rw[Bool.and_eq_true,List.all_eq_true]at h4;exact h4.1
  have hi:∀c∈Lib.itoa x.exp,PJ c:=by
    intro c hc;unfold Lib.itoa at hc;split at hc
    ·rcases oQ.1 hc with rfl|hc
     ·exact .inr (.inl O)
     exact .inl (KN _ c hc)
    exact .inl (KN _ c hc)
  rcases mQ.1 hc with hc|hc
  ·split at hc
   ·rcases oQ.1 hc with rfl|hc
    ·exact .inr (.inl O)
    exact .inl (hd c hc)
   exact .inl (hd c hc)
  split at hc
  ·rcases oQ.1 hc with rfl|hc
   ·exact .inr (.inr O)
   exact hi c hc
  cases hc
theorem Tt{t:Str}(h:Xf t=true):∀c∈t,PJ c:=by
  unfold Xf at h;rw[Bool.and_eq_true,decide_eq_true_eq,decide_eq_true_eq]at h;rw[<-h.2];exact VV _
def X3(b:UInt8):Str:=if b.toNat<128 then Yu b.toNat else [b]
def Up:Str->Str
  | []=>[]
  | b::s=>X3 b++Up s
theorem QE:∀a b:Str,Up (a++b)=Up a++Up b
  | [],b=>rfl
  | x::a,b=>by rw[List.cons_append,Up,Up,QE a b,sQ]
theorem rune_one(r:Int):Lib.encodeRune r=Kh r:=rfl
theorem Q_:∀{s:Str},(∀c∈s,128<=c.toNat)->Up s=s
  | [],_=>rfl
  | c :: s, h => by
    have h1:=h c Ma;rw[Up,X3,if_neg Aa,Q_ λd hd=>h d (by simp[hd])];rfl
theorem HY{r:Nat}(h:128<=r):Yu r=Kh r:=by
  have h0:¬Bg (r:Int)≠0:=by
    unfold Bg
    repeat' split
    all_goals first|omega|simp
  rw[Yu,if_neg h0,if_pos Aa]
theorem SK{r:Nat}(h:128<=r):∀c∈Kh r,128<=c.toNat:=by
  intro c hc;obtain⟨x,hx,rfl⟩:=nQ.1 hc;have hb:=Lib.encodeRuneZ_byte _ x hx;have:=YD (by omega:(128:Int)<=r) x hx;simp only[UInt8.toNat_ofNat'];omega
theorem AU(r:Nat):Yu r=Up (Kh r):=by
  by_cases h:r<128
  ·have e:Kh (r:Int)=[UInt8.ofNat r]:=by
     rw[Kh,Lib.encodeRuneZ_one Aa Aa];simp
   have e2:(UInt8.ofNat r).toNat=r:=by simp only[UInt8.toNat_ofNat'];omega
   rw[e,Up,Up,X3,e2,if_pos h,qQ]
  rw[HY Aa,Q_ (SK Aa)]
theorem RG(s:Str)(p:Nat):Lib.validD (s.drop p)=true->Hu s p=Up (s.drop p):=by
  induction h:s.length-p using Nat.strongRecOn generalizing p with
  | ind n ih =>
    intro hv;by_cases hp:p<s.length
    ·have hne : s.drop p ≠ [] := by intro e;have := congrArg List.length e;simp at this;omega
     rw[Lib.validD_step _ hne]at hv;split at hv
     ·cases hv
     rename_i hok
     have he:=Lib.encode_decode (s.drop p) hne hok;rw[Wj]at he hv;have h2:=Wf s p;rw[List.drop_drop]at hv;rw[Dp hp,ih (s.length-(p+(Utf8.decode (bs s) p).2)) Aa _ rfl hv,AU,<-rune_one,he,<-List.drop_drop,<-QE,List.take_append_drop]
    rw[U1 hp,List.drop_eq_nil_of_le Aa];rfl
theorem Xt{s:Str}(h:Lib.validD s=true):Dy s=[34]++(Up s++[34]):=by
  rw[Dy,RG s 0 (by simpa using h),List.drop_zero,sQ]
def WC:Str->Bool
  | [c]=>decide (c≠92)&&decide (c≠34)
  | [a,c]=>decide (a=92)&&decide (c≠117)
  | [a,c,_,_,_,_]=>decide (a=92)&&decide (c=117)
  | _=>false
def unB:Str->UInt8
  | [c]=>c
  | [_,c]=>if c=98 then 8 else if c=102 then 12 else if c=110 then 10 else if c=114 then 13 else if c=116 then 9 else c
  | [_,_,_,_,h,l]=>(h-48)*16+(if l.toNat<58 then l-48 else l-87)
  | _=>0
theorem JG:∀n<256,WC (X3 (UInt8.ofNat n))=true:=by decide +kernel
theorem escB_un':∀n<256,unB (X3 (UInt8.ofNat n))=UInt8.ofNat n:=by decide +kernel
theorem Gx(b:UInt8):WC (X3 b)=true:=by have:=JG b.toNat (UInt8.toNat_lt b);simpa using this
theorem IP(b:UInt8):unB (X3 b)=b:=by have:=escB_un' b.toNat (UInt8.toNat_lt b);simpa using this
theorem Wt{p:Str}(h:WC p=true):(∃c,p=[c]/\c≠92/\c≠34)\/(∃c,p=[92,c]/\c≠117)\/(∃a b c d,p=[92,117,a,b,c,d]):=by
  unfold WC at h;split at h <;> simp_all
theorem QY{b b':UInt8}{X X':Str}(h:X3 b++X=X3 b'++X'):b=b'/\X=X':=by
  have key:X3 b=X3 b'/\X=X':=by
    rcases Wt (Gx b)with ⟨c,e,h1,h2⟩|⟨c,e,h1⟩|⟨x1,x2,x3,x4,e⟩ <;>
    rcases Wt (Gx b')with ⟨c',e',h1',h2'⟩|⟨c',e',h1'⟩|⟨y1,y2,y3,y4,e'⟩ <;>
    rw[e,e']at h <;> simp at h <;> (first|(rw[e,e'];simp_all;done)|(exfalso;simp_all;done))
  exact⟨by rw[<-IP b,<-IP b',key.1],key.2⟩
theorem O5(b:UInt8):∃c s,X3 b=c::s/\c≠34:=by
  rcases Wt (Gx b)with ⟨c,e,h1,h2⟩|⟨c,e,h1⟩|⟨x1,x2,x3,x4,e⟩
  ·exact⟨c,[],e,h2⟩
  ·exact⟨92,[c],e,by decide⟩
  exact⟨92,_,e,by decide⟩
theorem Z9:∀(s s':Str)(X X':Str),Up s++34::X=Up s'++34::X'->s=s'/\X=X'
  | [],[],X,X',h=>⟨rfl,by simpa[Up]using h⟩
  | [], b :: s, X, X', h => by
    obtain⟨c,r,e,hc⟩:=O5 b;rw[Up,Up,e]at h;simp at h;exact absurd h.1.symm hc
  | b :: s, [], X, X', h => by
    obtain⟨c,r,e,hc⟩:=O5 b;rw[Up,Up,e]at h;simp at h;exact absurd h.1 hc
  | b :: s, b' :: s', X, X', h => by
    rw[Up,Up,sQ,sQ]at h;obtain⟨rfl,h2⟩:=QY h;obtain⟨rfl,h3⟩:=Z9 s s' X X' h2;exact⟨O,h3⟩
theorem ZO{s s' X X':Str}(h1:Lib.validD s=true)(h2:Lib.validD s'=true)(h:qS s++X=qS s'++X'):s=s'/\X=X':=by
  rw[qS,qS,if_pos h1,if_pos h2,Xt h1,Xt h2]at h;simp at h;exact Z9 s s' X X' h
theorem Z6{s:Str}(h:Lib.validD s=true):∃r,qS s=34::r:=by
  rw[qS,if_pos h,Xt h];exact⟨_,O⟩
def Ends(r:Str):Prop:=∀c s,r=c::s->c=44\/c=93\/c=125
theorem Ends.nil:Ends []:=λc s h=>by cases h
theorem H2{c:UInt8}(h:PJ c):¬(c=44\/c=93\/c=125):=by
  rintro (rfl|rfl|rfl) <;> (rcases h with h|h|h <;> revert h <;> decide)
theorem EF:∀(t t' r r':Str),(∀c∈t,PJ c)->(∀c∈t',PJ c)->Ends r->Ends r'->t++r=t'++r'->t=t'/\r=r'
  | [],[],r,r',_,_,_,_,h=>⟨rfl,by simpa using h⟩
  | [],c::t,r,r',_,h2,h3,_,h=>absurd (h3 c (t++r') (by simpa using h)) (H2 (h2 c Ma))
  | c::t,[],r,r',h1,_,_,h4,h=>absurd (h4 c (t++r) (by simpa using h.symm)) (H2 (h1 c Ma))
  | c :: t, c' :: t', r, r', h1, h2, h3, h4, h => by
    simp only[List.cons_append,List.cons.injEq]at h;obtain⟨rfl,h5⟩:=EF t t' r r' (λd hd=>h1 d (by simp[hd])) (λd hd=>h2 d (by simp[hd])) h3 h4 h.2;exact⟨by rw[h.1],h5⟩
def EK(c:UInt8):Int:=if c=110 then 1 else if c=116\/c=102 then 2 else if c=34 then 4 else if c=91 then 5 else if c=123 then 6 else 3
theorem kind_num{c:UInt8}(h:PJ c):EK c=3:=by
  have:∀n<256,(Ge (UInt8.ofNat n)=true\/UInt8.ofNat n=45\/UInt8.ofNat n=101)->EK (UInt8.ofNat n)=3:=by decide +kernel
  have h2:=this c.toNat (UInt8.toNat_lt c);simp only[UInt8.ofNat_toNat]at h2;exact h2 h
theorem Xu{k:Int}{t:Str}{ks:List Str}{xs:List Tree}(h:rnodeB (.node k t ks xs)=true) :
    (k=1/\t=[]/\ks=[]/\xs=[])\/(k=2/\(t=[116,114,117,101]\/t=[102,97,108,115,101])/\ks=[]/\xs=[])\/(k=3/\Xf t=true/\ks=[]/\xs=[]) \/
    (k=4/\Lib.validD t=true/\ks=[]/\xs=[])\/(k=5/\t=[]/\ks=[])\/(k=6/\t=[]/\ks.Nodup/\(∀x∈ks,Lib.validD x=true)/\ks.length=xs.length):=by
  unfold rnodeB at h;rw[Bool.and_eq_true,decide_eq_true_eq]at h;obtain⟨h7,h⟩:=h;have h7':k≠7:=h7;simp only[nodeB]at h;by_cases h5:k=5
  ·rw[if_pos h5]at h
   simp at h;exact .inr (.inr (.inr (.inr (.inl ⟨h5,h.2,h.1⟩))))
  rw[if_neg h5]at h;by_cases h6:k=6
  ·rw[if_pos h6]at h
   simp[Sl]at h;exact .inr (.inr (.inr (.inr (.inr ⟨h6,h.2,h.1.1.1,h.1.1.2,by omega⟩))))
  rw[if_neg h6]at h;by_cases hh:ks≠[]\/xs≠[]
  ·rw[if_pos hh]at h;cases h
  rw[if_neg hh]at h;have hk:ks=[]:=Classical.byContradiction λhc=>hh (.inl hc);have hx:xs=[]:=Classical.byContradiction λhc=>hh (.inr hc);by_cases h1:k=1
  ·rw[if_pos h1]at h
   simp at h;exact .inl ⟨h1,h,hk,hx⟩
  rw[if_neg h1]at h;by_cases h2:k=2
  ·rw[if_pos h2]at h
   simp at h;exact .inr (.inl ⟨h2,h,hk,hx⟩)
  rw[if_neg h2]at h;by_cases h3:k=3
  ·rw[if_pos h3]at h
   exact .inr (.inr (.inl ⟨h3,h,hk,hx⟩))
  rw[if_neg h3]at h;by_cases h4:k=4
  ·rw[if_pos h4]at h
   exact .inr (.inr (.inr (.inl ⟨h4,h,hk,hx⟩)))
  rw[if_neg h4,if_neg h7']at h;cases h
theorem Az{x:Tree}(h:Xc rnodeB x=true)(d:Nat):∃c s,Mg false 0 x d=c::s/\EK c=x.kind/\c≠44/\c≠93/\c≠125:=by
  obtain⟨k,t,ks,xs⟩:=x;obtain⟨hn,-⟩:=Ee h;rcases Xu hn with ⟨rfl,rfl,rfl,rfl⟩|⟨rfl,ht,rfl,rfl⟩|⟨rfl,ht,rfl,rfl⟩|⟨rfl,ht,rfl,rfl⟩|⟨rfl,rfl,rfl⟩|⟨rfl,rfl,-,-,-⟩
  ·exact⟨110,[117,108,108],by rw[Mg];rfl,by decide,by decide⟩
  ·rcases ht with rfl|rfl
   ·exact⟨116,[114,117,101],by rw[Mg];rfl,by decide,by decide⟩
   exact⟨102,[97,108,115,101],by rw[Mg];rfl,by decide,by decide⟩
  ·have hc := Tt ht
   obtain⟨c,s,rfl⟩:=List.exists_cons_of_ne_nil (C5 ht);have h1:=hc c Ma;have h2:=H2 h1;exact⟨c,s,by rw[Mg];rfl,kind_num h1,λe=>h2 (.inl e),λe=>h2 (.inr (.inl e)),λe=>h2 (.inr (.inr e))⟩
  ·obtain⟨r, e⟩ := Z6 ht
   exact⟨34,r,by rw[Mg];exact e,O,by decide⟩
  ·exact⟨91,_,by rw[Mg];rfl,O,by decide⟩
  exact⟨123,_,by rw[Mg];rfl,O,by decide⟩
def RA(x:Tree):Prop:=Xc rnodeB x=true->∀y,Xc rnodeB y=true->∀d e r r',Ends r->Ends r'->Mg false 0 x d++r=Mg false 0 y e++r'->x=y/\r=r'
theorem Jw(d:Nat)(b:Bool)(ps:List Str)(c:UInt8)(hc:c=93\/c=125)(r:Str)(hb:b=false):Ends (Ig false 0 d b ps++c::r):=by
  subst hb;intro x s h;cases ps with
  | nil=>rw[Ig]at h;simp at h;rw[<-h.1];exact .inr hc
  | cons p ps=>rw[Ig]at h;simp at h;exact .inl h.1.symm
theorem Z_:∀(xs ys:List Tree),(∀x∈xs,RA x)->(∀x∈xs,Xc rnodeB x=true)->(∀y∈ys,Xc rnodeB y=true)->∀(b:Bool)(d e d' e':Nat)(r r':Str),
    Ig false 0 d b (Il false 0 xs d')++93::r=Ig false 0 e b (Il false 0 ys e')++93::r'->xs=ys/\r=r'
  | [], [], _, _, _, b, d, e, d', e', r, r', h => by
    rw[Il,Il,Ig,Ig]at h;exact⟨O,by simpa using h⟩
  | [], y :: ys, _, _, hy, b, d, e, d', e', r, r', h => by
    exfalso;obtain⟨c,s,e1,-,-,h93,-⟩:=Az (hy y Ma) e';rw[Il,Il,Ig,Ig,e1]at h;cases b
    ·simp at h
    simp[Vj]at h;exact h93 h.1.symm
  | x :: xs, [], _, hx, _, b, d, e, d', e', r, r', h => by
    exfalso;obtain⟨c,s,e1,-,-,h93,-⟩:=Az (hx x Ma) d';rw[Il,Il,Ig,Ig,e1]at h;cases b
    ·simp at h
    simp[Vj]at h;exact h93 h.1
  | x :: xs, y :: ys, hr, hx, hy, b, d, e, d', e', r, r', h => by
    rw[Il,Il,Ig,Ig]at h;simp only[Vj,sQ]at h;have h2:=List.append_cancel_left h;simp only[if_neg (show ¬false=true by decide),List.nil_append]at h2;obtain⟨rfl,h3⟩:=hr x Ma (hx x Ma) y (hy y Ma) d' e' _ _ (Jw d false _ 93 (.inl rfl) r rfl) (Jw e false _ 93 (.inl rfl) r' rfl) h2;obtain⟨rfl,h4⟩:=Z_ xs ys (λz hz=>hr z (by simp[hz])) (λz hz=>hx z (by simp[hz])) (λz hz=>hy z (by simp[hz])) false d e d' e' r r' h3;exact⟨O,h4⟩
theorem H_:∀(xs ys:List Tree)(ks ls:List Str),ks.length=xs.length->ls.length=ys.length->(∀x∈xs,RA x)->(∀x∈xs,Xc rnodeB x=true)->(∀y∈ys,Xc rnodeB y=true) ->
    (∀k∈ks,Lib.validD k=true)->(∀k∈ls,Lib.validD k=true)->∀(b:Bool)(d e d' e':Nat)(r r':Str),
    Ig false 0 d b (Jj false 0 xs ks d')++125::r=Ig false 0 e b (Jj false 0 ys ls e')++125::r'->xs=ys/\ks=ls/\r=r'
  | [], [], ks, ls, h1, h2, _, _, _, _, _, b, d, e, d', e', r, r', h => by
    rw[Jj,Jj,Ig,Ig]at h;rw[List.eq_nil_of_length_eq_zero h1,List.eq_nil_of_length_eq_zero h2];exact⟨O,O,by simpa using h⟩
  | [], y :: ys, ks, l :: ls, _, _, _, _, _, _, hl, b, d, e, d', e', r, r', h => by
    exfalso;obtain⟨s,e1⟩:=Z6 (hl l Ma);rw[Jj,Jj,Ig,Ig,List.headD_cons,e1]at h;cases b
    ·simp at h
    simp[Vj]at h
  | x :: xs, [], k :: ks, ls, _, _, _, _, _, hk, _, b, d, e, d', e', r, r', h => by
    exfalso;obtain⟨s,e1⟩:=Z6 (hk k Ma);rw[Jj,Jj,Ig,Ig,List.headD_cons,e1]at h;cases b
    ·simp at h
    simp[Vj]at h
  | x :: xs, y :: ys, k :: ks, l :: ls, h1, h2, hr, hx, hy, hk, hl, b, d, e, d', e', r, r', h => by
    rw[Jj,Jj,Ig,Ig,List.headD_cons,List.headD_cons]at h;simp only[Vj,sQ]at h;have h3:=List.append_cancel_left h;simp only[if_neg (show ¬false=true by decide),List.nil_append]at h3;obtain⟨rfl,h4⟩:=ZO (hk k Ma) (hl l Ma) h3;have h5:=List.append_cancel_left h4;obtain⟨rfl,h6⟩:=hr x Ma (hx x Ma) y (hy y Ma) d' e' _ _ (Jw d false _ 125 (.inr rfl) r rfl) (Jw e false _ 125 (.inr rfl) r' rfl) h5;simp only[List.tail_cons]at h6;obtain⟨rfl,rfl,h7⟩:=H_ xs ys ks ls (by simpa using h1) (by simpa using h2) (λz hz=>hr z (by simp[hz])) (λz hz=>hx z (by simp[hz])) (λz hz=>hy z (by simp[hz])) (λz hz=>hk z (by simp[hz])) (λz hz=>hl z (by simp[hz])) false d e d' e' r r' h6;exact⟨O,O,h7⟩
  | [],_::_,_,[],_,h2,_,_,_,_,_,_,_,_,_,_,_,_,_=>by simp at h2
  | _::_,_,[],_,h1,_,_,_,_,_,_,_,_,_,_,_,_,_,_=>by simp at h1
  | _::_,_::_,_::_,[],_,h2,_,_,_,_,_,_,_,_,_,_,_,_,_=>by simp at h2
theorem val_read(x:Tree):RA x:=Tree.ind (Q:=RA) (λk t ks xs ih hx y hy d e r r' hr hr' h=>by
  obtain⟨k',t',ks',ys⟩:=y;obtain⟨hn,hxs⟩:=Ee hx;obtain⟨hn',hys⟩:=Ee hy;obtain⟨c,s,e1,hc,-⟩:=Az hx d;obtain⟨c',s',e1',hc',-⟩:=Az hy e;have hk:k=k':=by
    have h2:=h;rw[e1,e1']at h2;simp at h2;rw[h2.1]at hc;exact hc.symm.trans hc'
  subst hk;clear e1 e1' hc hc';rcases Xu hn with ⟨rfl,rfl,rfl,rfl⟩|⟨rfl,ht,rfl,rfl⟩|⟨rfl,ht,rfl,rfl⟩|⟨rfl,ht,rfl,rfl⟩|⟨rfl,rfl,rfl⟩|⟨rfl,rfl,-,hv,hl⟩ <;>
  rcases Xu hn' with ⟨h0,rfl,rfl,rfl⟩|⟨h0,ht',rfl,rfl⟩|⟨h0,ht',rfl,rfl⟩|⟨h0,ht',rfl,rfl⟩|⟨h0,rfl,rfl⟩|⟨h0,rfl,-,hv',hl'⟩ <;>
  first|(exfalso;revert h0;decide)|skip
  ·rw[Mg, Mg]at h
   exact⟨O,List.append_cancel_left h⟩
  ·rw[Mg, Mg]at h
   rcases ht with rfl|rfl <;> rcases ht' with rfl|rfl <;> simp at h <;> exact⟨rfl,h⟩
  ·rw[Mg, Mg]at h
   obtain⟨rfl,h2⟩:=EF t t' r r' (Tt ht) (Tt ht') hr hr' h;exact⟨O,h2⟩
  ·rw[Mg, Mg]at h
   obtain⟨rfl,h2⟩:=ZO ht ht' h;exact⟨O,h2⟩
  ·rw[Mg, Mg]at h
   simp[Ym,Vj]at h;obtain⟨rfl,h2⟩:=Z_ xs ys ih hxs hys true d e _ _ r r' h;exact⟨O,h2⟩
  rw[Mg, Mg]at h;simp[Ym,Vj]at h;obtain⟨rfl,rfl,h2⟩:=H_ xs ys ks ks' hl hl' ih hxs hys hv hv' true d e _ _ r r' h;exact⟨O,h2⟩) x
theorem Mz{x:Tree}(h:Yd x=true):Xc rnodeB x=true:=by
  unfold Yd at h;rw[Bool.and_eq_true]at h;exact h.2
theorem BT{x y:Tree}(hx:Yd x=true)(hy:Yd y=true):Yk x=Yk y↔x=y:=by
  refine⟨λh=>?_,λh=>by rw[h]⟩;rw[Yk,Yk,if_pos hx,if_pos hy]at h;exact (val_read x (Mz hx) y (Mz hy) 0 0 [] [] Ends.nil Ends.nil (by simpa using h)).1
theorem HM{x y:Tree}(hx:Yd x=true)(hy:Yd y=true):decide (Yk (Od x)=Yk (Od y))=Ow x y:=by
  have ox:=Jf hx;have oy:=Jf hy;rw[Bool.eq_iff_iff,decide_eq_true_eq,BT (by rw[As];exact hx) (by rw[As];exact hy),Ak ox,Ak oy,Po ox oy]
open Go.RowKit
def Gd(s:Sd):Tree:=.node 5 [] [] (if s.has then [s.val] else [])
def Tp(s:Sd)(k:Int):Bool:=!s.has || (Yd s.val&&(decide (k≠5) || decide (s.val.kind=5)))
def Nm(c:Cf):Bool:=Tp c.b c.cls&&(Tp c.l c.cls&&(Tp c.r c.cls&&(decide (1<=c.cls)&&decide (c.cls<=6))))
def Xl(x y:Tree):Tree × Tree:=if Id y x<0 then (y,x) else (x,y)
def Ru(k:Int):Tree:=.node 3 (Tf (I2 k)) [] []
def Bo(c:Cf):Tree:=.node 5 [] [] [Ru c.cls,Gd c.b,(Xl (Gd c.l) (Gd c.r)).1,(Xl (Gd c.l) (Gd c.r)).2]
def Oi(c:Cf):Str × Bool:=if Nm c=true then (Yk (Od (Bo c)),decide (Lq (Od (Bo c))=0)) else ([],false)
def Ys(c:Cf):Cf:=⟨[],c.cls,c.b,c.r,c.l⟩
def Rn(x y:Sd):Bool:=if x.has=true/\y.has=true then Ow x.val y.val else x.has==y.has
def Ay(c d:Cf):Bool:=decide (c.cls=d.cls)&&Rn c.b d.b&&((Rn c.l d.l&&Rn c.r d.r) || (Rn c.l d.r&&Rn c.r d.l))
theorem Ov{t:Str}{ks:List Str}{xs:List Tree}{k:Int}(h:Yd (.node k t ks xs)=true){x:Tree}(hx:x∈xs):Yd x=true:=by
  unfold Yd Im at h ⊢;rw[Bool.and_eq_true,Bool.and_eq_true,decide_eq_true_eq,decide_eq_true_eq,Qb,Cd,SB,Bool.and_eq_true,List.all_eq_true]at h;rw[Bool.and_eq_true,Bool.and_eq_true,decide_eq_true_eq,decide_eq_true_eq];have h1:=Ug hx;have h2:=Gh hx;exact⟨⟨by omega,by omega⟩,h.2.2 x hx⟩
theorem Tu(xs:List Tree):sortT (.node 5 [] [] xs)=.node 5 [] [] (xs.map sortT):=by
  rw[sortT];simp[Rg]
theorem UJ(a b x y:Tree):Yd (.node 5 [] [] [a,b,x,y])=Yd (.node 5 [] [] [a,b,y,x]):=by
  unfold Yd Im;rw[SB,SB];have e1:Qb (.node 5 [] [] [a,b,x,y])=Qb (.node 5 [] [] [a,b,y,x]):=by simp only[Qb,Dc];omega
  have e2:Cd (.node 5 [] [] [a,b,x,y])=Cd (.node 5 [] [] [a,b,y,x]):=by simp only[Cd,Jd];omega
  have e3:rnodeB (.node 5 [] [] [a,b,x,y])=rnodeB (.node 5 [] [] [a,b,y,x]):=rfl;rw[e1,e2,e3]
  congr 2
  simp only[List.all_cons,List.all_nil,Bool.and_true];cases Xc rnodeB x <;> cases Xc rnodeB y <;> simp
theorem Su{t:Tree}(h:Yd t=false):Yk (Od t)=[]/\Lq (Od t)=1:=by
  have:Yd (Od t)=false:=by rw[As];exact h
  unfold Yk Lq;simp[this]
theorem AR{t:Tree}(h:Lq (Od t)=0):Yd t=true:=by
  cases hr:Yd t with
  | true=>rfl
  | false=>rw[(Su hr).2]at h;cases h
theorem XS(x y:Tree):Xl x y=Xl y x\/(Id x y=0/\Xl x y=(x,y)/\Xl y x=(y,x)):=by
  have h:=Pq x y;unfold Xl;rcases Int.lt_trichotomy (Id x y) 0 with h1|h1|h1
  ·rw[if_neg Aa,if_pos h1];exact .inl rfl
  ·rw[if_neg Aa,if_neg Aa];exact .inr ⟨h1,rfl,rfl⟩
  rw[if_pos Aa,if_neg Aa];exact .inl rfl
theorem WG(c:Cf):Nm (Ys c)=Nm c:=by
  unfold Nm Ys;cases Tp c.b c.cls <;> cases Tp c.l c.cls <;> cases Tp c.r c.cls <;> rfl
theorem pr_turn(c:Cf):Oi (Ys c)=Oi c:=by
  unfold Oi;rw[WG];split
  ·have key:Yk (Od (Bo (Ys c)))=Yk (Od (Bo c))/\Lq (Od (Bo (Ys c)))=Lq (Od (Bo c)):=by
     rcases XS (Gd c.l) (Gd c.r)with h|⟨h0,h1,h2⟩
     ·have : Bo (Ys c) = Bo c := by unfold Bo Ys;simp only;rw[h]
      rw[this];exact⟨rfl,rfl⟩
     have e1 : Bo c = .node 5 [] [] [Ru c.cls, Gd c.b, Gd c.l, Gd c.r] := by unfold Bo;rw[h1]
     have e2:Bo (Ys c)=.node 5 [] [] [Ru c.cls,Gd c.b,Gd c.r,Gd c.l]:=by unfold Bo Ys;simp only;rw[h2]
     rw[e1,e2];have hsw:=UJ (Ru c.cls) (Gd c.b) (Gd c.l) (Gd c.r);cases hr:Yd (.node 5 [] [] [Ru c.cls,Gd c.b,Gd c.l,Gd c.r])with
     | false =>
       have hr2:=hsw.symm.trans hr;rw[(Su hr).1,(Su hr).2,(Su hr2).1,(Su hr2).2];exact⟨rfl,rfl⟩
     | true =>
       have hr2:=hsw.symm.trans hr;have ol:=Jf (Ov hr (x:=Gd c.l) Ma);have or_:=Jf (Ov hr (x:=Gd c.r) Ma);have hs:Ow (Gd c.l) (Gd c.r)=true:=by rw[<-Yw ol or_];exact decide_eq_true h0
       have hq:=(Po ol or_).1 hs;have:Od (.node 5 [] [] [Ru c.cls,Gd c.b,Gd c.r,Gd c.l])=Od (.node 5 [] [] [Ru c.cls,Gd c.b,Gd c.l,Gd c.r]):=by
         rw[Ak (Jf hr),Ak (Jf hr2),Tu,Tu];simp[hq]
       rw[this];exact⟨rfl,rfl⟩
   rw[key.1,key.2]
  rfl
theorem X8(s:Sd):sortT (Gd s)=.node 5 [] [] (if s.has then [sortT s.val] else []):=by
  unfold Gd;rw[Tu];split <;> rfl
theorem Cr{s u:Sd}(hs:s.has=true->Kd s.val=true)(hu:u.has=true->Kd u.val=true):sortT (Gd s)=sortT (Gd u)↔Rn s u=true:=by
  rw[X8,X8];unfold Rn;cases h1:s.has <;> cases h2:u.has
  ·simp
  ·simp
  ·simp
  simp only[if_true, and_self];rw[Po (hs h1) (hu h2)];simp
theorem cls_inj{a b:Int}(ha:1<=a/\a<=6)(hb:1<=b/\b<=6):sortT (Ru a)=sortT (Ru b)↔a=b:=by
  have e:∀k,sortT (Ru k)=Ru k:=λk=>by unfold Ru;rw[sortT];simp[Rg]
  rw[e,e];constructor
  ·intro h
   have h2:Tf (I2 a)=Tf (I2 b):=by unfold Ru at h;injection h
   have key:∀i j:Fin 7,Tf (I2 (i.val:Int))=Tf (I2 (j.val:Int))->i=j:=of_decide_eq_true (show decide (∀i j:Fin 7,Tf (I2 (i.val:Int))=Tf (I2 (j.val:Int))->i=j)=true by kernel_rfl);have:=key ⟨a.toNat,by omega⟩ ⟨b.toNat,by omega⟩ (by simp only;rw[Int.toNat_of_nonneg Aa,Int.toNat_of_nonneg Aa];exact h2);have:=Fin.mk.inj this;omega
  rintro rfl;rfl
theorem ES{x y x' y':Tree}(ox:Kd x=true)(oy:Kd y=true)(ox':Kd x'=true)(oy':Kd y'=true) :
    (sortT (Xl x y).1=sortT (Xl x' y').1/\sortT (Xl x y).2=sortT (Xl x' y').2)↔((sortT x=sortT x'/\sortT y=sortT y')\/(sortT x=sortT y'/\sortT y=sortT x')):=by
  have cv:∀{a b:Tree},Kd a=true->Kd b=true->Id a b=Ji (sortT a) (sortT b):=λha hb=>by unfold Id;rw[if_pos ha,if_pos hb]
  have zero:∀{a b:Tree},Kd a=true->Kd b=true->Id a b=0->sortT a=sortT b:=λha hb h=>(Po ha hb).1 (by rw[<-Yw ha hb];exact decide_eq_true h);have an:=Pq x y;have an':=Pq x' y';constructor
  ·unfold Xl
   split <;> split <;> rintro⟨h1,h2⟩
   ·exact .inl ⟨h2,h1⟩
   ·exact .inr ⟨h2,h1⟩
   ·exact .inr ⟨h1,h2⟩
   exact .inl ⟨h1,h2⟩
  rintro (⟨h1, h2⟩|⟨h1, h2⟩)
  ·have e : Id y x = Id y' x' := by rw[cv oy ox, cv oy' ox', h1, h2]
   unfold Xl;rw[e];split
   ·exact⟨h2,h1⟩
   exact⟨h1,h2⟩
  have e : Id y x = Id x' y' := by rw[cv oy ox, cv ox' oy', h1, h2]
  unfold Xl;rcases Int.lt_trichotomy (Id y x) 0 with h|h|h
  ·rw[if_pos h,if_neg Aa];exact⟨h2,h1⟩
  ·have h3 := zero oy ox h
   rw[if_neg Aa,if_neg Aa];exact⟨h3.symm.trans h2,h3.trans h1⟩
  rw[if_neg Aa,if_pos Aa];exact⟨h1,h2⟩
theorem Cl{s:Sd}{k:Int}(h:Tp s k=true):s.has=true->Kd s.val=true:=λhh=>by
  unfold Tp at h;rw[hh]at h;simp only[Bool.not_true,Bool.false_or,Bool.and_eq_true]at h;exact Jf h.1
theorem WW{c d:Cf}(hc:(Oi c).2=true)(hd:(Oi d).2=true):decide ((Oi c).1=(Oi d).1)=Ay c d:=by
  have open_:∀{e:Cf},(Oi e).2=true->Nm e=true/\Yd (Bo e)=true/\(Oi e).1=Yk (Od (Bo e)):=fun {e} he=>by
    unfold Oi at he ⊢;by_cases h:Nm e=true
    ·rw[if_pos h]at he ⊢
     exact⟨h,AR (of_decide_eq_true he),O⟩
    rw[if_neg h]at he;cases he
  obtain⟨c1,c2,c3⟩:=open_ hc;obtain⟨d1,d2,d3⟩:=open_ hd;rw[c3,d3,HM c2 d2];unfold Nm at c1 d1;simp only[Bool.and_eq_true,decide_eq_true_eq]at c1 d1;obtain⟨cb,cl,cr,ck⟩:=c1;obtain⟨db,dl,dr,dk⟩:=d1;have kid:∀{e:Cf},Yd (Bo e)=true->Kd (Gd e.l)=true/\Kd (Gd e.r)=true:=fun {e} he=>by
    have h1:=Ov he (x:=(Xl (Gd e.l) (Gd e.r)).1) Ma;have h2:=Ov he (x:=(Xl (Gd e.l) (Gd e.r)).2) Ma;unfold Xl at h1 h2;split at h1
    ·rename_i hlt
     rw[if_pos hlt]at h2;exact⟨Jf h2,Jf h1⟩
    rename_i hlt
    rw[if_neg hlt]at h2;exact⟨Jf h1,Jf h2⟩
  obtain⟨ocl,ocr⟩:=kid c2;obtain⟨odl,odr⟩:=kid d2;rw[Bool.eq_iff_iff,Po (Jf c2) (Jf d2)];unfold Bo Ay;rw[Tu,Tu];simp only[List.map_cons,List.map_nil,Tree.node.injEq,List.cons.injEq,true_and,and_true,Bool.and_eq_true,Bool.or_eq_true,decide_eq_true_eq];rw[cls_inj ck dk,Cr (Cl cb) (Cl db),ES ocl ocr odl odr,Cr (Cl cl) (Cl dl),Cr (Cl cr) (Cl dr),Cr (Cl cl) (Cl dr),Cr (Cl cr) (Cl dl)];exact and_assoc.symm
theorem Zr(a b:Str):Zs a b=decide (a<b):=Go.Proofs.bytesLess_eq a b
structure Mm where
  pr:Str
  sd:Sd
def G3(v:Tree):Bool:=decide (v.kind=0)&&(decide (v.text=[])&&(decide (v.keys=[])&&decide (v.items=[])))
def Aq(m:Mm):Bool:=Lib.validD m.pr&&(Tp m.sd 0&&(m.sd.has || G3 m.sd.val))
def Tr(t:List Mm)(i:Nat):Bool:=match t[i]? with
  | none=>true
  | some m => Aq m&&(match i with
    | 0=>true
    | j + 1 => match t[j]? with
      | none=>true
      | some q=>Zs q.pr m.pr)
def Ej(t:List Mm):Bool:=(List.range t.length).all (Tr t)&&decide (t.length<=256)
def Rt(s:Sd):Sd:=if s.has then ⟨true,s.val⟩ else noS
def Vg(t:List Mm)(p:Str):Nat:=(t.takeWhile λm=>Zs m.pr p).length
def O8(t:List Mm)(p:Str):Bool:=match t[Vg t p]? with|some m=>decide (m.pr=p)|none=>false
def Uh(t:List Mm)(c:Cf):Nat × Bool:=if (Oi c).2&&Ej t then (Vg t (Oi c).1,O8 t (Oi c).1) else (0,false)
def Ik(t:List Mm)(c:Cf)(s:Sd):List Mm × Int :=
  if Ej t&&((Oi c).2&&(Tp s c.cls && !(decide (c.cls=5) && !s.has))) then
    let p:=(Oi c).1
    let k:=Vg t p
    if O8 t p then (t.take k++⟨p,Rt s⟩::t.drop (k+1),0) else if t.length=256 then ([],11) else (t.take k++⟨p,Rt s⟩::t.drop k,0)
  else ([],1)
def Zj(t:List Mm)(c:Cf):Sd × Bool:=if (Uh t c).2 then (match t[(Uh t c).1]? with|some m=>m.sd|none=>noS,true) else (noS,false)
def Asc(t:List Mm):Prop:=t.Pairwise λa b=>a.pr<b.pr
theorem S0{a b c:Str}(h1:a<b)(h2:b<c):a<c:=List.lt_trans h1 h2
theorem CB{a:Str}:¬a<a:=List.lt_irrefl a
theorem RN{a b:Str}(h1:¬a<b)(h2:¬b<a):a=b:=List.le_antisymm (List.not_lt.1 h2) (List.not_lt.1 h1)
theorem QW:∀(t:List Mm),(∀i,Tr t i=true)->Asc t/\∀m∈t,Aq m=true
  | [],_=>⟨List.Pairwise.nil,λ_ h=>(by cases h)⟩
  | m :: t, h => by
    have hm:Aq m=true:=by have:=h 0;simp only[Tr,List.getElem?_cons_zero,Bool.and_true]at this;exact this
    have ht:∀i,Tr t i=true:=λi=>by
      have h1:=h (i+1);unfold Tr at h1 ⊢;rw[List.getElem?_cons_succ]at h1;cases hi:t[i]? with
      | none=>rfl
      | some q =>
        rw[hi]at h1;simp only[Bool.and_eq_true]at h1 ⊢;refine⟨h1.1,?_⟩;cases i with
        | zero=>rfl
        | succ j=>simpa using h1.2
    obtain⟨h1,h2⟩:=QW t ht;refine⟨List.pairwise_cons.2 ⟨λq hq=>?_,h1⟩,λq hq=>?_⟩
    ·cases t with
     | nil=>cases hq
     | cons y t =>
       have hy:m.pr<y.pr:=by
         have:=h 1;simp only[Tr,List.getElem?_cons_succ,List.getElem?_cons_zero,Bool.and_eq_true,Zr,decide_eq_true_eq]at this;exact this.2
       rcases oQ.1 hq with rfl|hq
       ·exact hy
       exact S0 hy ((List.pairwise_cons.1 h1).1 q hq)
    rcases oQ.1 hq with rfl|hq
    ·exact hm
    exact h2 q hq
theorem asc_to{t:List Mm}(h:Asc t)(hm:∀m∈t,Aq m=true):∀i,Tr t i=true:=λi=>by
  unfold Tr;cases hi:t[i]? with
  | none=>rfl
  | some m =>
    obtain⟨hlt,rfl⟩:=List.getElem?_eq_some_iff.1 hi;simp only[Bool.and_eq_true];refine⟨hm _ (eQ hlt),?_⟩;cases i with
    | zero=>rfl
    | succ j =>
      simp only;rw[List.getElem?_eq_getElem Aa];simp only[Zr,decide_eq_true_eq];exact List.pairwise_iff_getElem.1 h j (j+1) Aa hlt Aa
theorem Ix{t:List Mm}:Ej t=true↔Asc t/\(∀m∈t,Aq m=true)/\t.length<=256:=by
  unfold Ej;rw[Bool.and_eq_true,List.all_eq_true,decide_eq_true_eq];constructor
  ·rintro⟨h, hl⟩
   have:=QW t λi=>by
     rcases Nat.lt_or_ge i t.length with hi|hi
     ·exact h i (List.mem_range.2 hi)
     unfold Tr;rw[List.getElem?_eq_none hi]
   exact⟨this.1,this.2,hl⟩
  rintro⟨h1, h2, h3⟩;exact⟨λi _=>asc_to h1 h2 i,h3⟩
open Go.RowKit Go.Proofs Go.Proofs.Tryz
theorem has_c(x:Tv)(w0:World):Calls prog 117 #[.agg (x.cells).toArray] w0 (Dd λv w'=>v=.agg #[.bool true,J (x.k),I (x.t),.slice x.A x.n x.c,.slice x.B x.m x.e]/\Same [] w0 w'):=by
 refine Ia func117 O ntmps117 Eb (Yb _) ?_;have hF:=FR.start w0 [];refine Ea (Oe hF O ?_);rintro b1 w hb1 hF -;refine Wc (cs:=#[.bool false,J 0,I [],aQ,aQ]) hF mX O ?_;rintro b2 w hb2 hF -;refine Rb (Zb (Of aZ nZ O hF.F 1 O O) ?_);refine Ka (w':=w) (v:=.agg #[.bool true,J (x.k),I (x.t),.slice x.A x.n x.c,.slice x.B x.m x.e]) Ub (Ie hF oZ O O Zg ?_);rintro w hF -;refine Da (Va (Ua (Ja (Vi O (l:=[.bool true,J (x.k),I (x.t),.slice x.A x.n x.c,.slice x.B x.m x.e]) O cZ oZ O (hF.cellsAll 0 O)) ?_)));exact⟨O,hF.same⟩
structure SdOk (s:Sd):Prop where
  sz:Qb s.val<=1000000000
  ok:Vp s.val
theorem E5(s:Sd)(x:Sv)(S:Nat->Prop)(w0:World)(hX:Rep S w0 (Ve s) x.cells)(hs:SdOk s)(hG:Gl w0):Calls prog 168 #[.agg x.cells.toArray] w0 (Dd λv w'=>∃y:Sv,v=.agg y.cells.toArray/\Rep (Btw w0 w') w' (Ve (Mk s)) y.cells/\Same [] w0 w'):=by
 have hx:=Se hX;refine Ia func168 O ntmps168 Eb (Yb _) ?_;have hF:=FR.start w0 [];refine Ea (Oe hF O ?_);rintro b1 w hb1 hF -;refine Wc (cs:=#[.bool false,J 0,I [],aQ,aQ]) hF mX O ?_;rintro b2 w hb2 hF -;refine Da (Ga (Ea (Ba (Ob Qh O) (Zb (N3 fZ O hF.F 1 O O) (Ba (Si O) (Da ?_))))));refine Le O O (λhc0=>?_) (λhc0=>?_);have h0:s.has=false:=by rw[<-hx.1];simpa using hc0
 refine Ea (Ka (w':=w) (v:=.agg #[.bool false,J 0,I [],aQ,aQ]) Ub ?_);refine Ie hF oZ O O Zg ?_;rintro w hF -;refine Da (Va (Ua (Ja (Vi O (l:=[.bool false,J 0,I [],aQ,aQ]) O cZ oZ O (hF.cellsAll 0 O)) ?_)));have e:Mk s=noS:=by rw[Mk,if_neg (by rw[h0];decide)]
 rw[e];exact⟨⟨false,V9⟩,O,Jo,hF.same⟩;have h0:s.has=true:=by rw[<-hx.1];simpa using hc0
 refine La (Fa (Ea (Ba (Ob Ag O) (Ka (v:=.agg (x.v.cells).toArray) (Wa (l:=x.v.cells) aZ nZ O O (hF.part 1 1 O O)) ?_))));refine Lb (LN s.val hs.sz _ _ x.v.cells (hF.rep hx.2.2.2.2) hs.ok (hG.ext hF.same)) (Na en_66 O O) ?_;rintro _ w ⟨ct,rfl,hRt,hE⟩;obtain⟨q,rfl,-⟩:=Bj hRt;have hYX:=RX.made (ids:=[b2,b1]) hF.same.size (λx hx=>hF.lt_ids (by grind)) hRt;have hF:=hF.ext hE;clear hE hRt;refine Lb (has_c q _) (Na XV O O) ?_;rintro _ w ⟨rfl,hE⟩;have hF:=hF.ext hE;have hYX:=hYX.ext hE;refine Ie hF oZ O O Zg ?_;intro w hF hE;have hYX:=hYX.store hE (by grind);refine Da (Va (Ua (Ja (Vi O (l:=[.bool true,J (q.k),I (q.t),.slice q.A q.n q.c,.slice q.B q.m q.e]) O cZ oZ O (hF.cellsAll 0 O)) ?_)));have e:Mk s=⟨true,Iu s.val⟩:=by rw[Mk,if_pos h0]
 rw[e]
 ·exact⟨⟨true,q⟩,O,J5 (s:=⟨true,Iu s.val⟩) hYX.done,hF.same⟩
end Go.Scarf
