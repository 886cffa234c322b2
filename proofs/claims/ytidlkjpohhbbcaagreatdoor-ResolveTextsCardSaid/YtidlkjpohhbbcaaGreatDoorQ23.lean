/- A part of the proof. -/
import Derived.Test.YtidlkjpohhbbcaaGreatDoorX27
set_option linter.all false
set_option maxHeartbeats 8000000
set_option maxRecDepth 10000
set_option synthInstance.maxHeartbeats 0
set_option synthInstance.maxSize 9999
namespace Go.Scarf
open List renaming length->aL
open Go.RowKit Go.Proofs Go.Proofs.Tryz
variable {t:Str}{cr k n q:Nat}{o:Obj}{sb sl:List (Nat × Obj)}{A Ar:Option Addr}{vals:List Value}{had:List Str}{r:List Tk}{a:Addr}{v:Value}
def AY(h:q<aL t):(t.drop q)[0]' qY=t[q]:=by rw[List.getElem_drop];rfl
def KV(h:q<aL t)(h92:t[q].toNat=92):(Fg (t.drop q)).2=(Kk t q).2/\((Kk t q).2≠0->Od ((Fg (t.drop q)).1:Int)=(Kk t q).1):=by
  have e:Fg (t.drop q)=He (t.drop q):=by rw[Bm qY,uQ (by rw[AY h];exact h92)]
  rw[e];unfold Kk;split
  ·rename_i h0;exact⟨h0,λh=>absurd rfl h⟩
  exact⟨O,λ_=>rfl⟩
def WN(t:Str)(q:Nat):Utf8.decode (bs t) q=Lib.decodeL (t.drop q):=(Jh t q).symm
def FP(h:q<aL t):(Lib.decodeL (t.drop q)).1<32↔t[q].toNat<32:=by
  rw[<-WN];have hs:q<(bs t).size:=h;by_cases ha:(t[q]).toNat<128
  ·rw[decode_ascii (bs t) q hs ha];exact Iff.rfl
  have := decode_high (bs t) q hs (by show 128 <= (t[q]).toNat;omega);omega
def NJ(h:q<aL t)(h92:¬t[q].toNat=92)(hb:t[q].toNat<32\/Tr t q=false):(Fg (t.drop q)).2=0:=by
  rw[Bm qY,tQ (by rw[AY h];exact h92),uQ];rcases hb with hb|hb
  ·exact .inl<|(FP h).2 hb
  right;unfold Tr at hb;rw[WN]at hb;simpa using hb
def QT(h:q<aL t)(h92:¬t[q].toNat=92)(h32:¬t[q].toNat<32)(hg:Tr t q=true):Fg (t.drop q)=Utf8.decode (bs t) q/\Od ((Utf8.decode (bs t) q).1:Int)=(t.take (q+(Utf8.decode (bs t) q).2)).drop q/\1<=(Utf8.decode (bs t) q).2/\q+(Utf8.decode (bs t) q).2<=aL t:=by
  have hne:t.drop q≠[]:=by rw[ne_eq,List.drop_eq_nil_iff];omega
  unfold Tr at hg;rw[WN]at hg ⊢;have hv:¬((Lib.decodeL<|t.drop q).1=65533/\(Lib.decodeL<|t.drop q).2=1):=by rintro⟨h1,h2⟩;rw[h1,h2]at hg;exact absurd hg Ja
  have hle:=Lib.decodeL_le _ hne;have hw:=Lib.decodeL_width<|t.drop q;rw[zQ]at hle;refine⟨?_,?_,Aa,Aa⟩
  ·rw[Bm qY, tQ (by rw[AY h];exact h92), tQ]
   rintro (h1|h1)
   ·exact h32<|(FP h).1 h1
   exact hv h1
  have := Lib.encode_decode (t.drop q) hne hv;rw[List.drop_take,Nat.add_sub_cancel_left];exact this
theorem IQ(t:Str)(a:Nat)(hl:aL t<=1000000000000)(ha:a<=aL t)(w0:World):Calls prog 185 #[I t,J (a:Int)] w0 (Za λv w'=>v=.tuple #[I ((Wc t a).1),J ((Wc t a).2.1:Nat),J (Wc t a).2.2]/\Same [] w0 w'):=by
 refine Ea func185 ntmps185 ?_;intro hF;refine rn 16 ⟨λhg0=>?_,λhg0=>?_⟩;refine rn 17 ⟨?_,hF.same⟩;have hq0:¬t[a]? = some 34:=λe=>by obtain⟨h1,h2⟩:=List.getElem?_eq_some_iff.1 e;have h3:=yQ UInt8.toNat h2;simp only[show (34:UInt8).toNat=34 from rfl]at h3;omega
 rw[Wc,tQ hq0];refine rn 2<|Ba (v:=.int .u8<|(((t:Str)[a]' Aa).toNat:Int)) (Cb (a) jX O O Aa) ?_;refine rn 5 ⟨λhc0=>?_,λhc0=>?_⟩;refine rn 9 ⟨?_,hF.same⟩;have hq0:¬t[a]? = some 34:=λe=>by obtain⟨h1,h2⟩:=List.getElem?_eq_some_iff.1 e;have h3:=yQ UInt8.toNat h2;simp only[show (34:UInt8).toNat=34 from rfl]at h3;omega
 rw[Wc,tQ hq0];refine rn 10<|Zb (Wd<|((a+1:Nat):Int)) ?_;refine rn 5 ?_;have hr0:Em (aL t-a) t (a+1) []=Wc t a:=by rw[Wc,uQ wT]
 refine Sa (λμ σ w=>∃(f:Nat),∃(q:Nat),∃(o:Str),μ=aL t-q/\(Em f t q o=(Wc t a)/\aL t-q<f/\q<=aL t/\aL o<=4*q)/\AllEq σ [(0,I t),(7,I o),(8,J<|(q:Int))]/\FR w0 [] [] w) _ ⟨aL t-a,a+1,[],O,⟨hr0,Aa,Aa,Da⟩,Va,hF⟩ ?_;rintro μ σ w ⟨f,q,o,rfl,hq,hzz,hF⟩;obtain⟨f,rfl⟩:∃g,f=g+1:=⟨f-1,Aa⟩;have hstep:=hq.1;rw[Em]at hstep;refine Wf hzz 10 ⟨λhc1=>?_,λhc1=>?_⟩;refine rn 5 ?_;have hql:q<aL t:=Aa
 refine rn 3<|Ba (v:=.int .u8<|(((t:Str)[q]' Aa).toNat:Int)) (Cb (q) jX O O Aa) ?_;refine rn 4 ⟨λhc2=>?_,λhc2=>?_⟩;refine rn 4<|Zb (Wd<|((q+1:Nat):Int)) ?_;refine rn 6 ?_;rw[dif_pos hql,uQ<|Lh.2 (by show _=34;omega)]at hstep;exact⟨by rw[<-hstep],hF.same⟩;refine rn 4 ?_;have h34:¬t[q]=34:=λe=>hc2 (by rw[e];rfl);refine rn 3<|Ba (v:=.int .u8<|(((t:Str)[q]' Aa).toNat:Int)) (Cb (q) jX O O Aa) ?_;refine rn 4 ⟨λhc3=>?_,λhc3=>?_⟩;refine rn 4 ?_;have h92:t[q].toNat=92:=Aa
 obtain⟨hp1,hp2⟩:=KV hql h92;refine Ia (resc_c t q Aa Aa _) ?_;rintro w hF -;refine rn 15 ⟨λhc4=>?_,λhc4=>?_⟩;refine rn 9 ?_;rw[dif_pos hql,tQ h34,uQ (by rw[hp1];omega)]at hstep;exact⟨by rw[<-hstep],hF.same⟩;refine rn 3 ?_;have hp3:=hp2 Aa;have hpb:=Wo (t.drop q) bN;rw[zQ]at hpb;refine rn 3 ?_;refine Ba (v:=I<|(o)++((Kk t q).1)) (Gf O O (by rw[<-hp3];have:=Cd (((Fg<|t.drop q).1:Nat):Int);omega)) ?_;refine rn 7<|Zb (Wd<|((q+(Kk t q).2:Nat):Int)) ?_;refine rn 4 ?_;refine Ha ⟨_,?_,f,q+(Kk t q).2,o++(Kk t q).1,O,(⟨by rw[dif_pos hql,tQ h34,tQ (by rw[hp1];omega),hp1,hp3]at hstep;exact hstep,Aa,Aa,by rw[dQ,<-hp3];have:=Cd (((Fg<|t.drop q).1:Nat):Int);omega⟩),Va,hF⟩;omega;refine rn 6<|Ia (good_c t q Aa Aa _) ?_;rintro w hF -;refine rn 8<|Ba (v:=.int .u8<|(((t:Str)[q]' Aa).toNat:Int)) (Cb (q) jX O O Aa) ?_;refine rn 3 ⟨λhg1=>?_,λhg1=>?_⟩;refine rn 15 ?_;have h92:¬t[q].toNat=92:=Aa
 have hb:t[q].toNat<32\/Tr t q=false:=by first|(left;omega)|(right;simp_all)
 rw[dif_pos hql,tQ h34,uQ<|NJ hql h92 hb]at hstep;exact⟨by rw[<-hstep],hF.same⟩;refine rn 6 ⟨λhc5=>?_,λhc5=>?_⟩;refine rn 9 ?_;have h92:¬t[q].toNat=92:=Aa
 have hb:t[q].toNat<32\/Tr t q=false:=by first|(left;omega)|(right;simp_all)
 rw[dif_pos hql,tQ h34,uQ<|NJ hql h92 hb]at hstep;exact⟨by rw[<-hstep],hF.same⟩;refine rn 6 ?_;have hg1:Tr t q=true:=qX
 have h92:¬t[q].toNat=92:=Aa
 obtain⟨hp1,hp2,hp3,hp4⟩:=QT hql h92 Aa hg1;refine Ia (YM t q Aa Aa _) ?_;rintro w hF -;refine rn 14<|Zb (Wd<|((q+(Utf8.decode (bs t) q).2:Nat):Int))<|Ba (v:=I<|((t:Str).take (q+(Utf8.decode (bs t) q).2)).drop (q)) (Eh (q) (q+(Utf8.decode (bs t) q).2) jX O O O Aa Aa) ?_;refine Ba (v:=I<|(o)++(((t:Str).take (q+(Utf8.decode (bs t) q).2)).drop (q))) (Gf O O (by rw[<-hp2];have:=Cd (((Utf8.decode (bs t) q).1:Nat):Int);omega)) ?_;refine rn 6<|Zb (Wd<|((q+(Utf8.decode (bs t) q).2:Nat):Int)) ?_;refine rn 3 ?_;refine Ha ⟨_,?_,f,q+(Utf8.decode (bs t) q).2,o++(t.take<|q+(Utf8.decode (bs t) q).2).drop q,O,(⟨by rw[dif_pos hql,tQ h34,tQ (by rw[hp1];omega),hp1,hp2]at hstep;exact hstep,Aa,Aa,by rw[dQ,<-hp2];have:=Cd (((Utf8.decode (bs t) q).1:Nat):Int);omega⟩),Va,hF⟩;omega;refine rn 12 ?_;rw[dif_neg Aa]at hstep;exact⟨by rw[<-hstep],hF.same⟩
def Wv(t:Str)(hl:aL t<=1000000000000)(w0:World):Calls prog 123 #[I t] w0 (Za λv w'=>v=.tuple #[I ((Dc t).1),J ((Dc t).2.1:Nat),J (Dc t).2.2]/\Same [] w0 w'):=by
 refine Ea func123 ntmps123 ?_;intro hF;refine rn 10<|Ia (IQ t 0 hl (dZ _) _) ?_;rintro w hF -;refine rn 16 ⟨λhg0=>?_,λhg0=>?_⟩;refine rn 8 ⟨λhc0=>?_,λhc0=>?_⟩;refine rn 9 ?_;have h:(Wc t 0).2.2=0/\(Wc t 0).2.1<aL t:=by constructor <;> omega
 exact⟨by rw[Dc,uQ h],hF.same⟩;refine rn 13 ?_;have h:¬((Wc t 0).2.2=0/\(Wc t 0).2.1<aL t):=by intro h;omega
 exact⟨by rw[Dc,tQ h],hF.same⟩;refine rn 21 ?_;have h:¬((Wc t 0).2.2=0/\(Wc t 0).2.1<aL t):=by intro h;omega
 exact⟨by rw[Dc,tQ h],hF.same⟩
def rend_c(t:Str)(a:Nat)(hl:aL t<=1000000000000)(ha:a<=aL t)(w0:World):Calls prog 236 #[I t,J (a:Int)] w0 (Za λv w'=>v=.tuple #[J ((Wc t a).2.1:Nat),J (Wc t a).2.2]/\Same [] w0 w'):=by
 refine Ea func236 ntmps236 ?_;intro hF;refine rn 13 ⟨λhg0=>?_,λhg0=>?_⟩;refine rn 15 ?_;omega;refine rn 8 ⟨λhc0=>?_,λhc0=>?_⟩;refine rn 7 ?_;omega;refine rn 6<|Ia (IQ t a hl Aa _) ?_;rintro w hF -;refine rn 18 ?_;exact⟨O,hF.same⟩
def runN_at(p:UInt8->Bool){s:Str}(h:q<aL s):Hd p (s.drop q)=if p s[q]=true then Hd p (s.drop (q+1))+1 else 0:=by
  rw[List.drop_eq_getElem_cons h];rfl
def runN_end(p:UInt8->Bool){s:Str}(h:aL s<=q):Hd p (s.drop q)=0:=by rw[List.drop_eq_nil_of_le h];rfl
def lettS:Str:=[97,98,99,100,101,102,103,104,105,106,107,108,109,110,111,112,113,114,115,116,117,118,119,120,121,122]
def Ys{P:UInt8->Prop}(h:∀n<256,P (UInt8.ofNat n))(c:UInt8):P c:=by
  have:=h c.toNat<|UInt8.toNat_lt c
  rwa [UInt8.ofNat_toNat]at this
def numB_is:(λc=>List.contains [45,43,46,48,49,50,51,52,53,54,55,56,57,101,69] c)=numB:=funext (Ys qA)
def Ri:(λc=>List.contains [32,9,10,13] c)=blankB:=funext (Ys qA)
def YS:(λc=>List.contains lettS c)=smallB:=funext (Ys qA)
def I0(c:UInt8):List.contains [45,48,49,50,51,52,53,54,55,56,57] c=decide (c.toNat=45\/(48<=c.toNat/\c.toNat<=57)):=Ys (P:=λc=>List.contains [45,48,49,50,51,52,53,54,55,56,57] c=decide (c.toNat=45\/(48<=c.toNat/\c.toNat<=57))) qA c
def Pm:Str:=[123,125,91,93,44,58]
def sign_at:∀i<6,Lib.indexByte Pm (Pm.getD i 0)=(i:Int):=by decide +kernel
def Fp{c:UInt8}(h:∀i (h:i<aL Pm),c≠Pm[i]):Lib.indexByte Pm c<0:=by
  have hm:Pm.contains c=false:=by
    rw[<-Bool.not_eq_true,List.contains_iff_mem];intro hm;obtain⟨i,hi,e⟩:=List.getElem_of_mem hm;exact h i hi e.symm
  exact Ys (P:=λc=>Pm.contains c=false->Lib.indexByte Pm c<0) qA c hm
def DD{s:Str}{a:Nat}(h:a<aL s):Ae s a=Xc s a s[a]:=by
  unfold Ae;rw[List.drop_eq_getElem_cons h];rfl
def UK(s:Str)(a:Nat)(c:UInt8):((Xc s a c).2=0->(Xc s a c).1.f=a)/\((Xc s a c).2≠0->(Xc s a c).1.f=(Xc s a c).1.t):=by
  unfold Xc;dsimp only
  repeat' split
  all_goals first
    | exact⟨λ_=>rfl,λh=>absurd rfl h⟩
    | exact⟨λh=>absurd h qW,λ_=>rfl⟩
    | exact⟨λh=>zX,λ_=>rfl⟩
def N8(c:UInt8)(l:Str)(hl:aL l<=1000000000000)(w0:World):Calls prog 234 #[.int .u8 (c.toNat:Int),I l] w0 (Za λv w'=>v=.bool (l.contains c)/\Same [] w0 w'):=by
 refine Ea func234 ntmps234 ?_;intro hF;refine rn 12<|Sa (λμ σ w=>∃(i:Nat),μ=aL l-i/\(i<=aL l)/\(∀k (h:k<aL l),k<i->l[k]≠c)/\AllEq σ [(0,.int .u8<|(c.toNat:Int)),(1,I l),(5,J<|(i:Int))]/\FR w0 [] [] w) _ ⟨0,O,Aa,λk _ h=>by omega,Va,hF⟩ ?_;rintro μ σ w ⟨i,rfl,hi,hno,hzz,hF⟩;refine Wf hzz 10 ⟨λhc0=>?_,λhc0=>?_⟩
 ·
  refine rn 8<|Ba (v:=.int .u8<|(((l:Str)[i]' Aa).toNat:Int)) (Cb (i) jX O O Aa) ?_;refine rn 5 ⟨λhc1=>?_,λhc1=>?_⟩
  ·
   refine rn 6 ?_;have hil:i<aL l:=Aa
   have hm:l.contains c=true:=List.contains_iff_mem.2 (by rw[show c=l[i] from (Lh.2 Aa).symm];exact eQ _);rw[hm];exact⟨O,hF.same⟩
  refine rn 5<|Zb (Wd<|((i+1:Nat):Int)) ?_;refine rn 2 ?_;refine Ha ⟨_,?_,i+1,rfl,Aa,(λk hk h=>if e:k=i then (by subst e;exact λe2=>hc1 (by rw[e2])) else hno k hk Aa),Va,hF⟩;omega
 refine rn 8 ?_;have hm:l.contains c=false:=by
   rw[<-Bool.not_eq_true,List.contains_iff_mem];intro hm;obtain⟨k,hk,e⟩:=List.getElem_of_mem hm;exact hno k hk Aa e
 rw[hm];exact⟨O,hF.same⟩
def OM(s:Str)(a:Nat)(l:Str)(hll:aL l<=1000000000000)(hl:aL s<=1000000000000)(ha:a<=aL s)(w0:World):Calls prog 235 #[I s,J (a:Int),I l] w0 (Za λv w'=>v=J ((a+Hd (λc=>l.contains c) (s.drop a):Nat):Int)/\Same [] w0 w'):=by
 refine Ea func235 ntmps235 ?_;intro hF;refine rn 7<|Sa (λμ σ w=>∃(q:Nat),μ=aL s-q/\(q<=aL s/\q+Hd (λc=>l.contains c) (s.drop q)=a+Hd (λc=>l.contains c) (s.drop a))/\AllEq σ [(0,I s),(1,J<|(q:Int)),(2,I l)]/\FR w0 [] [] w) _ ⟨a,O,⟨Aa,O⟩,Va,hF⟩ ?_;rintro μ σ w ⟨q,rfl,hq,hzz,hF⟩;refine Wf hzz 10 ⟨λhc0=>?_,λhc0=>?_⟩;refine rn 7<|Ba (v:=.int .u8<|(((s:Str)[q]' Aa).toNat:Int)) (Cb (q) jX O O Aa) ?_;refine rn 1 ?_;have hql:q<aL s:=Aa
 have hr:=runN_at (λc=>l.contains c) hql;refine Ia (N8 s[q] l hll _) ?_;rintro w hF -;refine rn 11 ⟨λhc1=>?_,λhc1=>?_⟩;refine rn 7 ?_;rw[tQ (show ¬(λc=>l.contains c) s[q]=true by simpa using hc1)]at hr;have e:a+Hd (λc=>l.contains c) (s.drop a)=q:=Aa
 rw[e];exact⟨O,hF.same⟩;refine rn 4<|Zb (Wd<|((q+1:Nat):Int)) ?_;refine rn 3 ?_;refine Ha ⟨_,?_,q+1,O,(⟨Aa,by rw[uQ (show (λc=>l.contains c) s[q]=true by simpa using hc1)]at hr;omega⟩),Va,hF⟩;omega;refine rn 9 ?_;have hr:=runN_end (λc=>l.contains c) (s:=s) (q:=q) Aa;have e:a+Hd (λc=>l.contains c) (s.drop a)=q:=Aa
 rw[e];exact⟨O,hF.same⟩
def rone_c(s:Str)(a:Nat)(hl:aL s<=1000000000)(ha:a<aL s)(w0:World):Calls prog 179 #[I s,J (a:Int)] w0 (Za λv w'=>∃kd:Int,v=.tuple #[J kd,J ((Xc s a s[a]).1.t:Nat),J (Xc s a s[a]).2]/\((Xc s a s[a]).2=0->kd=(Xc s a s[a]).1.k)/\Same [] w0 w'):=by
 have hsl:aL Pm=6:=rfl;refine Ea func179 ntmps179 ?_;intro hF;refine rn 11<|Ba (v:=.int .u8<|(((s:Str)[a]' Aa).toNat:Int)) (Cb (a) jX O O Aa) ?_;refine rn 15<|Sa (λμ σ w=>∃(i:Nat),μ=6-i/\(i<=6)/\(∀k (h:k<aL Pm),k<i->s[a]≠Pm[k])/\AllEq σ [(0,I s),(1,J<|(a:Int)),(7,.int .u8<|(s[a].toNat:Int)),(8,I Pm),(9,J<|(i:Int))]/\FR w0 [] [] w) _ ⟨0,O,Aa,λk _ h=>by omega,ae5,hF⟩ ?_;rintro μ σ w ⟨i,rfl,hi,hno,hzz,hF⟩;refine Wf hzz 10 ⟨λhc0=>?_,λhc0=>?_⟩;refine rn 9<|Ba (v:=.int .u8<|(((Pm:Str)[i]' Aa).toNat:Int)) (Cb (i) jX O O Aa) ?_;refine rn 4 ⟨λhc1=>?_,λhc1=>?_⟩;refine rn 3<|Zb (Wd<|(2+(i:Int))) ?_;refine rn 1<|Zb (Wd<|((a+1:Nat):Int)) ?_;refine rn 6 ?_;have hi6:i<6:=Aa
 have hci:s[a]=Pm.getD i 0:=by rw[List.getD_eq_getElem?_getD,List.getElem?_eq_getElem (show i<aL Pm from hi6)];exact Lh.2 (by show _=(Pm[i]).toNat;omega)
 have hib:Lib.indexByte [123,125,91,93,44,58] s[a]=(i:Int):=by rw[hci];exact sign_at i hi6
 have e:Xc s a s[a]=(⟨2+(i:Int),a,a+1⟩,0):=by unfold Xc;dsimp only;rw[uQ (by rw[hib];omega),hib]
 rw[e];exact⟨_,O,λ_=>rfl,hF.same⟩;refine rn 5<|Zb (Wd<|((i+1:Nat):Int)) ?_;refine rn 2 ?_;refine Ha ⟨_,?_,i+1,rfl,Aa,(λk hk h=>if e:k=i then (by subst e;exact λe2=>hc1 (by rw[e2])) else hno k hk Aa),Va,hF⟩;omega;refine rn 6<|Ia (N8 s[a] _ Ja _) ?_;rintro w hF -;refine rn 3 ⟨λhc2=>?_,λhc2=>?_⟩;refine rn 4 ?_;have hrn:=Rk blankB<|s.drop a;rw[zQ]at hrn;refine Ia (Qk (v':=J ((a+(Hd blankB<|s.drop a):Nat):Int)) (OM s a _ Ja Aa Aa _) (by rw[Ri])) ?_;rintro w hF -;refine rn 6 ?_;have hns:Lib.indexByte [123,125,91,93,44,58] s[a]<0:=Fp λk hk=>hno k hk (by have:k<6:=hk;omega);have hb:blankB s[a]=true:=by rw[<-Ri];exact hc2
 have e:Xc s a s[a]=(⟨1,a,a+(Hd blankB<|s.drop a)⟩,0):=by unfold Xc;dsimp only;rw[tQ (show ¬0<=Lib.indexByte [123,125,91,93,44,58] s[a] by omega),uQ hb]
 rw[e];exact⟨1,O,λh=>rfl,hF.same⟩;refine rn 10 ⟨λhc3=>?_,λhc3=>?_⟩;refine rn 4<|Ia (rend_c s a Aa Aa _) ?_;rintro w hF -;refine rn 17 ?_;have hns:Lib.indexByte [123,125,91,93,44,58] s[a]<0:=Fp λk hk=>hno k hk (by have:k<6:=hk;omega);have hb:¬blankB s[a]=true:=by rw[<-Ri];simpa using hc2
 have h34:s[a].toNat=34:=Aa
 by_cases hq:(Wc s a).2.2=0;have e:Xc s a s[a]=(⟨8,a,(Wc s a).2.1⟩,0):=by unfold Xc;dsimp only;rw[tQ (show ¬0<=Lib.indexByte [123,125,91,93,44,58] s[a] by omega),tQ hb,uQ h34,uQ hq]
 rw[e,hq];exact⟨8,rfl,λ_=>rfl,hF.same⟩;have e:Xc s a s[a]=(⟨0,(Wc s a).2.1,(Wc s a).2.1⟩,(Wc s a).2.2):=by unfold Xc;dsimp only;rw[tQ (show ¬0<=Lib.indexByte [123,125,91,93,44,58] s[a] by omega),tQ hb,uQ h34,tQ hq]
 rw[e];exact⟨8,rfl,λh=>absurd h hq,hF.same⟩;refine rn 6<|Ia (N8 s[a] _ Ja _) ?_;rintro w hF -;refine rn 3 ⟨λhc4=>?_,λhc4=>?_⟩;refine rn 4 ?_;have hrn:=Rk numB<|s.drop a;rw[zQ]at hrn;refine Ia (Qk (v':=J ((a+(Hd numB<|s.drop a):Nat):Int)) (OM s a _ Ja Aa Aa _) (by rw[numB_is])) ?_;rintro w hF -;refine rn 8 ?_;refine Ba (v:=I<|(s.drop a).take (Hd numB<|s.drop a)) (by rw[show (s.drop a).take (Hd numB<|s.drop a)=(s.take<|a+(Hd numB<|s.drop a)).drop a by rw[List.drop_take,Nat.add_sub_cancel_left]];exact Eh a (a+(Hd numB<|s.drop a)) jX O O O Aa Aa) ?_;refine Ia (T8 ((s.drop a).take (Hd numB<|s.drop a)) (by rw[jZ,zQ];omega) _) ?_;rintro w hF -;refine rn 4 ?_;rintro b1 w hb1 hF -;refine rn 11 ⟨λhc5=>?_,λhc5=>?_⟩;refine rn 10 ?_;have hns:Lib.indexByte [123,125,91,93,44,58] s[a]<0:=Fp λk hk=>hno k hk (by have:k<6:=hk;omega);have hb:¬blankB s[a]=true:=by rw[<-Ri];simpa using hc2
 have h34:¬s[a].toNat=34:=Aa
 rw[I0]at hc4;have hd:=mZ hc4;have e:Xc s a s[a]=(⟨0,a,a⟩,(Wb<|(s.drop a).take (Hd numB<|s.drop a)).2):=by unfold Xc;dsimp only;rw[tQ (show ¬0<=Lib.indexByte [123,125,91,93,44,58] s[a] by omega),tQ hb,tQ h34,uQ hd,tQ hc5]
 rw[e];exact⟨0,O,λh=>absurd h hc5,hF.same⟩;refine rn 11 ?_;have hns:Lib.indexByte [123,125,91,93,44,58] s[a]<0:=Fp λk hk=>hno k hk (by have:k<6:=hk;omega);have hb:¬blankB s[a]=true:=by rw[<-Ri];simpa using hc2
 have h34:¬s[a].toNat=34:=Aa
 rw[I0]at hc4;have hd:=mZ hc4;have hp:=Decidable.not_not.1 hc5;have e:Xc s a s[a]=(⟨9,a,a+(Hd numB<|s.drop a)⟩,0):=by unfold Xc;dsimp only;rw[tQ (show ¬0<=Lib.indexByte [123,125,91,93,44,58] s[a] by omega),tQ hb,tQ h34,uQ hd,uQ hp]
 rw[e];exact⟨9,O,λ_=>rfl,hF.same⟩;refine rn 6 ?_;have hrn:=Rk smallB<|s.drop a;rw[zQ]at hrn;refine Ia (Qk (v':=J ((a+(Hd smallB<|s.drop a):Nat):Int)) (OM s a lettS Ja Aa Aa _) (by rw[YS])) ?_;rintro w hF -;refine rn 9 ?_;refine Ba (v:=I<|(s.drop a).take (Hd smallB<|s.drop a)) (by rw[show (s.drop a).take (Hd smallB<|s.drop a)=(s.take<|a+(Hd smallB<|s.drop a)).drop a by rw[List.drop_take,Nat.add_sub_cancel_left]];exact Eh a (a+(Hd smallB<|s.drop a)) jX O O O Aa Aa) ?_;refine rn 10 ⟨λhc6=>?_,λhc6=>?_⟩;refine rn 9 ?_;have hns:Lib.indexByte [123,125,91,93,44,58] s[a]<0:=Fp λk hk=>hno k hk (by have:k<6:=hk;omega);have hb:¬blankB s[a]=true:=by rw[<-Ri];simpa using hc2
 have h34:¬s[a].toNat=34:=Aa
 rw[I0]at hc4;have hd:=of_decide_eq_false hc4;have hw:Ik ((s.drop a).take (Hd smallB<|s.drop a))=10:=by unfold Ik;rw[uQ hc6]
 have e:Xc s a s[a]=(⟨10,a,a+(Hd smallB<|s.drop a)⟩,0):=by unfold Xc;dsimp only;rw[tQ (show ¬0<=Lib.indexByte [123,125,91,93,44,58] s[a] by omega),tQ hb,tQ h34,tQ hd,hw,uQ Ja]
 rw[e];exact⟨10,O,λ_=>rfl,hF.same⟩;refine rn 7 ⟨λhc7=>?_,λhc7=>?_⟩;refine rn 9 ?_;have hns:Lib.indexByte [123,125,91,93,44,58] s[a]<0:=Fp λk hk=>hno k hk (by have:k<6:=hk;omega);have hb:¬blankB s[a]=true:=by rw[<-Ri];simpa using hc2
 have h34:¬s[a].toNat=34:=Aa
 rw[I0]at hc4;have hd:=of_decide_eq_false hc4;have hw:Ik ((s.drop a).take (Hd smallB<|s.drop a))=11:=by unfold Ik;rw[tQ hc6,uQ hc7]
 have e:Xc s a s[a]=(⟨11,a,a+(Hd smallB<|s.drop a)⟩,0):=by unfold Xc;dsimp only;rw[tQ (show ¬0<=Lib.indexByte [123,125,91,93,44,58] s[a] by omega),tQ hb,tQ h34,tQ hd,hw,uQ Ja]
 rw[e];exact⟨11,O,λ_=>rfl,hF.same⟩;refine rn 7 ⟨λhc8=>?_,λhc8=>?_⟩;refine rn 9 ?_;have hns:Lib.indexByte [123,125,91,93,44,58] s[a]<0:=Fp λk hk=>hno k hk (by have:k<6:=hk;omega);have hb:¬blankB s[a]=true:=by rw[<-Ri];simpa using hc2
 have h34:¬s[a].toNat=34:=Aa
 rw[I0]at hc4;have hd:=of_decide_eq_false hc4;have hw:Ik ((s.drop a).take (Hd smallB<|s.drop a))=12:=by unfold Ik;rw[tQ hc6,tQ hc7,uQ hc8]
 have e:Xc s a s[a]=(⟨12,a,a+(Hd smallB<|s.drop a)⟩,0):=by unfold Xc;dsimp only;rw[tQ (show ¬0<=Lib.indexByte [123,125,91,93,44,58] s[a] by omega),tQ hb,tQ h34,tQ hd,hw,uQ Ja]
 rw[e];exact⟨12,O,λ_=>rfl,hF.same⟩;refine rn 12 ?_;have hns:Lib.indexByte [123,125,91,93,44,58] s[a]<0:=Fp λk hk=>hno k hk (by have:k<6:=hk;omega);have hb:¬blankB s[a]=true:=by rw[<-Ri];simpa using hc2
 have h34:¬s[a].toNat=34:=Aa
 rw[I0]at hc4;have hd:=of_decide_eq_false hc4;have hw:Ik ((s.drop a).take (Hd smallB<|s.drop a))=0:=by unfold Ik;rw[tQ hc6,tQ hc7,tQ hc8]
 have e:Xc s a s[a]=(⟨0,a,a⟩,2):=by unfold Xc;dsimp only;rw[tQ (show ¬0<=Lib.indexByte [123,125,91,93,44,58] s[a] by omega),tQ hb,tQ h34,tQ hd,hw,tQ Ja]
 rw[e];exact⟨0,O,λ_=>rfl,hF.same⟩
def FW(s:Str)(hl:aL s<=100000000)(w0:World):Calls prog 118 #[I s] w0 (Za λv w'=>∃A c,v=.tuple #[.slice A (aL (Ib s).1) c,J ((Ib s).2.1:Nat),J (Ib s).2.2]/\Rep (Btw w0 w') w' (Le (Ib s).1) [.slice A (aL (Ib s).1) c]/\(∀y∈(Ib s).1,Ls y)/\Same [] w0 w'):=by
 refine Ea func118 ntmps118 ?_;intro hF;refine rn 16 ⟨λhc0=>?_,λhc0=>?_⟩;refine rn 8 ?_;have e:Ib s=([],0,3):=by rw[Ib,uQ Aa]
 rw[e];exact⟨none,0,O,Rep.nil_slice 0 Aa none,λy hy=>(by cases hy),hF.same⟩;refine rn 14<|Sa (λμ σ w=>∃(f:Nat),∃(a:Nat),∃(pre:List Tk),∃(A2:Option Addr),∃(c2:Nat),∃(sts:List (Nat × Obj)),μ=aL s-a/\(Dl f s a pre=Ib s/\aL s-a<f/\a<=aL s/\aL pre<=a)/\(∀y∈pre,Ls y)/\(SlB 140 3 A2 (aL pre) c2 (Fn.tkCs pre) sts)/\AllEq σ [(0,I s),(5,.slice A2 (aL pre) c2),(6,J<|(a:Int))]/\FR w0 [] ([]++(sts++[])) w) _ ⟨aL s+1,0,[],none,0,[],O,⟨by rw[Ib,tQ Aa],Aa,dZ _,gQ _⟩,(λy hy=>by cases hy),SlB.nil _ _,Va,hF⟩ ?_;rintro μ σ w ⟨f,a,pre,A2,c2,sts,rfl,hq,hok,hS,hzz,hF⟩;obtain⟨f,rfl⟩:∃g,f=g+1:=⟨f-1,Aa⟩;have hstep:=hq.1;rw[Dl]at hstep;refine Wf hzz 10 ⟨λhc1=>?_,λhc1=>?_⟩;refine rn 7 ?_;have hal:a<aL s:=Aa
 rw[uQ hal,DD hal]at hstep;refine Fc (rone_c s a Aa Aa _) ?_;rintro _ w ⟨kd,rfl,hkd,hE⟩;have hF:=hF.ext hE;refine rn 17 ⟨λhc2=>?_,λhc2=>?_⟩;refine rn 10 ?_;rw[tQ hc2]at hstep;rw[<-hstep,(UK s a s[a]).2 hc2];exact⟨none,0,O,Rep.nil_slice 0 Aa none,λy hy=>(by cases hy),hF.same⟩;have hz:(Xc s a s[a]).2=0:=Decidable.not_not.1 hc2;have hk:=hkd hz;rw[uQ hz]at hstep;have hto:=Oy hal (by rw[DD hal];exact hz);rw[DD hal]at hto;refine rn 8<|Ba (w':=w) (v:=.agg #[J<|(a:Int),J<|((Xc s a s[a]).1.t:Nat)]) Ua ?_;refine Ba (w':=w) (v:=.agg #[J kd,J<|(a:Int),J<|((Xc s a s[a]).1.t:Nat)]) Ua<|rn 1 ?_;rintro b1 w hb1 hF -;refine PK hS (len':=aL (pre++[(Xc s a s[a]).1])) (ys:=(Fn.tkCs<|pre++[(Xc s a s[a]).1])) Da (by rw[Fn.tkCs_snoc];simp only[Fn.tkC];rw[hto.2.2.1,<-hk]) ?_;intro A0 c0 ts_0 w hS0_ts hF hE hnew;refine rn 8 ?_;refine Ha ⟨_,?_,f,(Xc s a s[a]).1.t,pre++[(Xc s a s[a]).1],A0,c0,ts_0,O,(⟨hstep,Aa,hto.2.1,by rw[dQ];show (aL pre)+1<=_;omega⟩),λy hy=>(mQ.1 hy).elim (hok y) (λh=>by rw[pQ.1 h];exact⟨hto.2.2.2.1,hto.2.2.2.2,by rw[hto.2.2.1];exact hto.1,Aa⟩),hS0_ts,Va,hF.su⟩;omega;refine rn 12 ?_;rw[tQ Aa]at hstep;have has:a=aL s:=Aa
 subst has;rw[<-hstep];exact⟨A2,c2,O,SlB.rep (pre:=[]) (post:=[]) hS hF (RX.plain (ids:=[]) λS=>Fn.tk_reps _ hok) Da,hok,hF.same⟩
def Sp(s:Str)(Ar:Option Addr)(L:List Tk)(cr k:Nat)(p:Ps)(A:Option Addr)(c:Nat):List Value :=
  [I s,.slice Ar (aL L) cr,J (k:Nat),.slice A (aL p.nodes) c,J (p.at_:Nat),J p.err]
def VF{L:List Tk}{p:Ps}(hr:p.rest=L.drop k)(h:aL L<=k):p.kind=0:=by unfold Ps.kind;rw[hr,List.drop_eq_nil_of_le h]
def kind_at{L:List Tk}{p:Ps}(hr:p.rest=L.drop k)(h:k<aL L):p.kind=L[k].k:=by unfold Ps.kind;rw[hr,List.drop_eq_getElem_cons h]
def here_end{L:List Tk}{p:Ps}(hr:p.rest=L.drop k)(h:aL L<=k):p.here n=n:=by unfold Ps.here;rw[hr,List.drop_eq_nil_of_le h]
def here_at{L:List Tk}{p:Ps}(hr:p.rest=L.drop k)(h:k<aL L):p.here n=L[k].f:=by unfold Ps.here;rw[hr,List.drop_eq_getElem_cons h]
theorem FR.same_one{w0 w:World}{pb:Nat}(hF:FR w0 [pb] [(pb,o)] w)(hb:w0.heap[pb]? = some o):Same [] w0 w :=
  ⟨hF.same.os,hF.same.tape,hF.same.output,hF.same.size,λb h _=>if e:b=pb then (by subst e;rw[hF.heap (i:=0) rfl,hb]) else hF.same.block b h (aS e)⟩
def Qt(t:Int):Int:=if t=12 then 1 else if t=10\/t=11 then 2 else if t=9 then 3 else if t=8 then 4 else 0
theorem OV(k:Int)(w0:World):Calls prog 180 #[J k] w0 (Za λv w'=>v=J (Qt k)/\Same [] w0 w'):=by
  refine Ea func180 ntmps180 ?_;intro hF;refine rn 19 ⟨λhc0=>?_,λhc0=>?_⟩
  ·
   refine rn 6 ?_;exact⟨by unfold Qt;simp_all,hF.same⟩
  refine rn 8 ⟨λhc1=>?_,λhc1=>?_⟩
  ·
   refine rn 9 ?_;exact⟨by unfold Qt;simp_all,hF.same⟩
  refine rn 6 ⟨λhc2=>?_,λhc2=>?_⟩
  ·
   refine rn 6 ?_;exact⟨by unfold Qt;simp_all,hF.same⟩
  refine rn 7 ⟨λhc3=>?_,λhc3=>?_⟩
  ·
   refine rn 6 ?_;exact⟨by unfold Qt;simp_all,hF.same⟩
  refine rn 7 ⟨λhc4=>?_,λhc4=>?_⟩
  ·
   refine rn 6 ?_;exact⟨by unfold Qt;simp_all,hF.same⟩
  refine rn 9 ?_;exact⟨by unfold Qt;simp_all,hF.same⟩
def N4(s:Str)(L:List Tk)(p:Ps)(Ar A:Option Addr)(cr c k pb:Nat)(S:Nat->Prop)(w0:World)(hb:w0.heap[pb]? = some (.cells (Sp s Ar L cr k p A c).toArray 151))(hT:Rep S w0 (Le L) [.slice Ar (aL L) cr])(hS:∀b,S b->b≠pb)(hr:p.rest=L.drop k)(hk:k<=aL L)(hLl:aL L<=100000000):Calls prog 181 #[V pb] w0 (Za λv w'=>v=J p.kind/\Same [] w0 w'):=by
 refine Lb func181 ntmps181 O O ?_;have hF:FR w0 [pb] [(pb,.cells #[I s,.slice Ar (aL L) cr,J<|(k:Nat),.slice A (aL p.nodes) c,J<|(p.at_:Nat),J p.err] 151)] w0:=FR.open_ jK Da;refine rn 7<|Rb (zs:=.of []) (bQ [0,1,2,3,4,5,6,7,8,9] .nil) hF ?_;intro w hF;refine rn 13 ⟨λhc0=>?_,λhc0=>?_⟩;refine rn 6 ?_;rw[VF hr Aa];exact⟨O,hF.same_one hb⟩;refine rn 3 ?_;have hkl:k<aL L:=Aa
 obtain⟨ad,hA,hSa,hkk⟩:=hT.tok_at hkl;refine Rb (zs:=.of []) (bQ [0,1,2,3,4,5,6,7,8,9,10,11] .nil) hF ?_;intro w hF;refine rn 8<|Ga O (v:=.pointer<|some<|ad.add<|k*3) (λw hC=>Ca (i:=(k:Int)) Xi hA)<|Ga O (v:=.pointer<|some<|(ad.add<|k*3).add 0) (λw hC=>Oa (a:=ad.add<|k*3) Jy) ?_;refine Ga O (v:=J<|L[k].k) (λw hC=>Xa pZ (hx:=O)<|hC.cellsE bH hkk 0<|Nat.zero_lt_succ _)<|rn 4 ?_;rw[kind_at hr hkl];exact⟨O,hF.same_one hb⟩
def YB(s:Str)(L:List Tk)(p:Ps)(Ar A:Option Addr)(cr c k pb:Nat)(S:Nat->Prop)(w0:World)(hb:w0.heap[pb]? = some (.cells (Sp s Ar L cr k p A c).toArray 151))(hT:Rep S w0 (Le L) [.slice Ar (aL L) cr])(hS:∀b,S b->b≠pb)(hr:p.rest=L.drop k)(hk:k<=aL L)(hLl:aL L<=100000000):Calls prog 183 #[V pb] w0 (Za λv w'=>v=J (p.here (aL s):Nat)/\Same [] w0 w'):=by
 refine Lb func183 ntmps183 O O ?_;have hF:FR w0 [pb] [(pb,.cells #[I s,.slice Ar (aL L) cr,J<|(k:Nat),.slice A (aL p.nodes) c,J<|(p.at_:Nat),J p.err] 151)] w0:=FR.open_ jK Da;refine rn 7<|Rb (zs:=.of []) (bQ [0,1,2,3,4,5,6,7,8,9] .nil) hF ?_;intro w hF;refine rn 13 ⟨λhc0=>?_,λhc0=>?_⟩;refine rn 11 ?_;rw[here_end hr Aa];exact⟨O,hF.same_one hb⟩;refine rn 3 ?_;have hkl:k<aL L:=Aa
 obtain⟨ad,hA,hSa,hkk⟩:=hT.tok_at hkl;refine Rb (zs:=.of []) (bQ [0,1,2,3,4,5,6,7,8,9,10,11,12] .nil) hF ?_;intro w hF;refine rn 8<|Ga O (v:=.pointer<|some<|ad.add<|k*3) (λw hC=>Ca (i:=(k:Int)) Xi hA)<|Ga O (v:=.pointer<|some<|(ad.add<|k*3).add 1) (λw hC=>Oa (a:=ad.add<|k*3) Fi)<|Ga O (v:=.pointer<|some<|((ad.add<|k*3).add 1).add 0) (λw hC=>Oa (a:=(ad.add<|k*3).add 1) Zx) ?_;refine Ga O (v:=J<|(L[k].f:Nat)) (λw hC=>Xa pZ (hx:=O)<|Sc (hC.cellsE bH hkk) 1 (l:=[J (L[k].f:Nat),J (L[k].t:Nat)]) O 0<|Nat.zero_lt_succ _)<|rn 4 ?_;rw[here_at hr hkl];exact⟨O,hF.same_one hb⟩
def Qx(s:Str)(L:List Tk)(p:Ps)(Ar A:Option Addr)(cr c k pb:Nat)(S:Nat->Prop)(e:Int)(w0:World)(hb:w0.heap[pb]? = some (.cells (Sp s Ar L cr k p A c).toArray 151))(hT:Rep S w0 (Le L) [.slice Ar (aL L) cr])(hS:∀b,S b->b≠pb)(hr:p.rest=L.drop k)(hk:k<=aL L)(hLl:aL L<=100000000):Calls prog 120 #[V pb,J e] w0 (Za λv w'=>v=.bool false/\w'.heap[pb]? = some (.cells (Sp s Ar L cr k (p.fail (aL s) e) A c).toArray 151)/\Same [pb] w0 w'):=by
 refine Lb func120 ntmps120 O O ?_;have hF:FR w0 [pb] [(pb,.cells #[I s,.slice Ar (aL L) cr,J<|(k:Nat),.slice A (aL p.nodes) c,J<|(p.at_:Nat),J p.err] 151)] w0:=FR.open_ jK Da;refine rn 9<|Ia (YB s L p Ar A cr c k pb S _ (hF.heap (i:=0) O) (hT.same hF.same λb hb hs=>hS b hs (aS hb)) hS hr hk hLl) ?_;rintro w hF -;refine rn 3 ?_;rintro w hF -;refine rn 9 ?_;rintro w hF -;refine rn 8 ?_;exact⟨O,hF.heap (i:=0) O,hF.same⟩
def AtK(L:List Tk)(k:Nat)(p:Ps):Prop:=p.rest=L.drop k/\k<=aL L/\∀j,k=j+1->∃h:j<aL L,L[j].f=p.lf/\L[j].t=p.lt
def AtK.skip{L:List Tk}{p:Ps}(h:AtK L k p)(hk:k<aL L):AtK L (k+1) p.skip:=by
  have hr:p.rest=L[k]::L.drop (k+1):=by rw[h.1];exact List.drop_eq_getElem_cons hk
  have e:p.skip = { p with lf:=L[k].f,lt:=L[k].t,rest:=L.drop (k+1) }:=by unfold Ps.skip;rw[hr]
  rw[e];exact⟨rfl,hk,λj hj=>by obtain rfl:k=j:=Aa;exact⟨hk,rfl,rfl⟩⟩
def AtK.fail{L:List Tk}{e:Int}{p:Ps}(h:AtK L k p):AtK L k (p.fail n e):=h
structure Jk (S:Nat->Prop) (w:World) (ex sm:List (Nat × Obj)) (pb:Nat) (s:Str) (L:List Tk) (p:Ps):Prop where
  parts:∃(k:Nat)(A Ar:Option Addr)(c cr:Nat)(sl:List (Nat × Obj))(vals:List Value)(sb:List (Nat × Obj)),sm=(pb,.cells (Sp s Ar L cr k p A c).toArray 151)::(sl++sb)/\SlB 145 7 A (aL p.nodes) c vals sl/\NdsAt 3 136 p.nodes vals sb/\Rep S w (Le L) [.slice Ar (aL L) cr]/\AtK L k p
  off:Off S w (ex++sm)
  pw:(ex++sm).Pairwise (λp q=>q.1≠p.1)
  hh:∀q∈ex++sm,w.heap[q.1]? = some q.2
section
variable {S:Nat->Prop}{w w' w0:World}{ex own sm sm0 sm1 sm' pre post bs_:List (Nat × Obj)}{pb:Nat}{s:Str}{L:List Tk}{p p':Ps}{E Ds:List Nat}
def Jk.frame(h:Jk S w ex sm pb s L p)(h':Jk S w' [] sm' pb s L p')(hm:Mc w sm w' sm'):Jk S w' ex sm' pb s L p'/\Mc w (ex++sm) w' (ex++sm'):=by
  have hp:=List.pairwise_append.1 h.pw;have hex:∀q∈ex,q.1∉ids sm:=λq hq hi=>by
    obtain⟨r,hr,e⟩:=nQ.1 hi;exact hp.2.2 q hq r hr e
  have hlt:∀q∈ex,q.1<w.heap.size:=λq hq=>Pa<|h.hh q<|List.mem_append_left _ hq;have hheap:∀q∈ex,w'.heap[q.1]? = some q.2:=λq hq=>(hm.same.block q.1 (hlt q hq)<|hex q hq).trans (h.hh q<|List.mem_append_left _ hq);have hx:∀q∈ex,∀r∈sm',r.1≠q.1:=λq hq r hr e=>by
    rcases hm.fresh r hr with h1|h1
    ·have:=hlt q hq;omega
    exact hex q hq<|e▸h1
  refine⟨⟨h'.parts,λx hx1=>⟨(h'.off x hx1).1,λhi=>?_⟩,?_,λq hq=>?_⟩,?_,λq hq=>?_⟩
  ·unfold ids at hi
   rw[jQ]at hi;rcases mQ.1 hi with h1|h1
   ·exact (h.off x hx1).2 (by unfold ids;rw[jQ];exact List.mem_append_left _ h1)
   exact (h'.off x hx1).2 (by simpa[ids]using h1)
  ·exact List.pairwise_append.2 ⟨hp.1,by simpa using h'.pw,λq hq r hr=>hx q hq r hr⟩
  ·rcases mQ.1 hq with h1|h1
   ·exact hheap q h1
   exact h'.hh q (aS h1)
  ·exact hm.same.mono kH
  rcases mQ.1 hq with h1|h1
  ·exact .inr wH
  rcases hm.fresh q h1 with h2|h2
  ·exact .inl h2
  exact .inr (by unfold ids at h2 ⊢;rw[jQ];exact kZ _ h2)
def Jk.ext(h:Jk S w ex sm pb s L p)(hE:Same [] w w'):Jk S w' ex sm pb s L p:=by
  obtain⟨k,A,Ar,c,cr,sl,vals,sb,h1,h2,h3,h4⟩:=h.parts;exact⟨⟨k,A,Ar,c,cr,sl,vals,sb,h1,h2,h3,h4.1.ext hE,h4.2⟩,λb hb=>⟨Nat.lt_of_lt_of_le (h.off b hb).1 hE.size,(h.off b hb).2⟩,h.pw,λq hq=>(hE.block q.1 (Pa<|h.hh q hq) Da).trans (h.hh q hq)⟩
def Jk.head{c:Nat}(hq:p'.nodes=p.nodes)(hoff:Off S w (ex++(pb,o)::(sl++sb)))(hpw:(ex++(pb,o)::(sl++sb)).Pairwise (λp q=>q.1≠p.1))(hh:∀q∈ex++(pb,o)::(sl++sb),w.heap[q.1]? = some q.2)
    (h1:SlB 145 7 A (aL p.nodes) c vals sl) (h2:NdsAt 3 136 p.nodes vals sb) (hb:w'.heap[pb]? = some (.cells (Sp s Ar L cr k p' A c).toArray 151)) (hE:Same [pb] w w') (h3:Rep S w' (Le L) [.slice Ar (aL L) cr]/\AtK L k p') :
    ∃sm',Jk S w' ex sm' pb s L p'/\Mc w (ex++(pb,o)::(sl++sb)) w' (ex++sm'):=by
  have hids:ids (ex++(pb,Obj.cells (Sp s Ar L cr k p' A c).toArray 151)::(sl++sb))=ids (ex++(pb,o)::(sl++sb)):=by simp[ids]
  have hpm:pb∈ids (ex++(pb,o)::(sl++sb)):=by simp[ids]
  have hne:∀q∈ex++(sl++sb),q.1≠pb:=λq hq e=>by
    have hp:=List.pairwise_append.1 hpw;rcases mQ.1 hq with h|h
    ·exact hp.2.2 q h (pb,o) aZ e.symm
    exact (List.pairwise_cons.1 hp.2.1).1 q h e
  refine⟨(pb,.cells (Sp s Ar L cr k p' A c).toArray 151)::(sl++sb),⟨⟨k,A,Ar,c,cr,sl,vals,sb,rfl,hq▸h1,hq▸h2,h3⟩,?_,?_,?_⟩,hE.mono (by intro b hb _;rw[pQ.1 hb];exact hpm),λq hq=>.inr (by rw[<-hids];exact List.mem_map_of_mem hq)⟩
  ·intro b hb'
   rw[hids];exact⟨Nat.lt_of_lt_of_le (hoff b hb').1 hE.size,(hoff b hb').2⟩
  ·have hp := List.pairwise_append.1 hpw
   have hc:=List.pairwise_cons.1 hp.2.1;exact List.pairwise_append.2 ⟨hp.1,List.pairwise_cons.2 ⟨hc.1,hc.2⟩,λq hq r hr=>by
     rcases oQ.1 hr with rfl|hr
     ·exact hp.2.2 q hq (pb,o) aZ
     exact hp.2.2 q hq r<|iZ _ hr⟩
  intro q hq;have:q=(pb,Obj.cells (Sp s Ar L cr k p' A c).toArray 151)\/q∈ex++(sl++sb):=by
    rcases mQ.1 hq with h|h
    ·exact .inr<|List.mem_append_left _ h
    rcases oQ.1 h with h|h
    ·exact .inl h
    exact .inr<|kZ _ h
  rcases this with rfl|h
  ·exact hb
  have hm:q∈ex++(pb,o)::(sl++sb):=by
    rcases mQ.1 h with h|h
    ·exact List.mem_append_left _ h
    exact kZ _<|iZ _ h
  exact (hE.block q.1 (Pa<|hh q hm) (by simpa using hne q h)).trans (hh q hm)
def Jkr(S:Nat->Prop)(ex:List (Nat × Obj))(sm:List (Nat × Obj))(pb:Nat)(s:Str)(L:List Tk)(w0:World)(b:Bool)(p:Ps)(v:Value)(w':World):Prop:=v=.bool b/\∃sm',Jk S w' ex sm' pb s L p/\Mc w0 (ex++sm) w' (ex++sm')
def Jk.open_(h:Jk S w ex sm pb s L p)(hn:n<aL p.nodes):∃(k:Nat)(Ar:Option Addr)(cr g c:Nat)(v1 v2 junk:List Value)(K Q:Option Addr)(kc qc:Nat)(s1 sk sq s2:List (Nat × Obj)),
    sm=(pb,.cells (Sp s Ar L cr k p (some ⟨g,0,none⟩) c).toArray 151)::((g,.cells (v1++(Ai p.nodes[n] K kc Q qc++(v2++junk))).toArray 145)::(s1++(sk++(sq++s2))))/\aL v1=n*7/\NdsAt 3 136 (p.nodes.take n) v1 s1 /\
    SlB 3 1 K (aL p.nodes[n].kids) kc (p.nodes[n].kids.map (Value.int .i64)) sk/\SlB 136 2 Q (aL p.nodes[n].pcs) qc (NK p.nodes[n].pcs) sq/\NdsAt 3 136 (p.nodes.drop (n+1)) v2 s2 /\
    (aL p.nodes)<=c/\c<=maxLen/\aL (v1++(Ai p.nodes[n] K kc Q qc++(v2++junk)))=c*7/\Rep S w (Le L) [.slice Ar (aL L) cr]/\AtK L k p:=by
  obtain⟨k,A,Ar,c,cr,sl,vals,sb,rfl,h1,h2,h3⟩:=h.parts;obtain⟨K,Q,kc,qc,v1,v2,s1,sk,sq,s2,rfl,rfl,g1,g2,g3,g4⟩:=h2.split hn;rcases h1.2 with ⟨h0,-,-⟩|⟨g,cur,rfl,rfl,h4,h5,h6,h7⟩
  ·omega
  have e:cur.toList=v1++(Ai p.nodes[n] K kc Q qc++(v2++cur.toList.drop (aL p.nodes*7))):=by
    have:=Cx h7;rw[sQ,sQ]at this;exact this
  have ec:cur=(v1++(Ai p.nodes[n] K kc Q qc++(v2++cur.toList.drop (aL p.nodes*7)))).toArray:=by rw[<-e]
  refine⟨k,Ar,cr,g,c,v1,v2,cur.toList.drop<|aL p.nodes*7,K,Q,kc,qc,s1,sk,sq,s2,by rw[<-ec];rfl,?_,g1,g2,g3,g4,h4,h5,?_,h3⟩
  ·have := g1.len
   rw[this,jZ];congr 1;omega
  rw[<-e];simpa using h6
theorem Jk.toFrame{sm0:List (Nat × Obj)}(h:Jk S w ex sm pb s L p)(hM:Mc w0 sm0 w (ex++sm)):FR w0 (ids sm0) (ex++sm) w:=⟨hM.same,λq hq=>⟨h.hh q hq,hM.fresh q hq⟩,h.pw⟩
def Jk.ofFrame{own sm0:List (Nat × Obj)}(hF:FR w0 (ids sm0) bs_ w)(h0:Off S w0 sm0)(hp:bs_.Perm (own++(ex++sm)))(hparts:∃(k:Nat) (A Ar:Option Addr) (c cr:Nat) (sl:List (Nat × Obj)) (vals:List Value) (sb:List (Nat × Obj)),sm=(pb,.cells (Sp s Ar L cr k p A c).toArray 151)::(sl++sb)/\SlB 145 7 A (aL p.nodes) c vals sl/\NdsAt 3 136 p.nodes vals sb/\Rep S w (Le L) [.slice Ar (aL L) cr]/\AtK L k p) :
    Jk S w ex sm pb s L p/\Mc w0 sm0 w (ex++sm):=by
  have hF2:=hF.perm hp.symm;have hd:=List.pairwise_append.1 hF2.desc;refine⟨⟨hparts,λb hb=>⟨Nat.lt_of_lt_of_le (h0 b hb).1 hF.same.size,λhm=>?_⟩,hd.2.1,λq hq=>(hF2.own q<|kZ _ hq).1⟩,hF.same,λq hq=>(hF2.own q<|kZ _ hq).2⟩;obtain⟨q,hq,rfl⟩:=nQ.1 hm;rcases (hF2.own q<|kZ _ hq).2 with h3|h3
  ·have:=(h0 _ hb).1;omega
  exact (h0 _ hb).2 h3
end
section
variable {S:Nat->Prop}{w:World}{ex sm:List (Nat × Obj)}{pb:Nat}{s:Str}{L:List Tk}{p:Ps}
def Eu(h:Jk S w ex sm pb s L p)(hL:aL L<=100000000):Calls prog 181 #[V pb] w (Za λv w'=>v=J p.kind/\Same [] w w'):=by
  obtain⟨k,A,Ar,c,cr,sl,vals,sb,rfl,h1,h2,h3,h4⟩:=h.parts;exact N4 s L p Ar A cr c k pb S w (h.hh _<|kZ _ aZ) h3 (Rp h.off) h4.1 h4.2.1 hL
def rhere_p(h:Jk S w ex sm pb s L p)(hL:aL L<=100000000):Calls prog 183 #[V pb] w (Za λv w'=>v=J (p.here (aL s):Nat)/\Same [] w w'):=by
  obtain⟨k,A,Ar,c,cr,sl,vals,sb,rfl,h1,h2,h3,h4⟩:=h.parts;exact YB s L p Ar A cr c k pb S w (h.hh _<|kZ _ aZ) h3 (Rp h.off) h4.1 h4.2.1 hL
def Gt(h:Jk S w ex sm pb s L p)(hL:aL L<=100000000)(e:Int):Calls prog 120 #[V pb,J e] w (Za λv w'=>Jkr S ex sm pb s L w false (p.fail (aL s) e) v w'):=by
  obtain⟨k,A,Ar,c,cr,sl,vals,sb,rfl,h1,h2,h3,h4⟩:=h.parts;have ho:=Rp h.off;refine Gg (Qx s L p Ar A cr c k pb S e w (h.hh _<|kZ _ aZ) h3 ho h4.1 h4.2.1 hL) ?_;rintro v w' ⟨rfl,hb,hE⟩;exact⟨O,Jk.head (p:=p) O h.off h.pw h.hh h1 h2 hb hE ⟨h3.same hE λb hb hs=>ho b hs (aS hb),h4.fail⟩⟩
end
def N6(s:Str)(Ar:Option Addr)(L:List Tk)(cr k:Nat)(p:Ps)(A:Option Addr)(c:Nat):Sp s Ar L cr k p.skip A c=Sp s Ar L cr k p A c:=by
  unfold Sp Ps.skip;cases p.rest <;> rfl
def B4{L:List Tk}{kd:Int}{p:Ps}(hr:p.rest=L.drop k)(h:p.kind=kd)(h0:kd≠0):k<aL L:=by
  rcases Nat.lt_or_ge k (aL L) with h1|h1
  ·exact h1
  rw[VF hr h1]at h;exact absurd h.symm h0
def rsign_c(s:Str)(L:List Tk)(p:Ps)(Ar A:Option Addr)(cr c k pb:Nat)(S:Nat->Prop)(kd:Int)(hk0:kd≠0)(w0:World)(hb:w0.heap[pb]? = some (.cells (Sp s Ar L cr k p A c).toArray 151))(hT:Rep S w0 (Le L) [.slice Ar (aL L) cr])(hS:∀b,S b->b≠pb)(hr:p.rest=L.drop k)(hk:k<=aL L)(hLl:aL L<=100000000):Calls prog 268 #[V pb,J kd] w0 (Za λv w'=>(p.kind≠kd/\v=.bool false/\w'.heap[pb]? = some (.cells (Sp s Ar L cr k (p.fail (aL s) 2) A c).toArray 151)/\Same [pb] w0 w')\/(p.kind=kd/\v=.bool true/\w'.heap[pb]? = some (.cells (Sp s Ar L cr (k+1) p.skip A c).toArray 151)/\Same [pb] w0 w')):=by
 refine Lb func268 ntmps268 O O ?_;have hF:FR w0 [pb] [(pb,.cells #[I s,.slice Ar (aL L) cr,J<|(k:Nat),.slice A (aL p.nodes) c,J<|(p.at_:Nat),J p.err] 151)] w0:=FR.open_ jK Da;refine rn 9<|Ia (N4 s L p Ar A cr c k pb S _ (hF.heap (i:=0) O) (hT.same hF.same λb hb hs=>hS b hs (aS hb)) hS hr hk hLl) ?_;rintro w hF -;refine rn 5 ⟨λhc0=>?_,λhc0=>?_⟩;refine rn 3<|Fc (Qx s L p Ar A cr c k pb S 2 _ (hF.heap (i:=0) O) (hT.same hF.same λb hb hs=>hS b hs (aS hb)) hS hr hk hLl) ?_;rintro v w ⟨rfl,hb2,hE⟩;have hF:=hF.change 0 rfl hE hb2;refine rn 4 ?_;exact .inl ⟨hc0,O,hF.heap (i:=0) O,hF.same⟩;refine rn 8<|Zb (Wd<|((k+1:Nat):Int)) ?_;refine rn 3 ?_;rintro w hF -;refine rn 8<|.inr ⟨Decidable.not_not.1 hc0,O,?_,hF.same⟩;rw[N6];exact hF.heap (i:=0) O
def Ek(s:Str)(p:Ps)(had:List Str):(Str × Nat × Nat × Bool) × Ps :=
  match p.rest with
  | []=>(([],0,0,false),p.fail (aL s) 2)
  | t::_=>if t.k≠8 then (([],0,0,false),p.fail (aL s) 2) else if Mo s t∈had then (([],0,0,false),p.fail (aL s) 7) else if p.skip.kind=7 then ((Mo s t,t.f,t.t,true),p.skip.skip) else ((Mo s t,t.f,t.t,false),p.skip.fail (aL s) 2)
def K1{s:Str}{p:Ps}(h:¬p.kind=8):Ek s p had=(([],0,0,false),p.fail (aL s) 2):=by
  unfold Ek;cases hr:p.rest with
  | nil=>rfl
  | cons t r=>unfold Ps.kind at h;rw[hr]at h;exact uQ h
def I8{s:Str}{p:Ps}{t:Tk}(hr:p.rest=t::r)(h8:t.k=8)(h:Mo s t∈had):Ek s p had=(([],0,0,false),p.fail (aL s) 7):=by
  unfold Ek;simp only[hr];rw[tQ λe=>e h8,uQ h]
def T0{s:Str}{p:Ps}{t:Tk}(hr:p.rest=t::r)(h8:t.k=8)(h:¬Mo s t∈had):Ek s p had=((Mo s t,t.f,t.t,decide (p.skip.kind=7)),if p.skip.kind=7 then p.skip.skip else p.skip.fail (aL s) 2):=by
  unfold Ek;simp only[hr];rw[tQ λe=>e h8,tQ h];by_cases h7:p.skip.kind=7
  ·rw[uQ h7,uQ h7,gZ h7]
  rw[tQ h7,tQ h7,fZ h7]
def AM(s:Str)(val:Nat->Nat->Ps->Bool × Ps)(p:Ps)(had:List Str):(Ek s p had).1.2.2.2=true->Mb s val (p,had)=((val (Ek s p had).1.2.1 (Ek s p had).1.2.2.1 (Ek s p had).2).1,(val (Ek s p had).1.2.1 (Ek s p had).1.2.2.1 (Ek s p had).2).2,(Ek s p had).1.1::had):=by
  by_cases h8:p.kind=8
  ·obtain⟨t, r, hr⟩ := Hn (show ¬ Tc p.kind = 0 by rw[h8];decide)
   have ht:t.k=8:=(Si hr).symm.trans h8;by_cases hh:Mo s t∈had
   ·rw[I8 hr ht hh];exact λh=>zX
   rw[T0 hr ht hh, Zm hr ht hh];by_cases h7:p.skip.kind=7
   ·have k7 : ¬ (p.skip.kind ≠ 7) := λe => e h7
    rw[tQ k7,uQ h7];exact λ_=>rfl
   rw[fZ h7];exact λh=>zX
  rw[K1 h8];exact λh=>zX
section
variable {S:Nat->Prop}{w w' w0:World}{ex ex1 ex2 own dr sh sm sm0 sm1 bs_:List (Nat × Obj)}{pb:Nat}{s:Str}{L:List Tk}{p p':Ps}
def Jk.renew(h:Jk S w ex1 sm pb s L p)(hM:Mc w0 sm0 w (ex1++sm))(hF:FR w0 (ids sm0) bs_ w')(h0:Off S w0 sm0)(hp:bs_.Perm (own++(ex2++sm))):Jk S w' ex2 sm pb s L p/\Mc w0 sm0 w' (ex2++sm) :=
  Jk.ofFrame hF h0 hp (by obtain⟨k,A,Ar,c,cr,sl,vals,sb,h1,h2,h3,h4,h5⟩:=h.parts;exact⟨k,A,Ar,c,cr,sl,vals,sb,h1,h2,h3,(h4.backS (h.toFrame hM) h0).fwdS hF h0,h5⟩)
theorem Jk.toF(h:Jk S w (own++(sh++ex)) sm pb s L p)(hM:Mc w0 sm0 w ((own++(sh++ex))++sm)):FR w0 (ids sm0) (own++(sh++(ex++(sm++[])))) w:=(h.toFrame hM).perm Da
def Jk.openN(h:Jk S w (own++(sh++ex)) sm pb s L p)(hM:Mc w0 sm0 w ((own++(sh++ex))++sm))(h0:Off S w0 sm0):∃(k:Nat)(A Ar:Option Addr)(c cr:Nat)(sl:List (Nat × Obj))(vals:List Value)(sb:List (Nat × Obj)),
    FR w0 (ids sm0) ((own++[(pb,.cells (Sp s Ar L cr k p A c).toArray 151)])++(sh++(ex++(sl++(sb++[]))))) w/\SlB 145 7 A (aL p.nodes) c vals sl/\NdsAt 3 136 p.nodes vals sb/\Rep S w0 (Le L) [.slice Ar (aL L) cr]/\AtK L k p:=by
  obtain⟨k,A,Ar,c,cr,sl,vals,sb,e,h1,h2,h3,h4⟩:=h.parts;have hF:=h.toFrame hM;refine⟨k,A,Ar,c,cr,sl,vals,sb,hF.perm ?_,h1,h2,h3.backS hF h0,h4⟩;subst e;simp only[qQ,sQ];refine List.Perm.append_left own ?_;exact (List.perm_append_comm_assoc [_] sh _).trans (List.Perm.append_left sh<|List.perm_append_comm_assoc [_] ex _)
def Jk.closeN{c:Nat}(hF:FR w0 (ids sm0) ((dr++(own++[(pb,.cells (Sp s Ar L cr k p A c).toArray 151)]))++(sh++(ex++(sl++(sb++[]))))) w)(h0:Off S w0 sm0)(h1:SlB 145 7 A (aL p.nodes) c vals sl)(h2:NdsAt 3 136 p.nodes vals sb)(h3:Rep S w0 (Le L) [.slice Ar (aL L) cr])(h4:AtK L k p) :
    ∃sm',Jk S w (own++(sh++ex)) sm' pb s L p/\Mc w0 sm0 w ((own++(sh++ex))++sm'):=by
  refine⟨(pb,.cells (Sp s Ar L cr k p A c).toArray 151)::(sl++sb),Jk.ofFrame (own:=dr) hF h0 ?_ ⟨k,A,Ar,c,cr,sl,vals,sb,O,h1,h2,h3.fwdS hF h0,h4⟩⟩;simp only[qQ,sQ];refine List.Perm.append_left dr<|List.Perm.append_left own ?_;exact (List.perm_append_comm_assoc [_] sh _).trans (List.Perm.append_left sh<|List.perm_append_comm_assoc [_] ex _)
def Jk.openD(h:Jk S w (own++(sh++ex)) sm pb s L p)(hM:Mc w0 sm0 w ((own++(sh++ex))++sm))(h0:Off S w0 sm0)(hn:n<aL p.nodes):∃(k:Nat)(Ar:Option Addr)(cr g c:Nat)(v1 v2 junk:List Value)(K Q:Option Addr)(kc qc:Nat)(s1 sk sq s2:List (Nat × Obj)),
    FR w0 (ids sm0) ((own++[(pb,.cells (Sp s Ar L cr k p (some ⟨g,0,none⟩) c).toArray 151),(g,.cells (v1++(Ai p.nodes[n] K kc Q qc++(v2++junk))).toArray 145)])++(sh++(ex++(s1++(sk++(sq++(s2++[])))))) ) w/\aL v1=n*7/\NdsAt 3 136 (p.nodes.take n) v1 s1 /\
    SlB 3 1 K (aL p.nodes[n].kids) kc (p.nodes[n].kids.map (Value.int .i64)) sk/\SlB 136 2 Q (aL p.nodes[n].pcs) qc (NK p.nodes[n].pcs) sq/\NdsAt 3 136 (p.nodes.drop (n+1)) v2 s2 /\
    (aL p.nodes)<=c/\c<=maxLen/\aL (v1++(Ai p.nodes[n] K kc Q qc++(v2++junk)))=c*7/\Rep S w0 (Le L) [.slice Ar (aL L) cr]/\AtK L k p:=by
  obtain⟨k,Ar,cr,g,c,v1,v2,junk,K,Q,kc,qc,s1,sk,sq,s2,e,h1,h2,h3,h4,h5,h6,h7,h8,h9,h10⟩:=h.open_ hn;have hF:=h.toFrame hM;refine⟨k,Ar,cr,g,c,v1,v2,junk,K,Q,kc,qc,s1,sk,sq,s2,hF.perm ?_,h1,h2,h3,h4,h5,h6,h7,h8,h9.backS hF h0,h10⟩;subst e;simp only[qQ,sQ];refine List.Perm.append_left own ?_;exact (List.perm_append_comm_assoc [_,_] sh _).trans (List.Perm.append_left sh<|List.perm_append_comm_assoc [_,_] ex _)
def Jk.closeD{c g:Nat}{K Q:Option Addr}{kc qc:Nat}{v1 v2 junk:List Value}{s1 sk sq s2:List (Nat × Obj)}{x:Nd}(hF:FR w0 (ids sm0) ((dr++(own++[(pb,.cells (Sp s Ar L cr k p (some ⟨g,0,none⟩) c).toArray 151),(g,.cells (v1++(Ai x K kc Q qc++(v2++junk))).toArray 145)]))++(sh++(ex++(s1++(sk++(sq++(s2++[]))))))) w)(h0:Off S w0 sm0)
    (hn:n<aL p.nodes) (hv1:aL v1=n*7) (g1:NdsAt 3 136 (p.nodes.take n) v1 s1) (g2:SlB 3 1 K (aL x.kids) kc (x.kids.map (Value.int .i64)) sk) (g3:SlB 136 2 Q (aL x.pcs) qc (NK x.pcs) sq) (g4:NdsAt 3 136 (p.nodes.drop (n+1)) v2 s2) (hc:aL p.nodes<=c) (hm:c<=maxLen) (hlen:aL (v1++(Ai x K kc Q qc++(v2++junk)))=c*7)
    (h3:Rep S w0 (Le L) [.slice Ar (aL L) cr]) (h4:AtK L k p) (hp:p' = { p with nodes:=p.nodes.set n x }):∃sm',Jk S w (own++(sh++ex)) sm' pb s L p'/\Mc w0 sm0 w ((own++(sh++ex))++sm'):=by
  have hq:=Ss (g:=g) (junk:=junk) hn hv1 g1 g2 g3 g4 hc hm hlen;subst hp;refine⟨(pb,.cells (Sp s Ar L cr k p (some ⟨g,0,none⟩) c).toArray 151)::([(g,.cells (v1++(Ai x K kc Q qc++(v2++junk))).toArray 145)]++(s1++(sk++(sq++s2)))),Jk.ofFrame (own:=dr) hF h0 ?_ ⟨k,some ⟨g,0,none⟩,Ar,c,cr,_,_,_,by simp only[Sp,List.length_set],hq.1,hq.2,h3.fwdS hF h0,h4⟩⟩;simp only[qQ,sQ];refine List.Perm.append_left dr<|List.Perm.append_left own ?_;exact (List.perm_append_comm_assoc [_,_] sh _).trans (List.Perm.append_left sh<|List.perm_append_comm_assoc [_,_] ex _)
end
def Rep.str_at{S:Nat->Prop}{w:World}{l:List Str}{len c:Nat}(h:Rep S w (Ee l) [.slice A len c]){i:Nat}(hi:i<aL l) :
    ∃ad,A=some ad/\S (ad.add (i*1)).block/\w.cell? (ad.add (i*1))=some (I (l[i])):=by
  obtain⟨ad,hA,hk,-⟩:=h.str_elem hi;refine⟨ad,hA,?_,hk⟩;obtain⟨A',c',e,-,-,hr⟩:=Rep.slice_inv h;simp only[List.cons.injEq,Value.slice.injEq,and_true]at e;obtain⟨rfl,-,rfl⟩:=e;obtain⟨ad',e2,es,hc,hl⟩:=hr (λe=>by have:=yQ List.length e;simp at this;rw[this]at hi;cases hi);subst hA;obtain rfl:=lQ e2;have hne:0<aL es:=by
    cases l with
    | nil=>cases hi
    | cons x xs=>obtain⟨c1,c2,rfl,h1,-⟩:=RepL.cons_inv hl;obtain⟨rfl,-⟩:=Rep.str_inv h1;simp
  rw[Tb];exact (hc 0 hne).2
theorem FR.cellO{w0 w:World}{E:List Nat}{bs_:List (Nat × Obj)}(hF:FR w0 E bs_ w)(h:w0.cell? a=some v)(hb:a.block∉E):w.cell? a=some v:=by
  rw[<-h];exact World.cell?_of_block (w:=w0)<|hF.same.block _ (World.block_lt_of_cell? _ _ h) hb
def GD{P:Program}{s:Nat->Value}{w:World}{fn:Func}{t T u x:Nat}{l:List Value}{m:Nat}{y:Value}(h:fn.results=#[.tmp u,.cell t T,.tmp x])(hv:ev n s (.tmp u)=v)(hx:ev n s (.tmp t)=.pointer (some a))(ha:∀w,(isAgg T).run P w=.ok true w)(hs:∀w,(sizeOf T).run P w=.ok m w)(hm:aL l=m)
    (hc:∀j (h:j<aL l),w.cell? (a.add j)=some l[j]) (hy:ev n s (.tmp x)=y):(results fn (Bi n s).tmps).run P w=.ok (.tuple #[v,.agg l.toArray,y]) w:=by
  have h1:=Ke n s t;have h2:=Ke n s u;have h3:=Ke n s x;rw[hx,Array.getD_eq_getD_getElem?]at h1;rw[hv,Array.getD_eq_getD_getElem?]at h2;rw[hy,Array.getD_eq_getD_getElem?]at h3;simp[results,h,h1,h2,h3,asAddr,Vm ha hs hm hc]
def rsign2_c(s:Str)(L:List Tk)(p:Ps)(Ar A:Option Addr)(cr c k pb:Nat)(S:Nat->Prop)(kd:Int)(hk0:kd≠0)(w0:World)(hb:w0.heap[pb]? = some (.cells (Sp s Ar L cr k p A c).toArray 151))(hT:Rep S w0 (Le L) [.slice Ar (aL L) cr])(hS:∀b,S b->b≠pb)(hAt:AtK L k p)(hLl:aL L<=100000000):Calls prog 268 #[V pb,J kd] w0 (Za λv w'=>v=.bool (decide (p.kind=kd))/\(∃k',w'.heap[pb]? = some (.cells (Sp s Ar L cr k' (if p.kind=kd then p.skip else p.fail (aL s) 2) A c).toArray 151)/\AtK L k' (if p.kind=kd then p.skip else p.fail (aL s) 2))/\Same [pb] w0 w'):=by
  refine Gg (rsign_c s L p Ar A cr c k pb S kd hk0 w0 hb hT hS hAt.1 hAt.2.1 hLl) ?_;rintro v w' (⟨hc,rfl,hb,hE⟩|⟨hc,rfl,hb,hE⟩)
  ·rw[tQ hc]
   exact⟨by rw[fZ hc],⟨k,hb,hAt.fail⟩,hE⟩
  rw[uQ hc];exact⟨by rw[gZ hc],⟨k+1,hb,hAt.skip<|B4 hAt.1 hc hk0⟩,hE⟩
def rkey_c(s:Str)(L:List Tk)(p:Ps)(Ar A:Option Addr)(cr c k pb:Nat)(S:Nat->Prop)(hs:aL s<=65536)(hTk:∀t∈L,t.f<=t.t/\t.t<=aL s)(had hd:List Str)(hhd:∀x,x∈hd↔x∈had)(HA:Option Addr)(hc:Nat)(S2:Nat->Prop)(hS2:∀b,S2 b->b≠pb)(w0:World)(hb:w0.heap[pb]? = some (.cells (Sp s Ar L cr k p A c).toArray 151))(hT:Rep S w0 (Le L) [.slice Ar (aL L) cr])(hS:∀b,S b->b≠pb)(hAt:AtK L k p)(hLl:aL L<=100000000)(hH:Rep S2 w0 (Ee hd) [.slice HA hd.length hc]):Calls prog 237 #[V pb,.slice HA hd.length hc] w0 (Za λv w'=>v=.tuple #[I ((Ek s p had).1.1),.agg #[J ((Ek s p had).1.2.1:Nat),J ((Ek s p had).1.2.2.1:Nat)],.bool (Ek s p had).1.2.2.2]/\(∃k',w'.heap[pb]? = some (.cells (Sp s Ar L cr k' (Ek s p had).2 A c).toArray 151)/\AtK L k' (Ek s p had).2)/\Same [pb] w0 w'):=by
 have hHl:=hH.slice_len;refine Lb func237 ntmps237 O O ?_;have hF:FR w0 [pb] [(pb,.cells #[I s,.slice Ar (aL L) cr,J<|(k:Nat),.slice A (aL p.nodes) c,J<|(p.at_:Nat),J p.err] 151)] w0:=FR.open_ jK Da;refine rn 4 ?_;rintro b1 w hb1 hF -;refine rn 7<|Ia (N4 s L p Ar A cr c k pb S _ (hF.heap (i:=1) O) (hT.same hF.same λb hb hs=>hS b hs (aS hb)) hS hAt.1 hAt.2.1 hLl) ?_;rintro w hF -;refine rn 4 ⟨λhc0=>?_,λhc0=>?_⟩;refine rn 2<|Ba (w':=w) (v:=.agg #[J 0,J 0]) Ua ?_;refine rn 1<|Fc (Qx s L p Ar A cr c k pb S 2 _ (hF.heap (i:=1) O) (hT.same hF.same λb hb hs=>hS b hs (aS hb)) hS hAt.1 hAt.2.1 hLl) ?_;rintro v w ⟨rfl,hb2,hE⟩;have hF:=hF.change 1 rfl hE hb2;refine rn 2 ?_;rintro w hF -;refine rn 3<|Rf<|Yd λ_ hr=>Nc (GD hr (v:=I []) O (l:=[J 0,J 0]) O oZ tZ O (hF.cellsAll 0 O) (y:=.bool false) O) ?_;rw[K1 hc0];exact⟨O,⟨k,hF.heap (i:=1) O,hAt.fail⟩,hF.same⟩;refine rn 3 ?_;have h8:p.kind=8:=Decidable.not_not.1 hc0;have hkl:k<aL L:=B4 hAt.1 h8 Ja;have hpr:p.rest=L[k]::L.drop (k+1):=by rw[hAt.1];exact List.drop_eq_getElem_cons hkl
 have hkt:=Si hpr;obtain⟨ad,hA,hSa,hkk⟩:=hT.tok_at hkl;have htk:=hTk L[k] (eQ hkl);refine Rb (zs:=.of [12]) (bQ [0,1,2,3,4,5,6,7,8,9,10]<|.act 11<|.act 12 .nil) hF ?_;intro w hF;refine rn 8<|Ga O (v:=.pointer<|some<|ad.add<|k*3) (λw hC=>Ca (i:=(k:Int)) Xi hA)<|Ga O (v:=.pointer<|some<|(ad.add<|k*3).add 1) (λw hC=>Oa (a:=ad.add<|k*3) Fi) ?_;refine Ga O (λw hC=>Ma (l:=[J<|(L[k].f:Nat),J<|(L[k].t:Nat)]) oZ tZ O O<|Sc (hC.cellsE bH hkk) 1 O)<|rn 1 ?_;rintro b2 w hb2 hF -;refine rn 1 ?_;rintro w hF -;refine rn 3<|Rb (zs:=.of []) (bQ [0,1,2,3,4,5,6,7,8]<|.act 9<|bQ [10,11,12,13,14,15,16] .nil) hF ?_;intro w hF;refine rn 8<|Ga O (v:=I<|((s.take L[k].t).drop L[k].f)) (λw hC=>Eh L[k].f L[k].t jX O O O Aa Aa) ?_;refine Rc (Wv ((s.take L[k].t).drop L[k].f) (by rw[zQ,jZ];omega) _) ?_;rintro w hF -;refine rn 16<|Sa (λμ σ w=>∃(i:Nat),μ=hd.length-i/\(∀x∈hd.take i,x≠(Mo s L[k]))/\AllEq σ [(0,V pb),(1,.slice HA hd.length hc),(5,V b1),(7,V b2),(8,I<|(Mo s L[k])),(11,J<|(i:Int))]/\FR w0 [pb] [(b2,.cells #[J<|(L[k].f:Nat),J<|(L[k].t:Nat)] 136),(b1,.cells #[J 0,J 0] 136),(pb,.cells #[I s,.slice Ar (aL L) cr,J<|(k:Nat),.slice A (aL p.nodes) c,J<|(p.at_:Nat),J p.err] 151)] w) _ ⟨0,O,Da,ae6,hF⟩ ?_;rintro μ σ w ⟨i,rfl,hin,hzz,hF⟩;refine Wf hzz 10 ⟨λhc1=>?_,λhc1=>?_⟩;refine rn 5 ?_;have hil:i<hd.length:=Aa
 obtain⟨ad9,hA9,hS9,hk9⟩:=hH.str_at hil;refine rn 3<|Ba (v:=.pointer<|some<|ad9.add<|i*1) (Ca (i:=(i:Int)) Ii hA9) ?_;refine Ba (v:=I<|hd[i]) (Xa sZ (hx:=O)<|hF.cellO hk9 (by simpa using hS2 _ hS9))<|rn 5 ⟨λhc2=>?_,λhc2=>?_⟩;refine rn 2<|Ba (w':=w) (v:=.agg #[J 0,J 0]) Ua ?_;refine rn 1<|Fc (Qx s L p Ar A cr c k pb S 7 _ (hF.heap (i:=2) O) (hT.same hF.same λb hb hs=>hS b hs (aS hb)) hS hAt.1 hAt.2.1 hLl) ?_;rintro v w ⟨rfl,hb2,hE⟩;have hF:=hF.change 2 rfl hE hb2;refine rn 2 ?_;rintro w hF -;refine rn 3<|Rf<|Yd λ_ hr=>Nc (GD hr (v:=I []) O (l:=[J 0,J 0]) O oZ tZ O (hF.cellsAll 1 O) (y:=.bool false) O) ?_;rw[I8 hpr (hkt.symm.trans h8)<|(hhd _).1 (by rw[<-hc2];exact eQ hil)];exact⟨O,⟨k,hF.heap (i:=2) O,hAt.fail⟩,hF.same⟩;refine rn 5<|Zb (Wd<|((i+1:Nat):Int)) ?_;refine rn 2 ?_;refine Ha ⟨_,?_,i+1,O,(λx hx=>by rw[iQ hil]at hx;exact (mQ.1 hx).elim (hin x) (λh=>by rw[pQ.1 h];exact hc2)),Va,hF⟩;omega;refine rn 8<|Zb (Wd<|((k+1:Nat):Int)) ?_;refine rn 3 ?_;rintro w hF -;refine rn 3<|Gb (.of []) (bQ [0,1,2]<|.act 3<|.free 4<|.act 5<|.free 6 .nil) hF ?_;rintro w hF -;refine⟨λwq=>FR w0 [pb] [(b2,.cells #[J<|(L[k].f:Nat),J<|(L[k].t:Nat)] 136)] wq,hF.sub<|.cons_cons _<|.cons _<|.cons _ .slnil,?_⟩;refine rn 3 ?_;refine Lk (rsign2_c s L p.skip Ar A cr c (k+1) pb S 7 Ja _ (by rw[N6];exact hF.heap (i:=2) O) (hT.same hF.same λb hb hs=>hS b hs (aS hb)) hS (hAt.skip hkl) hLl) ?_;rintro v w ⟨rfl,⟨k2,hb2,hAt2⟩,hE⟩;have hF:=hF.change 2 rfl hE hb2;refine⟨hF.su,?_⟩;refine rn 2 ?_;rintro w hF -;refine rn 3<|Rf<|Yd λ_ hr=>Nc (GD hr (v:=I<|(Mo s L[k])) O (l:=[J<|(L[k].f:Nat),J<|(L[k].t:Nat)]) O oZ tZ O (hF.cellsAll 1 O) (y:=.bool<|decide (p.skip.kind=7)) O) ?_;have hni:¬Mo s L[k]∈had:=λh=>hin _ (by rw[eZ Aa];exact (hhd _).2 h) rfl
 rw[T0 hpr (hkt.symm.trans h8) hni];exact⟨O,⟨k2,hF.heap (i:=2) O,hAt2⟩,hF.same⟩
def ZN(s:Str)(p:Ps)(had:List Str):(Ek s p had).2.nodes=p.nodes:=by
  unfold Ek;split
  ·rfl
  split
  ·rfl
  split
  ·rfl
  split
  ·rw[Jb,Jb]
  exact Jb p
def rkey_p{S:Nat->Prop}{w:World}{ex sm:List (Nat × Obj)}{pb:Nat}{s:Str}{L:List Tk}{p:Ps}(h:Jk S w ex sm pb s L p)(hL:aL L<=100000000)(hs:aL s<=65536)(hTk:∀t∈L,t.f<=t.t/\t.t<=aL s)(had hd:List Str)(hhd:∀x,x∈hd↔x∈had)(HA:Option Addr)(hc:Nat)(S2:Nat->Prop)(hS2:∀b,S2 b->b≠pb)(hH:Rep S2 w (Ee hd) [.slice HA hd.length hc]):Calls prog 237 #[V pb,.slice HA hd.length hc] w (Za λv w'=>v=.tuple #[I ((Ek s p had).1.1),.agg #[J ((Ek s p had).1.2.1:Nat),J ((Ek s p had).1.2.2.1:Nat)],.bool (Ek s p had).1.2.2.2]/\∃sm',Jk S w' ex sm' pb s L (Ek s p had).2/\Mc w (ex++sm) w' (ex++sm')):=by
  obtain⟨k,A,Ar,c,cr,sl,vals,sb,rfl,h1,h2,h3,h4⟩:=h.parts;have ho:=Rp h.off;refine Gg (rkey_c s L p Ar A cr c k pb S hs hTk had hd hhd HA hc S2 hS2 w (h.hh _<|kZ _ aZ) h3 ho h4 hL hH) ?_;rintro v w' ⟨rfl,⟨k',hb,hA⟩,hE⟩;exact⟨O,Jk.head (p:=p) (ZN s p had) h.off h.pw h.hh h1 h2 hb hE ⟨h3.same hE λb hb hs=>ho b hs (aS hb),hA⟩⟩
end Go.Scarf
