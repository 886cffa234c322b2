/- A part of the proof. -/
import Derived.Test.YtidlkjpohhbbcaaGreatDoorW19
import Derived.Lib.DecodeN
import Derived.Lib.ItoaMem
set_option linter.all false
set_option maxHeartbeats 8000000
set_option maxRecDepth 10000
set_option synthInstance.maxHeartbeats 0
set_option synthInstance.maxSize 9999
namespace Go.Scarf
open List renaming length->aL
open Go.RowKit Go.Proofs Go.Proofs.Tryz
variable {Z s:Str}{b0 b1 b2 b3 i j m n:Nat}{b k v v3:Int}
def Fl(c:Int):Int:=if c<128 then 1 else if 194<=c/\c<=223 then 2 else if 224<=c/\c<=239 then 3 else if 240<=c/\c<=244 then 4 else 0
theorem NU(c:Int):Fl c=0\/Fl c=1\/Fl c=2\/Fl c=3\/Fl c=4:=by grind [Fl]
def bZ(s:Str)(p:Nat):Int:=(((bs s).get! p).toNat:Int)
theorem Yh{p:Nat}(h:p<aL s):((s[p].toNat:Nat):Int)=bZ s p:=by
  have h':p<aL (bs s).data.toList:=h;unfold bZ;have:(bs s).get! p=s[p]:=by
    show (bs s).data[p]! = s[p];grind
  rw[this]
def Mg(s:Str)(p:Nat):0<=bZ s p/\bZ s p<256:=by
  unfold bZ;have:=UInt8.toNat_lt<|(bs s).get! p;omega
def Y6(s:Str)(p:Nat):Utf8.decode (bs s) p=Lib.decodeN (aL s-p) (bZ s p).toNat (bZ s (p+1)).toNat (bZ s (p+2)).toNat (bZ s (p+3)).toNat:=by
  rw[Lib.decode_at];rfl
theorem next_v{p:Nat}(h1:1<=i)(h4:i<4)
    (hv:(i=1->v=v3)/\(i=2->v=64*v3+bZ s (p+1)-128)/\(i=3->v=64*(64*v3+bZ s (p+1)-128)+bZ s (p+2)-128)/\(i=4->v=64*(64*(64*v3+bZ s (p+1)-128)+bZ s (p+2)-128)+bZ s (p+3)-128)) :
    (i+1=1->64*v+bZ s (p+i)-128=v3)/\(i+1=2->64*v+bZ s (p+i)-128=64*v3+bZ s (p+1)-128)/\(i+1=3->64*v+bZ s (p+i)-128=64*(64*v3+bZ s (p+1)-128)+bZ s (p+2)-128)/\(i+1=4->64*v+bZ s (p+i)-128=64*(64*(64*v3+bZ s (p+1)-128)+bZ s (p+2)-128)+bZ s (p+3)-128):=qK
theorem next_c_{p:Nat}(h1:1<=i)(h4:i<4)(hc:128<=bZ s (p+i)/\bZ s (p+i)<=191)
    (hcb:(2<=i->128<=bZ s (p+1)/\bZ s (p+1)<=191)/\(3<=i->128<=bZ s (p+2)/\bZ s (p+2)<=191)/\(4<=i->128<=bZ s (p+3)/\bZ s (p+3)<=191)) :
    (2<=i+1->128<=bZ s (p+1)/\bZ s (p+1)<=191)/\(3<=i+1->128<=bZ s (p+2)/\bZ s (p+2)<=191)/\(4<=i+1->128<=bZ s (p+3)/\bZ s (p+3)<=191):=qK
theorem next_b{p:Nat}(h1:1<=i)(h4:i<=4)(h0:0<=v3/\v3<=255)
    (hv:(i=1->v=v3)/\(i=2->v=64*v3+bZ s (p+1)-128)/\(i=3->v=64*(64*v3+bZ s (p+1)-128)+bZ s (p+2)-128)/\(i=4->v=64*(64*(64*v3+bZ s (p+1)-128)+bZ s (p+2)-128)+bZ s (p+3)-128))
    (hcb:(2<=i->128<=bZ s (p+1)/\bZ s (p+1)<=191)/\(3<=i->128<=bZ s (p+2)/\bZ s (p+2)<=191)/\(4<=i->128<=bZ s (p+3)/\bZ s (p+3)<=191))
    (r1:0<=bZ s (p+1)/\bZ s (p+1)<256) (r2:0<=bZ s (p+2)/\bZ s (p+2)<256) (r3:0<=bZ s (p+3)/\bZ s (p+3)<256):0<=v/\v<100000000:=qK
def R9{a:Int}{d:Nat × Nat}(h1:a=(d.1:Int))(h2:b=(d.2:Int)):Value.tuple #[.int .i32 a,J b]=.tuple #[.int .i32 (d.1:Int),J (d.2:Int)]:=by rw[h1,h2]
theorem decN_0(h:(128<=b0/\b0<194)\/(245<=b0/\b0<256)):Lib.decodeN m b0 b1 b2 b3=(65533,1):=by
  unfold Lib.decodeN;grind
theorem decN_1(h:b0<128):Lib.decodeN m b0 b1 b2 b3=(b0,1):=by
  unfold Lib.decodeN;grind
theorem YL(h:194<=b0/\b0<224)(h1:b1<256):Lib.decodeN m b0 b1 b2 b3=if 1<m/\(128<=b1/\b1<=191) then (64*(b0-192)+(b1-128),2) else (65533,1):=by
  unfold Lib.decodeN;grind
theorem UO(h:224<=b0/\b0<240)(h1:b1<256)(h2:b2<256):Lib.decodeN m b0 b1 b2 b3=if 2<m/\(128<=b1/\b1<=191)/\(128<=b2/\b2<=191) then
    (if 64*(64*(b0-224)+(b1-128))+(b2-128)<2048\/(55296<=64*(64*(b0-224)+(b1-128))+(b2-128)/\64*(64*(b0-224)+(b1-128))+(b2-128)<57344) then (65533,1) else (64*(64*(b0-224)+(b1-128))+(b2-128),3)) else (65533,1):=by
  unfold Lib.decodeN;grind
theorem DK(h:240<=b0/\b0<245)(h1:b1<256)(h2:b2<256)(h3:b3<256):Lib.decodeN m b0 b1 b2 b3=if 3<m/\(128<=b1/\b1<=191)/\(128<=b2/\b2<=191)/\(128<=b3/\b3<=191) then
    (if 64*(64*(64*(b0-240)+(b1-128))+(b2-128))+(b3-128)<65536\/1114111<64*(64*(64*(b0-240)+(b1-128))+(b2-128))+(b3-128) then (65533,1) else (64*(64*(64*(b0-240)+(b1-128))+(b2-128))+(b3-128),4)) else (65533,1):=by
  unfold Lib.decodeN;grind
theorem Ay(hb:0<=b/\b<256)(h:Fl b=(n:Int)):(n=0/\((128<=b/\b<194)\/(245<=b/\b<256)))\/(n=1/\b<128)\/(n=2/\194<=b/\b<224)\/(n=3/\224<=b/\b<240)\/(n=4/\240<=b/\b<245):=by grind [Fl]
def V0(n:Nat)(b:Int):Int:=if n=2 then b-192 else if n=3 then b-224 else if n=4 then b-240 else b
def T6{p:Nat}(hp:p<aL s)(hw:Fl (bZ s p)=(n:Int))(h:n=0\/(aL s:Int)-p<n):Utf8.decode (bs s) p=(65533,1):=by
  have h0:=Mg s p;have h1:=Mg s<|p+1;have h2:=Mg s<|p+2;have h3:=Mg s<|p+3;rw[Y6];rcases Ay h0 hw with ⟨hn,hb⟩|⟨hn,hb⟩|⟨hn,hb⟩|⟨hn,hb⟩|⟨hn,hb⟩
  ·exact decN_0 Aa
  ·omega
  ·rw[YL Aa Aa,tQ Aa]
  ·rw[UO Aa Aa Aa,tQ Aa]
  rw[DK Aa Aa Aa Aa,tQ Aa]
def TA{p:Nat}(hw:Fl (bZ s p)=(n:Int))(h1i:1<=i)(hi:i<n)(hc:bZ s (p+i)<128\/191<bZ s (p+i)):Utf8.decode (bs s) p=(65533,1):=by
  have h0:=Mg s p;have h1:=Mg s<|p+1;have h2:=Mg s<|p+2;have h3:=Mg s<|p+3;rw[Y6];rcases Ay h0 hw with ⟨hn,hb⟩|⟨hn,hb⟩|⟨hn,hb⟩|⟨hn,hb⟩|⟨hn,hb⟩
  ·omega
  ·omega
  ·obtain rfl : i = 1 := by omega
   rw[YL Aa Aa,tQ Aa]
  ·rw[UO Aa Aa Aa, tQ]
   rintro⟨-,a,b⟩;obtain rfl|rfl:i=1\/i=2:=Aa
   ·omega
   omega
  rw[DK Aa Aa Aa Aa, tQ];rintro⟨-,a,b,c⟩;obtain rfl|rfl|rfl:i=1\/i=2\/i=3:=Aa
  ·omega
  ·omega
  omega
def K7{p:Nat}(hw:Fl (bZ s p)=(n:Int))(hn0:¬n=0)(hm:(n:Int)<=(aL s:Int)-p)(hin:n<=i)(hi1:1<=i/\(i<=n\/i=1))(hv0:v3=V0 n (bZ s p))
    (hv:(i=1->v=v3)/\(i=2->v=64*v3+bZ s (p+1)-128)/\(i=3->v=64*(64*v3+bZ s (p+1)-128)+bZ s (p+2)-128)/\(i=4->v=64*(64*(64*v3+bZ s (p+1)-128)+bZ s (p+2)-128)+bZ s (p+3)-128))
    (hcb:(2<=i->128<=bZ s (p+1)/\bZ s (p+1)<=191)/\(3<=i->128<=bZ s (p+2)/\bZ s (p+2)<=191)/\(4<=i->128<=bZ s (p+3)/\bZ s (p+3)<=191)) :
    0<=v/\v<2147483648/\Utf8.decode (bs s) p=if (n=3/\v<2048)\/(n=4/\v<65536)\/1114111<v\/(55296<=v/\v<57344) then (65533,1) else (v.toNat,n):=by
  have h0:=Mg s p;have h1:=Mg s<|p+1;have h2:=Mg s<|p+2;have h3:=Mg s<|p+3;rw[Y6];rcases Ay h0 hw with ⟨hn,hb⟩|⟨hn,hb⟩|⟨hn,hb⟩|⟨hn,hb⟩|⟨hn,hb⟩
  ·exact absurd hn hn0
  ·subst hn
   obtain rfl:i=1:=Aa
   have e:=hv.1 rfl;have e0:v3=bZ s p:=hv0;clear hv hcb hv0;refine⟨Aa,Aa,?_⟩;rw[decN_1 Aa,tQ Aa];exact Prod.ext (by show _=v.toNat;omega) O
  ·subst hn
   obtain rfl:i=2:=Aa
   have e:=hv.2.1 rfl;have c1:=hcb.1 Aa;have e0:v3=bZ s p-192:=hv0;clear hv hcb hv0;refine⟨Aa,Aa,?_⟩;rw[YL Aa Aa,uQ Aa,tQ Aa];exact Prod.ext (by show _=v.toNat;simp only;omega) O
  ·subst hn
   obtain rfl:i=3:=Aa
   have e:=hv.2.2.1 rfl;have c1:=hcb.1 Aa;have c2:=hcb.2.1 Aa;have e0:v3=bZ s p-224:=hv0;clear hv hcb hv0;refine⟨Aa,Aa,?_⟩;rw[UO Aa Aa Aa,uQ Aa];have ev:64*(64*((bZ s p).toNat-224)+((bZ s<|p+1).toNat-128))+((bZ s<|p+2).toNat-128)=v.toNat:=Aa
   rw[ev];by_cases hx:(3=3/\v<2048)\/(3=4/\v<65536)\/1114111<v\/(55296<=v/\v<57344)
   ·rw[uQ hx,uQ Aa]
   rw[tQ hx,tQ Aa]
  subst hn;obtain rfl:i=4:=Aa
  have e:=hv.2.2.2 rfl;have c1:=hcb.1 Aa;have c2:=hcb.2.1 Aa;have c3:=hcb.2.2 Aa;have e0:v3=bZ s p-240:=hv0;clear hv hcb hv0;refine⟨Aa,Aa,?_⟩;rw[DK Aa Aa Aa Aa,uQ Aa];have ev:64*(64*(64*((bZ s p).toNat-240)+((bZ s<|p+1).toNat-128))+((bZ s<|p+2).toNat-128))+((bZ s<|p+3).toNat-128)=v.toNat:=Aa
  rw[ev];by_cases hx:(4=3/\v<2048)\/(4=4/\v<65536)\/1114111<v\/(55296<=v/\v<57344)
  ·rw[uQ hx,uQ Aa]
  rw[tQ hx,tQ Aa]
def wide_c(c:Int)(w0:World):Calls prog 151 #[J c] w0 (Za λv w'=>v=J (Fl c)/\Same [] w0 w'):=by
  refine Ea func151 ntmps151 ?_;intro hF;refine rn 13 ⟨λhc0=>?_,λhc0=>?_⟩
  ·
   refine rn 6 ⟨yQ (Value.int .i64) ?_,hF.same⟩;unfold Fl
   (repeat' split) <;> omega
  refine rn 4<|Eb (λσ w=>∃(bd:Bool),(bd=decide (194<=c/\c<=223))/\AllEq σ [(0,J c),(10,.bool bd)]/\FR w0 [] [] w) ?_ ?_
  ·
   refine rn 5 ⟨λhg0=>?_,λhg0=>?_⟩
   ·
    refine rn 4 ?_;exact Ha ⟨decide ((c:Int)<=(223:Int)),qJ,Va,hF⟩
   refine rn 4 ?_;exact Ha ⟨false,qJ,Va,hF⟩
  rintro σ w ⟨bd,hbd,hzz,hF⟩;refine Aj hzz 2 ⟨λhc1=>?_,λhc1=>?_⟩
  ·
   have hd1:=mZ<|hbd.symm.trans hc1;refine rn 6 ⟨yQ (Value.int .i64) ?_,hF.same⟩;unfold Fl
   (repeat' split) <;> omega
  have hd1:=of_decide_eq_false<|hbd.symm.trans hc1;refine rn 4<|Eb (λσ w=>∃(bd:Bool),(bd=decide (224<=c/\c<=239))/\AllEq σ [(0,J c),(16,.bool bd)]/\FR w0 [] [] w) ?_ ?_
  ·
   refine rn 5 ⟨λhg1=>?_,λhg1=>?_⟩
   ·
    refine rn 4 ?_;exact Ha ⟨decide ((c:Int)<=(239:Int)),qJ,Va,hF⟩
   refine rn 4 ?_;exact Ha ⟨false,qJ,Va,hF⟩
  rintro σ w ⟨bd,hbd,hzz,hF⟩;refine Aj hzz 2 ⟨λhc2=>?_,λhc2=>?_⟩
  ·
   have hd2:=mZ<|hbd.symm.trans hc2;refine rn 6 ⟨yQ (Value.int .i64) ?_,hF.same⟩;unfold Fl
   (repeat' split) <;> omega
  have hd2:=of_decide_eq_false<|hbd.symm.trans hc2;refine rn 4<|Eb (λσ w=>∃(bd:Bool),(bd=decide (240<=c/\c<=244))/\AllEq σ [(22,.bool bd)]/\FR w0 [] [] w) ?_ ?_
  ·
   refine rn 5 ⟨λhg2=>?_,λhg2=>?_⟩
   ·
    refine rn 4 ?_;exact Ha ⟨decide ((c:Int)<=(244:Int)),qJ,Va,hF⟩
   refine rn 4 ?_;exact Ha ⟨false,qJ,Va,hF⟩
  rintro σ w ⟨bd,hbd,hzz,hF⟩;refine Aj hzz 2 ⟨λhc3=>?_,λhc3=>?_⟩
  ·
   have hd3:=mZ<|hbd.symm.trans hc3;refine rn 6 ⟨yQ (Value.int .i64) ?_,hF.same⟩;unfold Fl
   (repeat' split) <;> omega
  have hd3:=of_decide_eq_false<|hbd.symm.trans hc3;refine rn 8 ⟨yQ (Value.int .i64) ?_,hF.same⟩;unfold Fl
  (repeat' split) <;> omega
def YM(s:Str)(p:Nat)(hp:p<aL s)(hl:aL s<=140737488355328)(w0:World):Calls prog 97 #[I s,J (p:Int)] w0 (Za λv w'=>v=.tuple #[.int .i32 ((Utf8.decode (bs s) p).1:Int),J ((Utf8.decode (bs s) p).2:Int)]/\Same [] w0 w'):=by
 obtain⟨n,hw,hn4⟩:∃n:Nat,Fl (bZ s p)=(n:Int)/\n<=4:=by rcases NU (bZ s p)with h|h|h|h|h;exact⟨0,h,Aa⟩;exact⟨1,h,Aa⟩;exact⟨2,h,Aa⟩;exact⟨3,h,Aa⟩;exact⟨4,h,Aa⟩
 have hb0:=Mg s p;have hb1:=Mg s<|p+1;have hb2:=Mg s<|p+2;have hb3:=Mg s<|p+3;refine Ea func97 ntmps97 ?_;intro hF;refine rn 10<|Ba (v:=.bool false) (Cc Uy Aa) ?_;refine rn 4<|Ba (v:=.bool false) (Cc (AG O O) Aa) ?_;refine rn 10 ?_;refine Ba (v:=.int .u8<|bZ s p) (by rw[<-Yh hp];exact Cb p jX O O hp) ?_;refine Ba (v:=J<|bZ s p) (Qb iX dX O<|Ge Aa Aa)<|Fc (wide_c (bZ s p) _) ?_;rintro _ w ⟨rfl,hE⟩;rw[hw];have hF:=hF.ext hE;refine rn 10 ⟨λhg0=>?_,λhg0=>?_⟩;refine rn 17 ?_;exact⟨by rw[T6 hp hw<|.inl Aa];rfl,hF.same⟩;refine rn 4<|Zb Iy ?_;refine rn 5 ⟨λhc1=>?_,λhc1=>?_⟩;refine rn 7 ?_;exact⟨by rw[T6 hp hw<|.inr Aa];rfl,hF.same⟩;refine rn 6 ?_;refine Ba (v:=.int .u8<|bZ s p) (by rw[<-Yh hp];exact Cb p jX O O hp) ?_;refine Ba (v:=J<|bZ s p) (Qb iX dX O<|Ge Aa Aa)<|rn 4 ?_;refine Eb (λσ w=>∃(v1:Int),(v1=if n=2 then bZ s p-192 else bZ s p)/\AllEq σ [(0,I s),(1,J<|(p:Int)),(6,J<|(n:Int)),(7,J v1)]/\FR w0 [] [] w) ?_ ?_;refine rn 7 ⟨λhc2=>?_,λhc2=>?_⟩;refine rn 2<|Zb Iy ?_;refine rn 2 ?_;exact Ha ⟨(bZ s p:Int)-192,qF,Va,hF⟩;refine rn 1 ?_;exact Ha ⟨bZ s p,qF,Va,hF⟩;rintro σ w ⟨v1,hv1,hzz,hF⟩;refine Aj hzz 2<|Eb (λσ w=>∃(v2:Int),(v2=if n=3 then v1-224 else v1)/\AllEq σ [(0,I s),(1,J<|(p:Int)),(6,J<|(n:Int)),(7,J v2)]/\FR w0 [] [] w) ?_ ?_;refine rn 7 ⟨λhc3=>?_,λhc3=>?_⟩;refine rn 2<|Zb Iy ?_;refine rn 2 ?_;exact Ha ⟨(v1:Int)-224,qF,Va,hF⟩;refine rn 1 ?_;exact Ha ⟨v1,qF,Va,hF⟩;rintro σ w ⟨v2,hv2,hzz,hF⟩;refine Aj hzz 2<|Eb (λσ w=>∃(v3:Int),(v3=if n=4 then v2-240 else v2)/\AllEq σ [(0,I s),(1,J<|(p:Int)),(6,J<|(n:Int)),(7,J v3)]/\FR w0 [] [] w) ?_ ?_
 refine rn 7 ⟨λhc4=>?_,λhc4=>?_⟩;refine rn 2<|Zb Iy ?_;refine rn 2 ?_;exact Ha ⟨(v2:Int)-240,qF,Va,hF⟩;refine rn 1 ?_;exact Ha ⟨v2,qF,Va,hF⟩;rintro σ w ⟨v3,hv3,hzz,hF⟩;refine Aj hzz 8 ?_;have hv0:v3=V0 n (bZ s p):=by rw[hv3,hv2,hv1];unfold V0;(repeat' split) <;> omega
 have hv00:0<=v3/\v3<=255:=by rw[hv0];unfold V0;rcases Ay hb0 hw with ⟨hn,hb⟩|⟨hn,hb⟩|⟨hn,hb⟩|⟨hn,hb⟩|⟨hn,hb⟩ <;> subst hn <;> simp <;> omega
 have hm:(n:Int)<=(aL s:Int)-p:=Aa
 have hn0:¬n=0:=Aa
 refine Sa (λμ σ w=>∃(i:Nat),∃(v:Int),μ=n+1-i/\(1<=i/\(i<=n\/i=1))/\((i=1->v=v3)/\(i=2->v=64*v3+bZ s (p+1)-128)/\(i=3->v=64*(64*v3+bZ s (p+1)-128)+bZ s (p+2)-128)/\(i=4->v=64*(64*(64*v3+bZ s (p+1)-128)+bZ s (p+2)-128)+bZ s (p+3)-128))/\((2<=i->128<=bZ s (p+1)/\bZ s (p+1)<=191)/\(3<=i->128<=bZ s (p+2)/\bZ s (p+2)<=191)/\(4<=i->128<=bZ s (p+3)/\bZ s (p+3)<=191))/\AllEq σ [(0,I s),(1,J<|(p:Int)),(6,J<|(n:Int)),(7,J v),(8,J<|(i:Int))]/\FR w0 [] [] w) _ ⟨1,v3,O,Aa,Aa,Aa,Va,hF⟩ ?_;rintro μ σ w ⟨i,v,rfl,hi1,hv,hcb,hzz,hF⟩;have hvb:=next_b hi1.1 (by omega:i<=4) hv00 hv hcb (Mg s<|p+1) (Mg s<|p+2)<|Mg s<|p+3;refine Wf hzz 9 ⟨λhc5=>?_,λhc5=>?_⟩;have hbi:=Mg s<|p+i;refine rn 9<|Zb (Wd<|((p+i:Nat):Int)) ?_;refine Ba (v:=.int .u8<|bZ s<|p+i) (by rw[<-Yh (show p+i<aL s by omega)];exact Cb (p+i) jX O O Aa) ?_;refine Ba (v:=J<|bZ s<|p+i) (Qb iX dX O<|Ge Aa Aa)<|rn 10 ⟨λhg1=>?_,λhg1=>?_⟩;refine rn 13 ?_;exact⟨by rw[TA hw hi1.1 Aa<|.inl Aa];rfl,hF.same⟩;refine rn 6 ⟨λhc6=>?_,λhc6=>?_⟩;refine rn 7 ?_;exact⟨by rw[TA hw hi1.1 Aa<|.inr Aa];rfl,hF.same⟩;refine rn 4<|Ba (v:=J<|64*v) (Ro O O<|Ge Aa Aa) ?_;refine rn 1<|Zb Uh<|Zb Iy ?_;refine rn 6<|Zb (Wd<|((i+1:Nat):Int)) ?_;refine rn 2<|Ha ⟨_,?_,i+1,64*v+bZ s (p+i)-128,O,Aa,next_v hi1.1 Aa hv,next_c_ hi1.1 Aa Aa hcb,Va,hF⟩;omega;refine rn 4<|Eb (λσ w=>∃(bd:Bool),(bd=decide ((n=3/\v<2048)\/(n=4/\v<65536)\/1114111<v\/(55296<=v/\v<57344)))/\AllEq σ [(6,J<|(n:Int)),(7,J v),(96,.bool bd)]/\FR w0 [] [] w) ?_ ?_;refine rn 5 ⟨λhg2=>?_,λhg2=>?_⟩;refine rn 5 ⟨λhg3=>?_,λhg3=>?_⟩;refine rn 20 ?_;exact Ha ⟨true,qJ,Va,hF⟩;refine rn 4 ⟨λhg4=>?_,λhg4=>?_⟩
 refine rn 6 ⟨λhg5=>?_,λhg5=>?_⟩;refine rn 12 ?_;exact Ha ⟨true,qJ,Va,hF⟩;refine rn 5 ⟨λhg6=>?_,λhg6=>?_⟩;refine rn 8 ?_;exact Ha ⟨true,qJ,Va,hF⟩;refine rn 4 ⟨λhg7=>?_,λhg7=>?_⟩;refine rn 5 ?_;exact Ha ⟨decide ((v:Int)<(57344:Int)),qJ,Va,hF⟩;refine rn 5 ?_;exact Ha ⟨false,qJ,Va,hF⟩;refine rn 10 ⟨λhg8=>?_,λhg8=>?_⟩;refine rn 8 ?_;exact Ha ⟨true,qJ,Va,hF⟩;refine rn 4 ⟨λhg9=>?_,λhg9=>?_⟩;refine rn 5 ?_;exact Ha ⟨decide ((v:Int)<(57344:Int)),qJ,Va,hF⟩;refine rn 5 ?_;exact Ha ⟨false,qJ,Va,hF⟩;refine rn 8 ⟨λhg10=>?_,λhg10=>?_⟩;refine rn 6 ⟨λhg11=>?_,λhg11=>?_⟩;refine rn 12 ?_;exact Ha ⟨true,qJ,Va,hF⟩;refine rn 5 ⟨λhg12=>?_,λhg12=>?_⟩;refine rn 8 ?_;exact Ha ⟨true,qJ,Va,hF⟩
 refine rn 4 ⟨λhg13=>?_,λhg13=>?_⟩;refine rn 5 ?_;exact Ha ⟨decide ((v:Int)<(57344:Int)),qJ,Va,hF⟩;refine rn 5 ?_;exact Ha ⟨false,qJ,Va,hF⟩;refine rn 10 ⟨λhg14=>?_,λhg14=>?_⟩;refine rn 8 ?_;exact Ha ⟨true,qJ,Va,hF⟩;refine rn 4 ⟨λhg15=>?_,λhg15=>?_⟩;refine rn 5 ?_;exact Ha ⟨decide ((v:Int)<(57344:Int)),qJ,Va,hF⟩;refine rn 5 ?_;exact Ha ⟨false,qJ,Va,hF⟩;rintro σ w ⟨bd,hbd,hzz,hF⟩;refine Aj hzz 2 ⟨λhc7=>?_,λhc7=>?_⟩;have hd7:=mZ<|hbd.symm.trans hc7;refine rn 7 ?_;have ha:=K7 hw hn0 hm Aa hi1 hv0 hv hcb;clear hv hcb;obtain⟨ha1,ha2,ha3⟩:=ha;refine⟨?_,hF.same⟩;rw[ha3]
 first|(rw[uQ Aa];rfl)|(rw[tQ Aa];exact R9 (by show v=((v.toNat:Nat):Int);omega) rfl)
 have hd7:=of_decide_eq_false<|hbd.symm.trans hc7;refine rn 5 ?_;refine Ba (v:=.int .i32 v) (Qb dX bX O (by have ha:=K7 hw hn0 hm Aa hi1 hv0 hv hcb;clear hv hcb;rw[IntKind.wrap_i32];omega)) ?_;refine rn 6 ?_;have ha:=K7 hw hn0 hm Aa hi1 hv0 hv hcb;clear hv hcb;obtain⟨ha1,ha2,ha3⟩:=ha;refine⟨?_,hF.same⟩;rw[ha3]
 first|(rw[uQ Aa];rfl)|(rw[tQ Aa];exact R9 (by show v=((v.toNat:Nat):Int);omega) rfl)
def Tr(s:Str)(p:Nat):Bool:=!(decide ((Utf8.decode (bs s) p).1=65533)&&decide ((Utf8.decode (bs s) p).2=1))
theorem good_c(s:Str)(p:Nat)(hp:p<aL s)(hl:aL s<=140737488355328)(w0:World):Calls prog 96 #[I s,J (p:Int)] w0 (Za λv w'=>v=.bool (Tr s p)/\Same [] w0 w'):=by
 refine Ea func96 ntmps96 ?_;intro hF;refine rn 9<|Ia (YM s p Aa hl _) ?_;rintro w hF -;refine rn 10 ?_;refine Ba (v:=.bool true) (Ud H3 (by have:=Pd s p;omega)) ?_;refine rn 5 ⟨λhg0=>?_,λhg0=>?_⟩;refine rn 9 ⟨yQ Value.bool ?_,hF.same⟩;unfold Tr;have e1:decide ((((Utf8.decode (bs s) p).1:Nat):Int)=65533)=decide ((Utf8.decode (bs s) p).1=65533):=decide_eq_decide.2 Aa;have e2:decide ((((Utf8.decode (bs s) p).2:Nat):Int)=1)=decide ((Utf8.decode (bs s) p).2=1):=decide_eq_decide.2 Aa
 ·first|(rw[<-e1,<-e2];simp_all;done)|(rw[<-e1];simp_all;done)|(simp_all;omega)
 refine rn 9 ⟨yQ Value.bool ?_,hF.same⟩;unfold Tr;have e1:decide ((((Utf8.decode (bs s) p).1:Nat):Int)=65533)=decide ((Utf8.decode (bs s) p).1=65533):=decide_eq_decide.2 Aa;have e2:decide ((((Utf8.decode (bs s) p).2:Nat):Int)=1)=decide ((Utf8.decode (bs s) p).2=1):=decide_eq_decide.2 Aa
 ·first|(rw[<-e1,<-e2];simp_all;done)|(rw[<-e1];simp_all;done)|(simp_all;omega)
theorem SG{q:Nat}(h:q<aL s):Lib.validD (s.drop q)=if Tr s q=false then false else Lib.validD (s.drop (q+(Utf8.decode (bs s) q).2)):=by
  have hne:s.drop q≠[]:=qX
  rw[Lib.validD_step _ hne,Jh,List.drop_drop];unfold Tr;grind
theorem W8(s:Str)(hl:aL s<=140737488355328)(w0:World):Calls prog 63 #[I s] w0 (Za λv w'=>∃n,v=.tuple #[J n,.bool (Lib.validD s)]/\Same [] w0 w'):=by
 refine Ea func63 ntmps63 ?_;intro hF;refine rn 13<|Sa (λμ σ w=>∃(q:Nat),μ=aL s-q/\(q<=aL s)/\(Lib.validD s=Lib.validD (s.drop q))/\AllEq σ [(0,I s),(4,J<|(q:Int))]/\FR w0 [] [] w) _ ⟨0,O,dZ _,by rw[List.drop_zero],Va,hF⟩ ?_;rintro μ σ w ⟨q,rfl,hq,hv,hzz,hF⟩;refine Wf hzz 10 ⟨λhc0=>?_,λhc0=>?_⟩;refine rn 7<|Ia (good_c s q Aa hl _) ?_;rintro w hF -;refine rn 11 ⟨λhc1=>?_,λhc1=>?_⟩;refine rn 8 ?_;exact⟨_,by rw[hv,SG Aa,uQ qX],hF.same⟩;refine rn 6<|Ia (YM s q Aa hl _) ?_;rintro w hF -;refine rn 10 ?_;refine Ba (v:=J<|((q+(Utf8.decode (bs s) q).2:Nat):Int)) (Cl O O (by have:=Bk s q;exact Gd Aa Aa Aa)) ?_;refine rn 3<|Ha ⟨_,?_,q+(Utf8.decode (bs s) q).2,O,Bk s q,by rw[hv,SG Aa,tQ qX],Va,hF⟩;have:=Pd s q;have:=Bk s q;omega;refine rn 11 ?_;exact⟨_,by rw[hv,List.drop_eq_nil_of_le Aa];rfl,hF.same⟩
def utf_c(s:Str)(hl:aL s<=140737488355328)(w0:World):Calls prog 228 #[I s] w0 (Za λv w'=>v=.bool (Lib.validD s)/\Same [] w0 w'):=by
 refine Ea func228 ntmps228 ?_;intro hF;refine rn 8<|Fc (W8 s hl _) ?_;rintro _ w ⟨nn,rfl,hE⟩;have hF:=hF.ext hE;refine rn 14 ?_;exact⟨O,hF.same⟩
theorem res_6{P:Program}{fn:Func}{s:Nat->Value}{w:World}{t1 t2 t3 t4 t5 t6:Nat}{v1 v2 v3 v4 v5 v6:Value}(h:fn.results=#[.tmp t1,.tmp t2,.tmp t3,.tmp t4,.tmp t5,.tmp t6])(h1:ev n s (.tmp t1)=v1)(h2:ev n s (.tmp t2)=v2)(h3:ev n s (.tmp t3)=v3)(h4:ev n s (.tmp t4)=v4)(h5:ev n s (.tmp t5)=v5)(h6:ev n s (.tmp t6)=v6) :
    (results fn (Bi n s).tmps).run P w=.ok (.tuple #[v1,v2,v3,v4,v5,v6]) w:=by
  have:(results fn (Bi n s).tmps).run P w=.ok (.tuple #[(Bi n s).tmps.getD t1 undef,(Bi n s).tmps.getD t2 undef,(Bi n s).tmps.getD t3 undef,(Bi n s).tmps.getD t4 undef,(Bi n s).tmps.getD t5 undef,(Bi n s).tmps.getD t6 undef]) w:=by simp[results,h]
  grind [Ke]
theorem all_end(hj:aL s<=j)(h:(s.take j).all Yc=true):decide ((0:Int)<(aL (s:Str):Int))=We s:=by
  rw[eZ hj]at h;grind [len_pos,We]
theorem GQ(hj:j<aL s)(h:Yc s[j]=false):We s=false:=by grind [We]
theorem dig_of{c:UInt8}(h1:¬((c.toNat:Nat):Int)<48)(h2:¬(57:Int)<((c.toNat:Nat):Int)):Yc c=true:=by grind [Yc]
theorem PQ{c:UInt8}(h:((c.toNat:Nat):Int)<48\/(57:Int)<((c.toNat:Nat):Int)):Yc c=false:=by grind [Yc]
def Fu(s:Str)(hl:aL s<=140737488355328)(w0:World):Calls prog 205 #[I s] w0 (Za λv w'=>v=.bool (We s)/\Same [] w0 w'):=by
 refine Ea func205 ntmps205 ?_;intro hF;refine rn 12<|Sa (λμ σ w=>∃(j:Nat),μ=aL s-j/\(j<=aL s)/\((s.take j).all Yc=true)/\AllEq σ [(0,I s),(3,J<|(j:Int))]/\FR w0 [] [] w) _ ⟨0,O,dZ _,Da,Va,hF⟩ ?_;rintro μ σ w ⟨j,rfl,hj,ha,hzz,hF⟩;refine Wf hzz 10 ⟨λhc0=>?_,λhc0=>?_⟩;refine rn 8<|Ba (v:=.int .u8<|(((s:Str)[j]' Aa).toNat:Int)) (Cb (j) jX O O Aa) ?_;refine rn 3 ⟨λhg0=>?_,λhg0=>?_⟩;refine rn 14 ?_;exact⟨yQ Value.bool (GQ (j:=j) Aa<|PQ<|.inl qW).symm,hF.same⟩;refine rn 2<|Ba (v:=.int .u8<|(((s:Str)[j]' Aa).toNat:Int)) (Cb (j) jX O O Aa) ?_;refine rn 5 ⟨λhc1=>?_,λhc1=>?_⟩;refine rn 6 ?_;exact⟨yQ Value.bool (GQ (j:=j) Aa<|PQ<|.inr qW).symm,hF.same⟩;refine rn 5<|Zb (Wd<|((j+1:Nat):Int)) ?_;refine rn 2<|Ha ⟨_,?_,j+1,O,Aa,Ip Aa ha<|dig_of qW qW,Va,hF⟩;omega;refine rn 11 ?_;exact⟨yQ Value.bool<|all_end Aa ha,hF.same⟩
def KF(x:Num)(w0:World):Calls prog 145 #[Lj x] w0 (Za λv w'=>v=.bool (decide (x=Num.zero))/\Same [] w0 w'):=by
 refine Ea func145 ntmps145 ?_;intro hF;refine rn 3 ?_;rintro b1 w hb1 hF -;refine rn 6<|Ba (w':=w) (v:=.agg #[.bool false,I [],J 0]) Ua ?_;refine Ba (v:=.bool<|decide (x=Num.zero)) (JX (a:=x) (b:=Num.zero) O O)<|rn 4 ?_;exact⟨O,hF.same⟩
def GI(x:Num)(hl:aL x.digits<=140737488355328)(w0:World):Calls prog 144 #[Lj x] w0 (Za λv w'=>v=.bool (Ub x)/\Same [] w0 w'):=by
 refine Ea func144 ntmps144 ?_;intro hF;refine rn 3 ?_;rintro b1 w hb1 hF -;refine rn 7<|Ia (KF x _) ?_;rintro w hF -;refine rn 3 ⟨λhc0=>?_,λhc0=>?_⟩;refine rn 6 ?_;exact⟨by rw[C3 hc0],hF.same⟩;refine rn 6<|Ia (Fu (x.digits) Aa _) ?_;rintro w hF -;refine rn 16 ⟨λhg0=>?_,λhg0=>?_⟩;refine rn 5 ⟨λhg1=>?_,λhg1=>?_⟩;have hpos:0<aL x.digits:=List.length_pos_iff.2<|Li qW;refine rn 2<|Ba (v:=.int .u8<|(((x.digits:Str)[0]'(hpos)).toNat:Int)) (Cb (0) jX O O hpos) ?_;refine rn 4 ⟨λhg2=>?_,λhg2=>?_⟩;refine rn 3<|Zb (AB<|((aL x.digits-1:Nat):Int))<|Ba (v:=.int .u8<|(((x.digits:Str)[aL x.digits-1]' Aa).toNat:Int)) (Cb (aL x.digits-1) jX O O Aa) ?_;refine rn 4 ⟨λhg3=>?_,λhg3=>?_⟩;refine rn 6 ⟨λhg4=>?_,λhg4=>?_⟩;refine rn 8 ?_;exact⟨by rw[Qo hc0 (by rw[(by assumption:We x.digits=true)];rfl) Aa hpos qW Aa qW,gZ (show (-1000000:Int)<=x.exp by omega),Bool.true_and],hF.same⟩;refine rn 8 ?_;exact⟨by rw[Qo hc0 (by rw[(by assumption:We x.digits=true)];rfl) Aa hpos qW Aa qW,fZ (show ¬(-1000000:Int)<=x.exp by omega),Bool.false_and],hF.same⟩;refine rn 13 ?_;exact⟨by rw[G2 hc0 Aa Aa],hF.same⟩;refine rn 21 ?_;exact⟨by rw[F3 hc0 hpos Aa],hF.same⟩;refine rn 27 ?_;exact⟨by rw[O1 hc0 Aa],hF.same⟩;refine rn 31 ?_;exact⟨by rw[L1 hc0 (by rw[(by assumption:We x.digits=false)];rfl)],hF.same⟩
def Kl:∀m:Nat,m<10->((([48,49,50,51,52,53,54,55,56,57]:Str).take (m+1)).drop m)=[UInt8.ofNat (48+m)]:=Ja
def LL(n:Int):Prop:=∀w0:World,Calls prog 146 #[J n] w0 (Za λv w'=>v=I (Lib.itoa n)/\Same [] w0 w')
def dec_ge(h:¬m<10):Lib.decDigits m=Lib.decDigits (m/10)++[UInt8.ofNat (48+m%10)]:=by rw[Lib.decDigits,dif_neg h]
theorem VU(m:Nat):(-(m:Int)).tdiv 10 = -((m/10:Nat):Int):=qK
theorem NA(m:Nat):(-(m:Int)).tmod 10 = -((m%10:Nat):Int):=qK
def dec_pos(m:Nat)(hm:(m:Int)<=9223372036854775807)(ih:∀q:Nat,q<m->LL (q:Int)):LL (m:Int):=by
 intro w0;refine Ea func146 ntmps146 ?_;intro hF;refine rn 14<|Ba (v:=.bool true) (Ud (AG O O) Aa) ?_;refine rn 7 ⟨λhc0=>?_,λhc0=>?_⟩;refine rn 5<|Zb (Wd<|((m+1:Nat):Int)) ?_;refine Ba (v:=I<|(([48,49,50,51,52,53,54,55,56,57]:Str).take (m+1)).drop (m)) (Eh (m) (m+1) jX rfl rfl rfl zS zS) ?_;refine rn 4 ?_;exact⟨by rw[Kl m Aa,Lib.itoa_nonneg,Lib.decDigits_one Aa],hF.same⟩;refine rn 6<|Ba (v:=.bool true) (Ud H3 Aa) ?_;refine rn 4<|Rb (zs:=.of []) (bQ [0,1,3,4,5,6,7,8,9]<|.act 2<|.free 10<|.free 11 .nil) hF ?_;intro w hF;refine rn 1<|Ga O (v:=J<|((m/10:Nat):Int)) (λw hC=>DQ O O Ja<|Gd O Aa Aa) ?_;refine rn 2<|Ga O (v:=J<|((m%10:Nat):Int)) (λw hC=>BH O) ?_;refine rn 1<|Ga O (v:=J<|((m%10:Nat):Int)) (λw hC=>BH O)<|CB O (Wd<|((m%10+1:Nat):Int)) ?_;refine Ga rfl (v:=I<|(([48,49,50,51,52,53,54,55,56,57]:Str).take (m%10+1)).drop (m%10)) (λw hC=>Eh (m%10) (m%10+1) jX rfl rfl rfl zS zS) ?_;refine Rc (ih (m/10) Aa _) ?_;rintro w hF -;refine Ga O (v:=I<|(Lib.itoa ((m/10:Nat):Int))++((([48,49,50,51,52,53,54,55,56,57]:Str).take (m%10+1)).drop (m%10))) (λw hC=>Gf O O (by have:=Lib.itoa_length_le ((m/10:Nat):Int) Aa Aa;rw[Kl _ Aa];exact fQ (Nat.add_le_add_right this 1) Ja)) ?_;refine rn 4 ?_;exact⟨by rw[Kl _ Aa,Lib.itoa_nonneg,Lib.itoa_nonneg,dec_ge (m:=m) Aa],hF.same⟩
def dec_neg(m:Nat)(h1:1<=m)(hm:(m:Int)<=9223372036854775808)(ih:∀q:Nat,q<m->1<=q->LL (-(q:Int))):LL (-(m:Int)):=by
 intro w0;refine Ea func146 ntmps146 ?_;intro hF;refine rn 14<|Ba (v:=.bool false) (Cc (AG O O) Aa) ?_;refine rn 13<|Ba (v:=.bool false) (Cc H3 Aa) ?_;refine rn 13 ⟨λhc2=>?_,λhc2=>?_⟩;refine rn 4<|Ba (v:=J<|(m:Int)) (K2 O<|Gd Aa Aa Aa) ?_;refine rn 1<|Ba (v:=J<|(m:Int)) (K2 O<|Gd Aa Aa Aa)<|Zb (Wd<|((m+1:Nat):Int)) ?_;refine Ba (v:=I<|(([48,49,50,51,52,53,54,55,56,57]:Str).take (m+1)).drop (m)) (Eh (m) (m+1) jX rfl rfl rfl zS zS) ?_;refine Ba (v:=I<|([45])++((([48,49,50,51,52,53,54,55,56,57]:Str).take (m+1)).drop (m))) (Gf O O (by rw[Kl _ Aa];simp)) ?_;refine rn 4 ?_;exact⟨by rw[Kl m Aa,Lib.itoa_neg m Aa,Lib.decDigits_one Aa];rfl,hF.same⟩;refine rn 3<|Rb (zs:=.of []) (bQ [0,1,3,4,5,6,7,8,9,10,11]<|.act 2<|.free 12<|.free 13 .nil) hF ?_;intro w hF;refine rn 1<|Ga O (v:=J<|-((m/10:Nat):Int)) (λw hC=>DQ O O Ja<|Gd (VU m) Aa Aa) ?_;refine rn 2<|Ga O (v:=J<|-((m%10:Nat):Int)) (λw hC=>BH<|NA m)<|Ga O (v:=J<|((m%10:Nat):Int)) (λw hC=>K2 O<|Gd Aa Aa Aa) ?_;refine rn 1<|Ga O (v:=J<|-((m%10:Nat):Int)) (λw hC=>BH<|NA m)<|Ga O (v:=J<|((m%10:Nat):Int)) (λw hC=>K2 O<|Gd Aa Aa Aa)<|CB O (Wd<|((m%10+1:Nat):Int)) ?_;refine Ga rfl (v:=I<|(([48,49,50,51,52,53,54,55,56,57]:Str).take (m%10+1)).drop (m%10)) (λw hC=>Eh (m%10) (m%10+1) jX rfl rfl rfl zS zS) ?_;refine Rc (ih (m/10) Aa Aa _) ?_;rintro w hF -;refine Ga O (v:=I<|(Lib.itoa<|-((m/10:Nat):Int))++((([48,49,50,51,52,53,54,55,56,57]:Str).take (m%10+1)).drop (m%10))) (λw hC=>Gf O O (by have:=Lib.itoa_length_le (-((m/10:Nat):Int)) Aa Aa;rw[Kl _ Aa];exact fQ (Nat.add_le_add_right this 1) Ja)) ?_
 refine rn 4 ?_;exact⟨by rw[Kl _ Aa,Lib.itoa_neg m Aa,Lib.itoa_neg (m/10) Aa,dec_ge (m:=m) Aa];rfl,hF.same⟩
def dec_c(n:Int)(h1:-9223372036854775808<=n)(h2:n<=9223372036854775807):LL n:=by
  have hp:∀m:Nat,(m:Int)<=9223372036854775807->LL (m:Int):=λm=>by
    induction m using Nat.strongRecOn with
    | ind m ih=>exact λhm=>dec_pos m hm λq hq=>ih q hq Aa
  have hn:∀m:Nat,1<=m->(m:Int)<=9223372036854775808->LL (-(m:Int)):=λm=>by
    induction m using Nat.strongRecOn with
    | ind m ih=>exact λh1 hm=>dec_neg m h1 hm λq hq hq1=>ih q hq hq1 Aa
  rcases Int.lt_or_le n 0 with h|h
  ·have := hn n.natAbs Aa Aa
   rwa [show -((n.natAbs:Nat):Int)=n by omega]at this
  have := hp n.toNat Aa
  rwa [show ((n.toNat:Nat):Int)=n by omega]at this
theorem Mr{x:Num}(h:Ub x=true)(h0:¬x=Num.zero):x.digits≠[]:=by grind [Ub,Li]
theorem YP(x:Num)(hl:aL x.digits<=140737488355328)(w0:World):Calls prog 87 #[Lj x] w0 (Za λv w'=>v=I (Ch x)/\Same [] w0 w'):=by
 refine Ea func87 ntmps87 ?_;intro hF;refine rn 3 ?_;rintro b1 w hb1 hF -;refine rn 6<|Ia (GI x hl _) ?_;rintro w hF -;refine rn 11 ⟨λhc0=>?_,λhc0=>?_⟩;refine rn 6 ?_;exact⟨by rw[Ch,uQ qX],hF.same⟩;refine rn 6<|Ia (KF x _) ?_;rintro w hF -;refine rn 3 ⟨λhc1=>?_,λhc1=>?_⟩;refine rn 6 ?_;have hz:x=Num.zero:=qW;exact⟨by subst hz;rfl,hF.same⟩;refine rn 17 ⟨λhc2=>?_,λhc2=>?_⟩;refine rn 2 ?_;refine Ba (v:=I<|([45])++(x.digits)) (Gf O O qM) ?_;refine rn 12 ⟨λhc3=>?_,λhc3=>?_⟩;refine rn 2 ?_;refine Ba (v:=I<|(([45])++(x.digits))++([101])) (Gf O O qM) ?_;refine rn 2 ?_;refine Ia (dec_c x.exp bG bG _) ?_;rintro w hF -;refine Ba (v:=I<|((([45])++(x.digits))++([101]))++(Lib.itoa x.exp)) (Gf O O wG) ?_;refine rn 10 ⟨yQ (λy=>Value.string<|bs y) ?_,hF.same⟩;have hne:=Mr (x:=x) qX qW;rw[Ch,tQ qX,tQ hne];simp_all;refine rn 9 ⟨yQ (λy=>Value.string<|bs y) ?_,hF.same⟩;have hne:=Mr (x:=x) qX qW;rw[Ch,tQ qX,tQ hne];simp_all;refine rn 11 ⟨λhc3=>?_,λhc3=>?_⟩;refine rn 2 ?_;refine Ba (v:=I<|(x.digits)++([101])) (Gf O O qM) ?_;refine rn 2 ?_;refine Ia (dec_c x.exp bG bG _) ?_;rintro w hF -;refine Ba (v:=I<|((x.digits)++([101]))++(Lib.itoa x.exp)) (Gf O O wG) ?_;refine rn 10 ⟨yQ (λy=>Value.string<|bs y) ?_,hF.same⟩;have hne:=Mr (x:=x) qX qW;rw[Ch,tQ qX,tQ hne]
 simp_all;refine rn 9 ⟨yQ (λy=>Value.string<|bs y) ?_,hF.same⟩;have hne:=Mr (x:=x) qX qW;rw[Ch,tQ qX,tQ hne];simp_all
def Bg(s:Str)(k:Int):Bool:=decide ((0:Int)<(aL s:Int))&&decide (bZ s 0=k)
theorem Py(h:(0:Int)<(aL s:Int):=by omega)(e:bZ s 0=k:=by omega):Bg s k=true:=by grind [Bg]
theorem Bl(h:¬(0:Int)<(aL s:Int):=by omega):Bg s k=false:=by grind [Bg]
theorem Pt(e:¬bZ s 0=k:=by omega):Bg s k=false:=by grind [Bg]
theorem W4(h:(0:Int)<(aL s:Int)):Bg s k=decide (bZ s 0=k):=by grind [Bg]
theorem CI(s:Str)(c:UInt8):Bg s (c.toNat:Int)=Lib.hasPrefix s [c]:=by
  cases s with
  | nil=>rfl
  | cons a s =>
    have h0:bZ (a::s) 0=(a.toNat:Int):=(Yh (s:=a::s) (p:=0) Da).symm;rw[Bg,h0,gZ Da,Bool.true_and];by_cases h:a=c
    ·subst h
     simp[Lib.hasPrefix]
    have : ¬ ((a.toNat : Int) = (c.toNat : Int)) := λe => h (UInt8.toNat.inj Aa);have h2:(c==a)=false:=qK
    rw[fZ this];simp[Lib.hasPrefix,List.isPrefixOf,h2]
theorem Qy{at_:Str}(hno:∀c∈s.take j,at_.contains c=false)(h:∀h:j<aL s,at_.contains s[j]=true)(hj:j<=aL s:=by omega):Ta at_ s=(s.take j,s.drop (j+1),decide (j<aL s)):=by
  by_cases hl:j<aL s
  ·grind [Gz]
  rw[eZ Aa]at hno ⊢;rw[Pz hno,List.drop_eq_nil_of_le Aa,fZ hl]
def eE_in{c:UInt8}(h:((c.toNat:Nat):Int)=101\/((c.toNat:Nat):Int)=69):([101,69]:Str).contains c=true:=by
  rcases h with h|h
  ·rw[(EQ (n:=101) Aa).1 h];decide
  rw[(EQ (n:=69) Aa).1 h];decide
theorem eE_out{c:UInt8}(h1:¬((c.toNat:Nat):Int)=101)(h2:¬((c.toNat:Nat):Int)=69):([101,69]:Str).contains c=false:=by
  rw[Bool.eq_false_iff];intro h;simp only[List.contains_cons,List.contains_nil,Bool.or_false,wQ,beq_iff_eq]at h;rcases h with rfl|rfl
  ·grind
  grind
def EY{c:UInt8}(h:((c.toNat:Nat):Int)=46):([46]:Str).contains c=true:=by rw[(EQ (n:=46) Aa).1 h];decide
theorem dot_out{c:UInt8}(h1:¬((c.toNat:Nat):Int)=46):([46]:Str).contains c=false:=by
  rw[Bool.eq_false_iff];intro h;simp_all
def Wq(f:Bool)(Z:Str):Str:=if f=true then (if Bg Z 45=true\/Bg Z 43=true then Z.drop 1 else Z) else [48]
theorem Sx(h:Bg Z 45=true):Wq true Z=Z.drop 1:=by grind [Wq]
theorem Xw(h:Bg Z 43=true):Wq true Z=Z.drop 1:=by grind [Wq]
theorem Rx(h:Bg Z 45=false)(h2:Bg Z 43=false):Wq true Z=Z:=by grind [Wq]
def FU(W R E:Str):Bool:=We W&&(We R&&(We E&&(decide (W=[48]) || decide (¬bZ W 0=48))))
structure Parts (s:Str) (neg:Bool) (whole rest:Str) (minus:Bool) (exp:Str) (ok:Bool):Prop where
  h : ∃(s1 W Z R1 : Str)(f g : Bool), neg = Bg s 45 /\ s1 = (if Bg s 45 = true then s.drop 1 else s) /\ Ta [101, 69] s1 = ((Ta [101, 69] s1).1, Z, f) /\ Ta [46] (Ta [101, 69] s1).1 = (W, R1, g) /\
    whole=W/\rest=(if g=true then R1 else [])/\minus=(f&&Bg Z 45)/\exp=Wq f Z/\ok=FU W (if g=true then R1 else [48]) (Wq f Z)
theorem parts_c(s:Str)(hl:aL s<=140737488355328)(w0:World):Calls prog 184 #[I s] w0 (Za λv w'=>∃neg whole rest minus exp ok,v=.tuple #[.bool neg,I whole,I rest,.bool minus,I exp,.bool ok]/\Parts s neg whole rest minus exp ok/\Same [] w0 w'):=by
 refine Ea func184 ntmps184 ?_;intro hF;refine rn 11<|Eb (λσ w=>∃(ng:Bool),(ng=Bg s 45)/\(ng=true->(0:Int)<aL s)/\AllEq σ [(0,I s),(8,.bool ng)]/\FR w0 [] [] w) ?_ ?_;refine rn 6 ⟨λhg0=>?_,λhg0=>?_⟩;refine rn 1 ?_;refine Ba (v:=.int .u8<|bZ (s) 0) (by rw[<-Yh (s:=s) (p:=0) Aa];exact Cb 0 jX O O Aa) ?_;refine rn 4 ?_;exact Ha ⟨decide ((bZ (s) 0:Int)=(45:Int)),jS,jW,Va,hF⟩;refine rn 6 ?_;exact Ha ⟨false,jS,jW,Va,hF⟩;rintro σ w ⟨ng,hng,hnl,hzz,hF⟩;refine Aj hzz 2<|Eb (λσ w=>∃(s1:Str),(s1=if Bg s 45=true then s.drop 1 else s)/\AllEq σ [(0,I s1),(8,.bool ng)]/\FR w0 [] [] w) ?_ ?_;refine rn 6 ⟨λhc0=>?_,λhc0=>?_⟩;have hnl2:=hnl hc0;refine rn 2<|Ba (v:=I<|(s:Str).drop (1)) (Qf (1) jX) ?_;refine rn 2 ?_;exact Ha ⟨(s:Str).drop (1),(by rw[<-hng];first|rw[uQ qW]|rw[tQ (by rw[hc0];decide)]),Va,hF⟩;refine rn 1 ?_;exact Ha ⟨s,(by rw[<-hng];first|rw[uQ qW]|rw[tQ (by rw[hc0];decide)]),Va,hF⟩;rintro σ w ⟨s1,hs1,hzz,hF⟩;have hl1:aL s1<=140737488355328:=by rw[hs1];split <;> (try simp) <;> omega
 refine Aj hzz 7<|Eb (λσ w=>∃(k:Nat),(k<=aL s1)/\(Ta [101,69] s1=(s1.take k,s1.drop<|k+1,decide (k<aL s1)))/\AllEq σ [(0,I s1),(8,.bool ng),(9,J<|(k:Int))]/\FR w0 [] [] w) ?_ ?_;refine rn 1<|Sa (λμ σ w=>∃(j:Nat),μ=aL s1-j/\(j<=aL s1)/\(∀c∈s1.take j,([101,69]:Str).contains c=false)/\AllEq σ [(0,I s1),(8,.bool ng),(9,J<|(j:Int))]/\FR w0 [] [] w) _ ⟨0,O,dZ _,Da,Va,hF⟩ ?_;rintro μ σ w ⟨j,rfl,hj,hno,hzz,hF⟩;refine Wf hzz 9 ⟨λhg1=>?_,λhg1=>?_⟩;refine rn 2<|Ba (v:=.int .u8<|(((s1:Str)[j]' Aa).toNat:Int)) (Cb (j) jX O O Aa) ?_;refine rn 4 ⟨λhg2=>?_,λhg2=>?_⟩;refine rn 2<|Ba (v:=.int .u8<|(((s1:Str)[j]' Aa).toNat:Int)) (Cb (j) jX O O Aa) ?_;refine rn 5 ⟨λhc1=>?_,λhc1=>?_⟩;refine rn 5<|Zb (Wd<|((j+1:Nat):Int)) ?_;refine rn 3<|Ha ⟨_,?_,j+1,O,Aa,NE Aa hno<|eE_out Aa Aa,Va,hF⟩;omega;refine rn 1 ?_;exact Ha ⟨j,Aa,Qy hno λh=>eE_in Aa,Va,hF⟩;refine rn 9 ?_;exact Ha ⟨j,Aa,Qy hno λh=>eE_in Aa,Va,hF⟩;refine rn 15 ?_;exact Ha ⟨j,Aa,Qy hno λh=>eE_in Aa,Va,hF⟩;rintro σ w ⟨k,hk,hcut,hzz,hF⟩;refine Aj hzz 11 ?_;have hZl:(aL (((s1:Str).drop (k+1)):Str):Int)=(aL s1-(k+1):Nat):=Da
 refine rn 1<|Eb (λσ w=>∃(ex:Str),∃(mi:Bool),(ex=Wq (decide (k<aL s1)) ((s1:Str).drop (k+1)))/\(mi=(decide (k<aL s1)&&Bg ((s1:Str).drop (k+1)) 45))/\AllEq σ [(0,I s1),(8,.bool ng),(9,J<|(k:Int)),(10,I ex),(11,.bool mi)]/\FR w0 [] [] w) ?_ ?_;refine rn 9 ⟨λhc2=>?_,λhc2=>?_⟩;refine rn 4<|Zb (Wd<|((k+1:Nat):Int))<|Ba (v:=I<|(s1:Str).drop (k+1)) (Qf (k+1) jX) ?_;refine rn 4<|Eb (λσ w=>∃(mj:Bool),(mj=Bg ((s1:Str).drop (k+1)) 45)/\(mj=true->(0:Int)<(aL (((s1:Str).drop (k+1)):Str):Int))/\AllEq σ [(0,I s1),(8,.bool ng),(9,J<|(k:Int)),(10,I<|(s1:Str).drop (k+1)),(11,.bool mj)]/\FR w0 [] [] w) ?_ ?_;refine rn 6 ⟨λhg3=>?_,λhg3=>?_⟩;refine rn 1 ?_;refine Ba (v:=.int .u8<|bZ (((s1:Str).drop (k+1))) 0) kJ ?_;refine rn 4 ?_;exact Ha ⟨decide ((bZ (((s1:Str).drop (k+1))) 0:Int)=(45:Int)),jS,jW,Va,hF⟩;refine rn 6 ?_;exact Ha ⟨false,jS,jW,Va,hF⟩;rintro σ w ⟨mj,hmj,hml,hzz,hF⟩;refine Aj hzz 6 ⟨λhg4=>?_,λhg4=>?_⟩;refine rn 12 ?_;have hZ1:(0:Int)<(aL (((s1:Str).drop (k+1)):Str):Int):=by first|omega|exact hml qW
 refine rn 2<|Ba (v:=I<|((s1:Str).drop (k+1):Str).drop (1)) (Qf (1) jX) ?_;refine rn 2 ?_;exact Ha ⟨((s1:Str).drop (k+1):Str).drop (1),mj,qV,qT,Va,hF⟩;refine rn 5 ⟨λhg5=>?_,λhg5=>?_⟩;refine rn 1 ?_;refine Ba (v:=.int .u8<|bZ (((s1:Str).drop (k+1))) 0) kJ ?_;refine rn 6 ⟨λhc3=>?_,λhc3=>?_⟩;have hZ1:(0:Int)<(aL (((s1:Str).drop (k+1)):Str):Int):=by first|omega|exact hml qW
 refine rn 2<|Ba (v:=I<|((s1:Str).drop (k+1):Str).drop (1)) (Qf (1) jX) ?_;refine rn 2 ?_;exact Ha ⟨((s1:Str).drop (k+1):Str).drop (1),mj,qV,qT,Va,hF⟩;refine rn 1 ?_;exact Ha ⟨(s1:Str).drop (k+1),mj,qV,qT,Va,hF⟩;refine rn 9 ?_;exact Ha ⟨(s1:Str).drop (k+1),mj,qV,qT,Va,hF⟩;refine rn 1 ?_;exact Ha ⟨[48],false,qV,qT,Va,hF⟩
 rintro σ w ⟨ex,mi,hex,hmi,hzz,hF⟩;have hex2:aL ex<=140737488355328:=by rw[hex];unfold Wq;(repeat' split) <;> (try simp) <;> omega
 have hlt:aL (s1.take k)<=140737488355328:=by simp;omega
 refine Aj hzz 5<|Ba (v:=I<|(s1:Str).take (k)) (Do (k) jX) ?_;refine rn 9<|Eb (λσ w=>∃(q:Nat),(q<=aL ((s1:Str).take k))/\(Ta [46] ((s1:Str).take k)=((((s1:Str).take k).take q),(((s1:Str).take k).drop (q+1)),decide (q<aL ((s1:Str).take k))))/\AllEq σ [(0,I<|(s1:Str).take (k)),(8,.bool ng),(9,J<|(q:Int)),(10,I ex),(11,.bool mi)]/\FR w0 [] [] w) ?_ ?_;refine rn 1<|Sa (λμ σ w=>∃(j:Nat),μ=aL ((s1:Str).take k)-j/\(j<=aL ((s1:Str).take k))/\(∀c∈((s1:Str).take k).take j,([46]:Str).contains c=false)/\AllEq σ [(0,I<|(s1:Str).take (k)),(8,.bool ng),(9,J<|(j:Int)),(10,I ex),(11,.bool mi)]/\FR w0 [] [] w) _ ⟨0,O,dZ _,Da,Va,hF⟩ ?_;rintro μ σ w ⟨j,rfl,hj,hno,hzz,hF⟩;refine Wf hzz 9 ⟨λhg6=>?_,λhg6=>?_⟩;refine rn 2<|Ba (v:=.int .u8<|((((s1:Str).take (k):Str)[j]' Aa).toNat:Int)) (Cb (j) jX O O Aa) ?_;refine rn 5 ⟨λhc4=>?_,λhc4=>?_⟩;refine rn 5<|Zb (Wd<|((j+1:Nat):Int)) ?_;refine rn 3<|Ha ⟨_,?_,j+1,O,Aa,NE Aa hno<|dot_out Aa,Va,hF⟩;omega;refine rn 1 ?_;exact Ha ⟨j,Aa,Qy hno λh=>EY Aa,Va,hF⟩;refine rn 9 ?_;exact Ha ⟨j,Aa,Qy hno λh=>EY Aa,Va,hF⟩;rintro σ w ⟨q,hq,hcut2,hzz,hF⟩;refine Aj hzz 5<|Ba (v:=I<|((s1:Str).take (k):Str).take (q)) (Do (q) jX) ?_;refine rn 9<|Eb (λσ w=>∃(re:Str),(re=if decide (q<aL ((s1:Str).take k))=true then (((s1:Str).take k).drop (q+1)) else [48])/\AllEq σ [(0,I<|(s1:Str).take (k)),(8,.bool ng),(9,J<|(q:Int)),(10,I ex),(11,.bool mi),(12,I<|((s1:Str).take (k):Str).take (q)),(13,I re)]/\FR w0 [] [] w) ?_ ?_;refine rn 9 ⟨λhc5=>?_,λhc5=>?_⟩;refine rn 3<|Zb (Wd<|((q+1:Nat):Int))<|Ba (v:=I<|((s1:Str).take (k):Str).drop (q+1)) (Qf (q+1) jX) ?_;refine rn 2 ?_
 ·exact Ha ⟨((s1:Str).take (k):Str).drop (q+1),wB,Va,hF⟩
 refine rn 1 ?_
 ·exact Ha ⟨[48],wB,Va,hF⟩
 rintro σ w ⟨re,hre,hzz,hF⟩;have hre2:aL re<=140737488355328:=by rw[hre];split <;> (try simp) <;> omega
 refine Aj hzz 2<|Eb (λσ w=>∃(ok:Bool),(ok=FU (((s1:Str).take k).take q) re ex)/\AllEq σ [(0,I<|(s1:Str).take (k)),(8,.bool ng),(9,J<|(q:Int)),(10,I ex),(11,.bool mi),(12,I<|((s1:Str).take (k):Str).take (q)),(13,I re),(14,.bool ok)]/\FR w0 [] [] w) ?_ ?_;refine rn 2 ?_;refine Ia (Fu (((s1:Str).take (k):Str).take (q)) (by have:=hlt;first|omega|(simp only[jZ,zQ]at *;omega)) _) ?_;rintro w hF -;refine rn 2 ⟨λhg7=>?_,λhg7=>?_⟩;refine rn 1<|Ia (Fu (re) hre2 _) ?_;rintro w hF -;refine rn 3 ⟨λhg8=>?_,λhg8=>?_⟩;refine rn 1<|Ia (Fu (ex) hex2 _) ?_;rintro w hF -;refine rn 3 ⟨λhg9=>?_,λhg9=>?_⟩;refine rn 4 ⟨λhg10=>?_,λhg10=>?_⟩;refine rn 7 ?_;exact Ha ⟨true,wW,Va,hF⟩;refine rn 1 ?_;refine Ba (v:=.int .u8<|bZ ((((s1:Str).take k).take q)) 0) (by rw[<-Yh (s:=(((s1:Str).take k).take q)) (p:=0) (List.length_pos_iff.2<|Li qW)];exact Cb 0 jX O O<|List.length_pos_iff.2<|Li qW) ?_;refine rn 5 ?_;exact Ha ⟨decide ((bZ ((((s1:Str).take k).take q)) 0:Int)≠(48:Int)),wW,Va,hF⟩;refine rn 10 ?_;exact Ha ⟨false,wW,Va,hF⟩;refine rn 14 ?_;exact Ha ⟨false,wW,Va,hF⟩;refine rn 18 ?_;exact Ha ⟨false,wW,Va,hF⟩;rintro σ w ⟨ok,hok,hzz,hF⟩;refine Aj hzz 2<|Eb (λσ w=>∃(rs:Str),(rs=if decide (q<aL ((s1:Str).take k))=true then (((s1:Str).take k).drop (q+1)) else [])/\AllEq σ [(8,.bool ng),(10,I ex),(11,.bool mi),(12,I<|((s1:Str).take (k):Str).take (q)),(13,I rs),(14,.bool ok)]/\FR w0 [] [] w) ?_ ?_;refine rn 9 ⟨λhc6=>?_,λhc6=>?_⟩;refine rn 3 ?_
 ·exact Ha ⟨[],bU,Va,hF⟩
 refine rn 1 ?_
 ·exact Ha ⟨re,bU,Va,hF⟩
 rintro σ w ⟨rs,hrs,hzz,hF⟩;refine Aj hzz 17<|Rf<|Yd λ_ hr=>Nc (res_6 (v1:=.bool _) (v2:=I<|((s1:Str).take (k):Str).take (q)) (v3:=I rs) (v4:=.bool _) (v5:=I ex) (v6:=.bool _) hr O O O O O O) ?_;exact⟨_,_,_,_,_,_,O,⟨s1,((s1:Str).take k).take q,(s1:Str).drop (k+1),((s1:Str).take k).drop (q+1),_,_,hng,hs1,by rw[hcut],by rw[hcut];exact hcut2,O,hrs,hmi,hex,by rw[<-hre,<-hex];exact hok⟩,hF.same⟩
end Go.Scarf
