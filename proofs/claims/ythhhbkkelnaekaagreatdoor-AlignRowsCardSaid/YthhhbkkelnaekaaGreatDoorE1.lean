/- A part of the proof. -/
import Derived.Test.YthhhbkkelnaekaaGreatDoorW4
import Derived.Test.YthhhbkkelnaekaaGreatDoorW19
import Derived.Lib.DecodeN
import Derived.Test.YthhhbkkelnaekaaGreatDoorW2
import Derived.Lib.ItoaMem
set_option linter.all false
set_option maxHeartbeats 8000000
set_option maxRecDepth 10000
namespace Go.Scarf
open Go.RowKit Go.Proofs Go.Proofs.Tryz
def Ki (c:Int):Int:=if c < 128 then 1 else if 194≤c∧c≤223 then 2 else if 224≤c∧c≤239 then 3 else if 240≤c∧c≤244 then 4 else 0
theorem SI (c:Int):Ki c=0∨Ki c=1∨Ki c=2∨Ki c=3∨Ki c=4:=by
  unfold Ki
  repeat' split
  all_goals simp
def bZ (s:Str) (p:Nat):Int:=(((bs s).get! p).toNat:Int)
theorem Ii {s:Str} {p:Nat} (h:p < s.length):((s[p].toNat:Nat):Int)=bZ s p:=by
  have h':p < (bs s).data.toList.length:=h
  unfold bZ
  have:(bs s).get! p=s[p]:=by
    show (bs s).data[p]! = s[p]
    rw [getElem!_pos (bs s).data p (by simpa using h')]
    rfl
  rw [this]
theorem Qi (s:Str) (p:Nat):0≤bZ s p∧bZ s p < 256:=by
  unfold bZ
  have:=UInt8.toNat_lt ((bs s).get! p)
  omega
theorem Z3 (s:Str) (p:Nat):Utf8.decode (bs s) p=Lib.decodeN (s.length - p) (bZ s p).toNat (bZ s (p+1)).toNat (bZ s (p+2)).toNat (bZ s (p+3)).toNat:=by
  rw [Lib.decode_at]
  rfl
theorem KX {s:Str} {p i:Nat} {v v3:Int} (h1:1≤i) (h4:i < 4)
    (hv:(i=1→v=v3)∧(i=2→v=64 * v3+bZ s (p+1) - 128)∧(i=3→v=64 * (64 * v3+bZ s (p+1) - 128)+bZ s (p+2) - 128)∧(i=4→v=64 * (64 * (64 * v3+bZ s (p+1) - 128)+bZ s (p+2) - 128)+bZ s (p+3) - 128)) :
    (i+1=1→64 * v+bZ s (p+i) - 128=v3)∧(i+1=2→64 * v+bZ s (p+i) - 128=64 * v3+bZ s (p+1) - 128)∧(i+1=3→64 * v+bZ s (p+i) - 128=64 * (64 * v3+bZ s (p+1) - 128)+bZ s (p+2) - 128)∧(i+1=4→64 * v+bZ s (p+i) - 128=64 * (64 * (64 * v3+bZ s (p+1) - 128)+bZ s (p+2) - 128)+bZ s (p+3) - 128):=by
  obtain rfl | rfl | rfl:i=1∨i=2∨i=3:=by omega
  · rw [hv.1 rfl]; exact ⟨fun h=>absurd h U,fun _=>rfl,fun h=>absurd h U,fun h=>absurd h U⟩
  · rw [hv.2.1 rfl]; exact ⟨fun h=>absurd h U,fun h=>absurd h U,fun _=>rfl,fun h=>absurd h U⟩
  · rw [hv.2.2.1 rfl]; exact ⟨fun h=>absurd h U,fun h=>absurd h U,fun h=>absurd h U,fun _=>rfl⟩
theorem BS {s:Str} {p i:Nat} (h1:1≤i) (h4:i < 4) (hc:128≤bZ s (p+i)∧bZ s (p+i)≤191)
    (hcb:(2≤i→128≤bZ s (p+1)∧bZ s (p+1)≤191)∧(3≤i→128≤bZ s (p+2)∧bZ s (p+2)≤191)∧(4≤i→128≤bZ s (p+3)∧bZ s (p+3)≤191)) :
    (2≤i+1→128≤bZ s (p+1)∧bZ s (p+1)≤191)∧(3≤i+1→128≤bZ s (p+2)∧bZ s (p+2)≤191)∧(4≤i+1→128≤bZ s (p+3)∧bZ s (p+3)≤191):=by
  obtain rfl | rfl | rfl:i=1∨i=2∨i=3:=by omega
  · exact ⟨fun _=>hc,fun h=>absurd h U,fun h=>absurd h U⟩
  · exact ⟨fun _=>hcb.1 U,fun _=>hc,fun h=>absurd h U⟩
  · exact ⟨fun _=>hcb.1 U,fun _=>hcb.2.1 U,fun _=>hc⟩
theorem OV {s:Str} {p i:Nat} {v v3:Int} (h1:1≤i) (h4:i≤4) (h0:0≤v3∧v3≤255)
    (hv:(i=1→v=v3)∧(i=2→v=64 * v3+bZ s (p+1) - 128)∧(i=3→v=64 * (64 * v3+bZ s (p+1) - 128)+bZ s (p+2) - 128)∧(i=4→v=64 * (64 * (64 * v3+bZ s (p+1) - 128)+bZ s (p+2) - 128)+bZ s (p+3) - 128))
    (hcb:(2≤i→128≤bZ s (p+1)∧bZ s (p+1)≤191)∧(3≤i→128≤bZ s (p+2)∧bZ s (p+2)≤191)∧(4≤i→128≤bZ s (p+3)∧bZ s (p+3)≤191))
    (r1:0≤bZ s (p+1)∧bZ s (p+1) < 256) (r2:0≤bZ s (p+2)∧bZ s (p+2) < 256) (r3:0≤bZ s (p+3)∧bZ s (p+3) < 256):0≤v∧v < 100000000:=by
  obtain rfl | rfl | rfl | rfl:i=1∨i=2∨i=3∨i=4:=by omega
  · have:=hv.1 rfl; clear hv hcb; omega
  · have:=hv.2.1 rfl; have:=hcb.1 U; clear hv hcb; omega
  · have:=hv.2.2.1 rfl; have:=hcb.1 U; have:=hcb.2.1 U; clear hv hcb; omega
  · have:=hv.2.2.2 rfl; have:=hcb.1 U; have:=hcb.2.1 U; have:=hcb.2.2 U; clear hv hcb; omega
theorem Nf {a b:Int} {d:Nat × Nat} (h1:a=(d.1:Int)) (h2:b=(d.2:Int)):Value.tuple #[.int .i32 a,.int .i64 b]=.tuple #[.int .i32 (d.1:Int),.int .i64 (d.2:Int)]:=by rw [h1,h2]
theorem CY {m b0 b1 b2 b3:Nat} (h:(128≤b0∧b0 < 194)∨(245≤b0∧b0 < 256)):Lib.decodeN m b0 b1 b2 b3=(65533,1):=by
  unfold Lib.decodeN
  rw [if_neg U]
  by_cases h1:b0 / 32=6
  · have h2 : b0 % 32 < 2 := by omega
    have h3:¬b0 / 16=14:=by omega
    have h4:¬b0 / 8=30:=by omega
    have h5:¬(b0 % 32 * 64+b1 % 64 ≥ 128):=by omega
    by_cases hc:1 < m∧b1 / 64=2
    · rw [if_pos ⟨h1,hc⟩,if_neg h5]
    · rw [if_neg (fun h=>hc h.2),if_neg (fun h=>h3 h.1),if_neg (fun h=>h4 h.1)]
  · have h3 : ¬ b0 / 16 = 14 := by omega
    rw [if_neg (fun h=>h1 h.1),if_neg (fun h=>h3 h.1)]
    by_cases h4:b0 / 8=30
    · have h6 : 5 ≤ b0 % 8 := by omega
      split
      · rw [if_neg U]
      · rfl
    · rw [if_neg (fun h=>h4 h.1)]
theorem YX {m b0 b1 b2 b3:Nat} (h:b0 < 128):Lib.decodeN m b0 b1 b2 b3=(b0,1):=by
  unfold Lib.decodeN
  rw [if_pos h]
theorem CF {m b0 b1 b2 b3:Nat} (h:194≤b0∧b0 < 224) (h1:b1 < 256):Lib.decodeN m b0 b1 b2 b3=if 1 < m∧(128≤b1∧b1≤191) then (64 * (b0 - 192)+(b1 - 128),2) else (65533,1):=by
  unfold Lib.decodeN
  have e2:b0 / 32=6:=by omega
  have e3:¬b0 / 16=14:=by omega
  have e4:¬b0 / 8=30:=by omega
  rw [if_neg U]
  by_cases hc:1 < m∧(128≤b1∧b1≤191)
  · have ec : b1 / 64 = 2 := by omega
    have ev:b0 % 32 * 64+b1 % 64=64 * (b0 - 192)+(b1 - 128):=by omega
    have eg:64 * (b0 - 192)+(b1 - 128) ≥ 128:=by omega
    rw [if_pos hc,if_pos ⟨e2,hc.1,ec⟩,ev,if_pos eg]
  · rw [if_neg hc,if_neg (fun h=>hc ⟨h.2.1,by omega⟩),if_neg (fun h=>e3 h.1),if_neg (fun h=>e4 h.1)]
theorem XD {m b0 b1 b2 b3:Nat} (h:224≤b0∧b0 < 240) (h1:b1 < 256) (h2:b2 < 256):Lib.decodeN m b0 b1 b2 b3=if 2 < m∧(128≤b1∧b1≤191)∧(128≤b2∧b2≤191) then
    (if 64 * (64 * (b0 - 224)+(b1 - 128))+(b2 - 128) < 2048∨(55296≤64 * (64 * (b0 - 224)+(b1 - 128))+(b2 - 128)∧64 * (64 * (b0 - 224)+(b1 - 128))+(b2 - 128) < 57344) then (65533,1) else (64 * (64 * (b0 - 224)+(b1 - 128))+(b2 - 128),3)) else (65533,1):=by
  unfold Lib.decodeN
  have e2:¬b0 / 32=6:=by omega
  have e3:b0 / 16=14:=by omega
  have e4:¬b0 / 8=30:=by omega
  rw [if_neg U,if_neg (fun h=>e2 h.1)]
  by_cases hc:2 < m∧(128≤b1∧b1≤191)∧(128≤b2∧b2≤191)
  · have c1 : b1 / 64 = 2 := by omega
    have c2:b2 / 64=2:=by omega
    have ev:b0 % 16 * 4096+b1 % 64 * 64+b2 % 64=64 * (64 * (b0 - 224)+(b1 - 128))+(b2 - 128):=by omega
    rw [if_pos hc,if_pos ⟨e3,⟨by omega,c1⟩,hc.1,c2⟩,ev]
    have hlt:64 * (64 * (b0 - 224)+(b1 - 128))+(b2 - 128) < 65536:=by omega
    generalize 64 * (64 * (b0 - 224)+(b1 - 128))+(b2 - 128)=v at *
    by_cases hv:v < 2048∨(55296≤v∧v < 57344)
    · rw [if_pos hv,if_neg U]
    · rw [if_neg hv,if_pos U]
  · rw [if_neg hc,if_neg (fun h=>hc ⟨h.2.2.1,by omega,by omega⟩),if_neg (fun h=>e4 h.1)]
theorem KD {m b0 b1 b2 b3:Nat} (h:240≤b0∧b0 < 245) (h1:b1 < 256) (h2:b2 < 256) (h3:b3 < 256):Lib.decodeN m b0 b1 b2 b3=if 3 < m∧(128≤b1∧b1≤191)∧(128≤b2∧b2≤191)∧(128≤b3∧b3≤191) then
    (if 64 * (64 * (64 * (b0 - 240)+(b1 - 128))+(b2 - 128))+(b3 - 128) < 65536∨1114111 < 64 * (64 * (64 * (b0 - 240)+(b1 - 128))+(b2 - 128))+(b3 - 128) then (65533,1) else (64 * (64 * (64 * (b0 - 240)+(b1 - 128))+(b2 - 128))+(b3 - 128),4)) else (65533,1):=by
  unfold Lib.decodeN
  have e2:¬b0 / 32=6:=by omega
  have e3:¬b0 / 16=14:=by omega
  have e4:b0 / 8=30:=by omega
  rw [if_neg U,if_neg (fun h=>e2 h.1),if_neg (fun h=>e3 h.1)]
  by_cases hc:3 < m∧(128≤b1∧b1≤191)∧(128≤b2∧b2≤191)∧(128≤b3∧b3≤191)
  · have c1 : b1 / 64 = 2 := by omega
    have c2:b2 / 64=2:=by omega
    have c3:b3 / 64=2:=by omega
    have ev:b0 % 8 * 262144+b1 % 64 * 4096+b2 % 64 * 64+b3 % 64=64 * (64 * (64 * (b0 - 240)+(b1 - 128))+(b2 - 128))+(b3 - 128):=by omega
    rw [if_pos hc,if_pos ⟨e4,⟨by omega,c1⟩,⟨by omega,c2⟩,hc.1,c3⟩,ev]
    generalize 64 * (64 * (64 * (b0 - 240)+(b1 - 128))+(b2 - 128))+(b3 - 128)=v at *
    by_cases hv:v < 65536∨1114111 < v
    · rw [if_pos hv,if_neg U]
    · rw [if_neg hv,if_pos U]
  · rw [if_neg hc,if_neg (fun h=>hc ⟨h.2.2.2.1,by omega,by omega,by omega⟩)]
theorem Yx {b:Int} {n:Nat} (hb:0≤b∧b < 256) (h:Ki b=(n:Int)):(n=0∧((128≤b∧b < 194)∨(245≤b∧b < 256)))∨(n=1∧b < 128)∨(n=2∧194≤b∧b < 224)∨(n=3∧224≤b∧b < 240)∨(n=4∧240≤b∧b < 245):=by
  unfold Ki at h
  (repeat' split at h) <;> omega
def V0 (n:Nat) (b:Int):Int:=if n=2 then b - 192 else if n=3 then b - 224 else if n=4 then b - 240 else b
theorem C4 {s:Str} {p n:Nat} (hp:p < s.length) (hw:Ki (bZ s p)=(n:Int)) (h:n=0∨(s.length:Int) - p < n):Utf8.decode (bs s) p=(65533,1):=by
  have h0:=Qi s p
  have h1:=Qi s (p+1)
  have h2:=Qi s (p+2)
  have h3:=Qi s (p+3)
  rw [Z3]
  rcases Yx h0 hw with ⟨hn,hb⟩ | ⟨hn,hb⟩ | ⟨hn,hb⟩ | ⟨hn,hb⟩ | ⟨hn,hb⟩
  · exact CY U
  · omega
  · rw [CF U U,if_neg U]
  · rw [XD U U U,if_neg U]
  · rw [KD U U U U,if_neg U]
theorem M5 {s:Str} {p n i:Nat} (hw:Ki (bZ s p)=(n:Int)) (h1i:1≤i) (hi:i < n) (hc:bZ s (p+i) < 128∨191 < bZ s (p+i)):Utf8.decode (bs s) p=(65533,1):=by
  have h0:=Qi s p
  have h1:=Qi s (p+1)
  have h2:=Qi s (p+2)
  have h3:=Qi s (p+3)
  rw [Z3]
  rcases Yx h0 hw with ⟨hn,hb⟩ | ⟨hn,hb⟩ | ⟨hn,hb⟩ | ⟨hn,hb⟩ | ⟨hn,hb⟩
  · omega
  · omega
  · obtain rfl : i = 1 := by omega
    rw [CF U U,if_neg U]
  · rw [XD U U U, if_neg]
    rintro ⟨-,a,b⟩
    obtain rfl | rfl:i=1∨i=2:=by omega
    · omega
    · omega
  · rw [KD U U U U, if_neg]
    rintro ⟨-,a,b,c⟩
    obtain rfl | rfl | rfl:i=1∨i=2∨i=3:=by omega
    · omega
    · omega
    · omega
theorem Re {s:Str} {p n i:Nat} {v v3:Int} (hw:Ki (bZ s p)=(n:Int)) (hn0:¬n=0) (hm:(n:Int)≤(s.length:Int) - p) (hin:n≤i) (hi1:1≤i∧(i≤n∨i=1)) (hv0:v3=V0 n (bZ s p))
    (hv:(i=1→v=v3)∧(i=2→v=64 * v3+bZ s (p+1) - 128)∧(i=3→v=64 * (64 * v3+bZ s (p+1) - 128)+bZ s (p+2) - 128)∧(i=4→v=64 * (64 * (64 * v3+bZ s (p+1) - 128)+bZ s (p+2) - 128)+bZ s (p+3) - 128))
    (hcb:(2≤i→128≤bZ s (p+1)∧bZ s (p+1)≤191)∧(3≤i→128≤bZ s (p+2)∧bZ s (p+2)≤191)∧(4≤i→128≤bZ s (p+3)∧bZ s (p+3)≤191)) :
    0≤v∧v < 2147483648∧Utf8.decode (bs s) p=if (n=3∧v < 2048)∨(n=4∧v < 65536)∨1114111 < v∨(55296≤v∧v < 57344) then (65533,1) else (v.toNat,n):=by
  have h0:=Qi s p
  have h1:=Qi s (p+1)
  have h2:=Qi s (p+2)
  have h3:=Qi s (p+3)
  rw [Z3]
  rcases Yx h0 hw with ⟨hn,hb⟩ | ⟨hn,hb⟩ | ⟨hn,hb⟩ | ⟨hn,hb⟩ | ⟨hn,hb⟩
  · exact absurd hn hn0
  · subst hn
    obtain rfl:i=1:=by omega
    have e:=hv.1 rfl
    have e0:v3=bZ s p:=hv0
    clear hv hcb hv0
    refine ⟨by omega,by omega,?_⟩
    rw [YX U,if_neg U]
    exact Prod.ext (by show _=v.toNat; omega) O
  · subst hn
    obtain rfl:i=2:=by omega
    have e:=hv.2.1 rfl
    have c1:=hcb.1 U
    have e0:v3=bZ s p - 192:=hv0
    clear hv hcb hv0
    refine ⟨by omega,by omega,?_⟩
    rw [CF U U,if_pos U,if_neg U]
    exact Prod.ext (by show _=v.toNat; simp only; omega) O
  · subst hn
    obtain rfl:i=3:=by omega
    have e:=hv.2.2.1 rfl
    have c1:=hcb.1 U
    have c2:=hcb.2.1 U
    have e0:v3=bZ s p - 224:=hv0
    clear hv hcb hv0
    refine ⟨by omega,by omega,?_⟩
    rw [XD U U U,if_pos U]
    have ev:64 * (64 * ((bZ s p).toNat - 224)+((bZ s (p+1)).toNat - 128))+((bZ s (p+2)).toNat - 128)=v.toNat:=by omega
    rw [ev]
    by_cases hx:(3=3∧v < 2048)∨(3=4∧v < 65536)∨1114111 < v∨(55296≤v∧v < 57344)
    · rw [if_pos hx,if_pos U]
    · rw [if_neg hx,if_neg U]
  · subst hn
    obtain rfl:i=4:=by omega
    have e:=hv.2.2.2 rfl
    have c1:=hcb.1 U
    have c2:=hcb.2.1 U
    have c3:=hcb.2.2 U
    have e0:v3=bZ s p - 240:=hv0
    clear hv hcb hv0
    refine ⟨by omega,by omega,?_⟩
    rw [KD U U U U,if_pos U]
    have ev:64 * (64 * (64 * ((bZ s p).toNat - 240)+((bZ s (p+1)).toNat - 128))+((bZ s (p+2)).toNat - 128))+((bZ s (p+3)).toNat - 128)=v.toNat:=by omega
    rw [ev]
    by_cases hx:(4=3∧v < 2048)∨(4=4∧v < 65536)∨1114111 < v∨(55296≤v∧v < 57344)
    · rw [if_pos hx,if_pos U]
    · rw [if_neg hx,if_neg U]
theorem DX (c:Int) (w0:World):Calls prog 205 #[.int .i64 c] w0 (De fun v w'=>v=.int .i64 (Ki c)∧Same [] w0 w'):=by
 refine Ka func205 O ntmps205 Kb (Sc _) ?_
 have hF:=FR.start w0 []
 refine Ia (Ca (Wb O) (Ea (Ha (Ia (Ca (Va O) (Ca (Yg O O) (Ea ?_)))))))
 refine Yb O O (fun hc0=>?_) (fun hc0=>?_)
 refine Ia (Ca (Wb O) (Ea ?_))
 refine Td (v:=.int .i64 1) O O ?_
 refine ⟨congrArg (Value.int .i64) ?_,hF.same⟩
 unfold Ki
 (repeat' split) <;> omega
 refine Qa (Ga (Ha (Ia (Ca (Va O) (Ca (Rv O O) (Ca (Jc O) ?_))))))
 refine Hb (d:=7) O (fun hg0=>?_) (fun hg0=>?_)
 refine Ca (Va O) (Ca (J1 O O) (Ca (Ic O O) (Ea ?_)))
 refine Yb O O (fun hc1=>?_) (fun hc1=>?_)
 refine Ia (Ca (Wb O) (Ea ?_))
 refine Td (v:=.int .i64 2) O O ?_
 refine ⟨congrArg (Value.int .i64) ?_,hF.same⟩
 unfold Ki
 (repeat' split) <;> omega
 refine Qa (Ga (Ha (Ia (Ca (Va O) (Ca (Rv O O) (Ca (Jc O) ?_))))))
 refine Hb (d:=13) O (fun hg1=>?_) (fun hg1=>?_)
 refine Ca (Va O) (Ca (J1 O O) (Ca (Ic O O) (Ea ?_)))
 refine Yb O O (fun hc2=>?_) (fun hc2=>?_)
 refine Ia (Ca (Wb O) (Ea ?_))
 refine Td (v:=.int .i64 3) O O ?_
 refine ⟨congrArg (Value.int .i64) ?_,hF.same⟩
 unfold Ki
 (repeat' split) <;> omega
 refine Qa (Ga (Ha (Ia (Ca (Va O) (Ca (Rv O O) (Ca (Jc O) ?_))))))
 refine Hb (d:=19) O (fun hg2=>?_) (fun hg2=>?_)
 refine Ca (Va O) (Ca (J1 O O) (Ca (Ic O O) (Ea ?_)))
 refine Yb O O (fun hc3=>?_) (fun hc3=>?_)
 refine Ia (Ca (Wb O) (Ea ?_))
 refine Td (v:=.int .i64 4) O O ?_
 refine ⟨congrArg (Value.int .i64) ?_,hF.same⟩
 unfold Ki
 (repeat' split) <;> omega
 refine Qa (Ga (Ia (Ca (Wb O) (Ea ?_))))
 refine Td (v:=.int .i64 0) O O ?_
 refine ⟨congrArg (Value.int .i64) ?_,hF.same⟩
 unfold Ki
 (repeat' split) <;> omega
 refine Da (Da (Ca (Gc O O) (Ea (Qj O (Ia (Ca (Wb O) (Ea ?_)))))))
 refine Td (v:=.int .i64 0) O O ?_
 refine ⟨congrArg (Value.int .i64) ?_,hF.same⟩
 unfold Ki
 (repeat' split) <;> omega
 refine Da (Da (Ca (Gc O O) (Ea (Qj O (Ha (Ia (Ca (Va O) (Ca (Rv O O) (Ca (Jc O) ?_)))))))))
 refine Hb (d:=19) O (fun hg3=>?_) (fun hg3=>?_)
 refine Ca (Va O) (Ca (J1 O O) (Ca (Ic O O) (Ea ?_)))
 refine Yb O O (fun hc3=>?_) (fun hc3=>?_)
 refine Ia (Ca (Wb O) (Ea ?_))
 refine Td (v:=.int .i64 4) O O ?_
 refine ⟨congrArg (Value.int .i64) ?_,hF.same⟩
 unfold Ki
 (repeat' split) <;> omega
 refine Qa (Ga (Ia (Ca (Wb O) (Ea ?_))))
 refine Td (v:=.int .i64 0) O O ?_
 refine ⟨congrArg (Value.int .i64) ?_,hF.same⟩
 unfold Ki
 (repeat' split) <;> omega
 refine Da (Da (Ca (Gc O O) (Ea (Qj O (Ia (Ca (Wb O) (Ea ?_)))))))
 refine Td (v:=.int .i64 0) O O ?_
 refine ⟨congrArg (Value.int .i64) ?_,hF.same⟩
 unfold Ki
 (repeat' split) <;> omega
 refine Da (Da (Ca (Gc O O) (Ea (Qj O (Ha (Ia (Ca (Va O) (Ca (Rv O O) (Ca (Jc O) ?_)))))))))
 refine Hb (d:=13) O (fun hg4=>?_) (fun hg4=>?_)
 refine Ca (Va O) (Ca (J1 O O) (Ca (Ic O O) (Ea ?_)))
 refine Yb O O (fun hc2=>?_) (fun hc2=>?_)
 refine Ia (Ca (Wb O) (Ea ?_))
 refine Td (v:=.int .i64 3) O O ?_
 refine ⟨congrArg (Value.int .i64) ?_,hF.same⟩
 unfold Ki
 (repeat' split) <;> omega
 refine Qa (Ga (Ha (Ia (Ca (Va O) (Ca (Rv O O) (Ca (Jc O) ?_))))))
 refine Hb (d:=19) O (fun hg5=>?_) (fun hg5=>?_)
 refine Ca (Va O) (Ca (J1 O O) (Ca (Ic O O) (Ea ?_)))
 refine Yb O O (fun hc3=>?_) (fun hc3=>?_)
 refine Ia (Ca (Wb O) (Ea ?_))
 refine Td (v:=.int .i64 4) O O ?_
 refine ⟨congrArg (Value.int .i64) ?_,hF.same⟩
 unfold Ki
 (repeat' split) <;> omega
 refine Qa (Ga (Ia (Ca (Wb O) (Ea ?_))))
 refine Td (v:=.int .i64 0) O O ?_
 refine ⟨congrArg (Value.int .i64) ?_,hF.same⟩
 unfold Ki
 (repeat' split) <;> omega
 refine Da (Da (Ca (Gc O O) (Ea (Qj O (Ia (Ca (Wb O) (Ea ?_)))))))
 refine Td (v:=.int .i64 0) O O ?_
 refine ⟨congrArg (Value.int .i64) ?_,hF.same⟩
 unfold Ki
 (repeat' split) <;> omega
 refine Da (Da (Ca (Gc O O) (Ea (Qj O (Ha (Ia (Ca (Va O) (Ca (Rv O O) (Ca (Jc O) ?_)))))))))
 refine Hb (d:=19) O (fun hg6=>?_) (fun hg6=>?_)
 refine Ca (Va O) (Ca (J1 O O) (Ca (Ic O O) (Ea ?_)))
 refine Yb O O (fun hc3=>?_) (fun hc3=>?_)
 refine Ia (Ca (Wb O) (Ea ?_))
 refine Td (v:=.int .i64 4) O O ?_
 refine ⟨congrArg (Value.int .i64) ?_,hF.same⟩
 unfold Ki
 (repeat' split) <;> omega
 refine Qa (Ga (Ia (Ca (Wb O) (Ea ?_))))
 refine Td (v:=.int .i64 0) O O ?_
 refine ⟨congrArg (Value.int .i64) ?_,hF.same⟩
 unfold Ki
 (repeat' split) <;> omega
 refine Da (Da (Ca (Gc O O) (Ea (Qj O (Ia (Ca (Wb O) (Ea ?_)))))))
 refine Td (v:=.int .i64 0) O O ?_
 refine ⟨congrArg (Value.int .i64) ?_,hF.same⟩
 unfold Ki
 (repeat' split) <;> omega
theorem OQ (s:Str) (p:Nat) (hp:p < s.length) (hl:s.length≤140737488355328) (w0:World):Calls prog 166 #[.string (bs s),.int .i64 (p:Int)] w0 (De fun v w'=>v=.tuple #[.int .i32 ((Utf8.decode (bs s) p).1:Int),.int .i64 ((Utf8.decode (bs s) p).2:Int)]∧Same [] w0 w'):=by
 obtain ⟨n,hw,hn4⟩:∃ n:Nat,Ki (bZ s p)=(n:Int)∧n≤4:=by rcases SI (bZ s p) with h | h | h | h | h; exact ⟨0,h,by omega⟩; exact ⟨1,h,by omega⟩; exact ⟨2,h,by omega⟩; exact ⟨3,h,by omega⟩; exact ⟨4,h,by omega⟩
 have hb0:=Qi s p
 have hb1:=Qi s (p+1)
 have hb2:=Qi s (p+2)
 have hb3:=Qi s (p+3)
 refine Ka func166 O ntmps166 Kb (Ee _ _) ?_
 have hF:=FR.start w0 []
 refine Ia (Ca (Wb O) (Ca (Wb O) (Ea (Ha (Ia (Ca (Va O) (Ja (v:=.bool false) (Zc (E7 O O) U) (Ca (Jc O) (Ca (Va O) (Ca (Qc O) ?_))))))))))
 refine Ca (Xl underlying9 O) (Ja (v:=.bool false) (Zc (Z_ O O) U) (Ca (Gc O O) (Ea (Qj O (Ia (Ca (Qc O) (Ca (Va O) ?_)))))))
 refine Ja (v:=.int .u8 (bZ s p)) (by rw [←Ii hp]; exact Kd p underlying9 O O hp) ?_
 refine Ja (v:=.int .i64 (bZ s p)) (Be underlying5 underlying3 O (Ji U U)) ?_
 refine Pb (DX (bZ s p) _) (Cb AX O O) ?_
 rintro _ w ⟨rfl,hE⟩
 rw [hw]
 replace hF:=hF.ext hE
 clear hE
 refine Ca (Wb O) (Ea (Ha (Ia (Ca (Va O) (Ca (Th O O) (Ca (Jc O) ?_))))))
 refine Hb (d:=25) O (fun hg0=>?_) (fun hg0=>?_)
 refine Da (Da (Da (Da (Da (Da (Ca (Ic O O) (Ea (Ae O (Ia (Ca (Wb O) (Ca (Wb O) ?_)))))))))))
 refine Ea ?_
 refine Ub (Rb (Sa (Ld (v:=.int .i32 65533) (x:=.int .i64 1) O O O) ?_))
 exact ⟨by rw [C4 hp hw (.inl U)]; rfl,hF.same⟩
 refine Ca (Va O) (Ca (Qc O) (Ca (Xl underlying9 O) (Ca (Va O) (Ca (Fo O O) (Ca (Ho O O) (Ca (Gc O O) (Ea ?_)))))))
 refine Yb O O (fun hc1=>?_) (fun hc1=>?_)
 refine Ia (Ca (Wb O) (Ca (Wb O) (Ea ?_)))
 refine Ub (Rb (Sa (Ld (v:=.int .i32 65533) (x:=.int .i64 1) O O O) ?_))
 exact ⟨by rw [C4 hp hw (.inr U)]; rfl,hF.same⟩
 refine Qa (Ga (Ia (Ca (Qc O) (Ca (Va O) ?_))))
 refine Ja (v:=.int .u8 (bZ s p)) (by rw [←Ii hp]; exact Kd p underlying9 O O hp) ?_
 refine Ja (v:=.int .i64 (bZ s p)) (Be underlying5 underlying3 O (Ji U U)) (Ca (Wb O) (Ea (Ha ?_)))
 refine Qf (fun σ w=>∃ (v1:Int),(v1=if n=2 then bZ s p - 192 else bZ s p)∧AllEq σ [(0,.string (bs s)),(1,.int .i64 ((p:Int))),(6,.int .i64 ((n:Int))),(7,.int .i64 v1)]∧FR w0 [] [] w) ?_ ?_
 refine Ia (Ca (Va O) (Ca (Th O O) (Ea ?_)))
 refine Yb O O (fun hc2=>?_) (fun hc2=>?_)
 refine Fa (Ca (Va O) (Ca (Fo O O) (Ca (Wb O) (Xa ?_))))
 exact Ib ⟨((bZ s p:Int) - 192),(by first | (rw [if_pos U]) | (rw [if_neg U])),Gm,hF⟩
 refine Qa ?_
 exact Ib ⟨(bZ s p),(by first | (rw [if_pos U]) | (rw [if_neg U])),Gm,hF⟩
 clear hF; rintro σ w ⟨v1,hv1,hs,hF⟩
 refine Eg.slots hs ?_
 clear hs; intro σ
 refine Ga (Ha ?_)
 refine Qf (fun σ w=>∃ (v2:Int),(v2=if n=3 then v1 - 224 else v1)∧AllEq σ [(0,.string (bs s)),(1,.int .i64 ((p:Int))),(6,.int .i64 ((n:Int))),(7,.int .i64 v2)]∧FR w0 [] [] w) ?_ ?_
 refine Ia (Ca (Va O) (Ca (Th O O) (Ea ?_)))
 refine Yb O O (fun hc3=>?_) (fun hc3=>?_)
 refine Fa (Ca (Va O) (Ca (Fo O O) (Ca (Wb O) (Xa ?_))))
 exact Ib ⟨((v1:Int) - 224),(by first | (rw [if_pos U]) | (rw [if_neg U])),Gm,hF⟩
 refine Qa ?_
 exact Ib ⟨(v1),(by first | (rw [if_pos U]) | (rw [if_neg U])),Gm,hF⟩
 clear hF; rintro σ w ⟨v2,hv2,hs,hF⟩
 refine Eg.slots hs ?_
 clear hs; intro σ
 refine Ga (Ha ?_)
 refine Qf (fun σ w=>∃ (v3:Int),(v3=if n=4 then v2 - 240 else v2)∧AllEq σ [(0,.string (bs s)),(1,.int .i64 ((p:Int))),(6,.int .i64 ((n:Int))),(7,.int .i64 v3)]∧FR w0 [] [] w) ?_ ?_
 refine Ia (Ca (Va O) (Ca (Th O O) (Ea ?_)))
 refine Yb O O (fun hc4=>?_) (fun hc4=>?_)
 refine Fa (Ca (Va O) (Ca (Fo O O) (Ca (Wb O) (Xa ?_))))
 exact Ib ⟨((v2:Int) - 240),(by first | (rw [if_pos U]) | (rw [if_neg U])),Gm,hF⟩
 refine Qa ?_
 exact Ib ⟨(v2),(by first | (rw [if_pos U]) | (rw [if_neg U])),Gm,hF⟩
 clear hF; rintro σ w ⟨v3,hv3,hs,hF⟩
 refine Eg.slots hs ?_
 clear hs; intro σ
 refine Ga (Ha (Ia (Ca (Wb O) (Ea (Ta ?_)))))
 have hv0:v3=V0 n (bZ s p):=by rw [hv3,hv2,hv1]; unfold V0; (repeat' split) <;> omega
 have hv00:0≤v3∧v3≤255:=by rw [hv0]; unfold V0; rcases Yx hb0 hw with ⟨hn,hb⟩ | ⟨hn,hb⟩ | ⟨hn,hb⟩ | ⟨hn,hb⟩ | ⟨hn,hb⟩ <;> subst hn <;> simp <;> omega
 have hm:(n:Int)≤(s.length:Int) - p:=by omega
 have hn0:¬n=0:=by omega
 refine Lc (fun μ σ w=>∃ (i:Nat),∃ (v:Int),μ=n+1 - i∧(1≤i∧(i≤n∨i=1))∧((i=1→v=v3)∧(i=2→v=64 * v3+bZ s (p+1) - 128)∧(i=3→v=64 * (64 * v3+bZ s (p+1) - 128)+bZ s (p+2) - 128)∧(i=4→v=64 * (64 * (64 * v3+bZ s (p+1) - 128)+bZ s (p+2) - 128)+bZ s (p+3) - 128))∧((2≤i→128≤bZ s (p+1)∧bZ s (p+1)≤191)∧(3≤i→128≤bZ s (p+2)∧bZ s (p+2)≤191)∧(4≤i→128≤bZ s (p+3)∧bZ s (p+3)≤191))∧AllEq σ [(0,.string (bs s)),(1,.int .i64 ((p:Int))),(6,.int .i64 ((n:Int))),(7,.int .i64 v),(8,.int .i64 ((i:Int)))]∧FR w0 [] [] w) _ ⟨1,v3,O,U,U,U,Am,hF⟩ ?_
 clear hF; rintro μ σ w ⟨i,v,rfl,hi1,hv,hcb,hs,hF⟩
 refine Cg.slots hs ?_
 clear hs; intro σ
 have hvb:=OV hi1.1 (by omega:i≤4) hv00 hv hcb (Qi s (p+1)) (Qi s (p+2)) (Qi s (p+3))
 refine Ha (Ia (Ca (Va O) (Ca (Va O) (Ca (Yg O O) (Ea ?_)))))
 refine Yb O O (fun hc5=>?_) (fun hc5=>?_)
 have hbi:=Qi s (p+i)
 refine Qa (Ga (Ha (Ta (Ia (Ca (Qc O) (Ca (Va O) (Ca (Va O) (Ca (If (((p+i:Nat):Int)) O O) ?_))))))))
 refine Ja (v:=.int .u8 (bZ s (p+i))) (by rw [←Ii (show p+i < s.length by omega)]; exact Kd (p+i) underlying9 O O U) ?_
 refine Ja (v:=.int .i64 (bZ s (p+i))) (Be underlying5 underlying3 O (Ji U U)) (Ca (Wb O) (Ea (Ha (Ia (Ca (Va O) (Ca (Yg O O) (Ca (Jc O) ?_)))))))
 refine Hb (d:=62) O (fun hg1=>?_) (fun hg1=>?_)
 refine Da (Da (Ca (Ic O O) (Ea (Ae O (Ia (Ca (Wb O) (Ca (Wb O) (Ea ?_))))))))
 refine Ub (Rb (Sa (Ld (v:=.int .i32 65533) (x:=.int .i64 1) O O O) ?_))
 exact ⟨by rw [M5 hw hi1.1 U (.inl U)]; rfl,hF.same⟩
 refine Ca (Va O) (Ca (Ho O O) (Ca (Gc O O) (Ea ?_)))
 refine Yb O O (fun hc6=>?_) (fun hc6=>?_)
 refine Ia (Ca (Wb O) (Ca (Wb O) (Ea ?_)))
 refine Ub (Rb (Sa (Ld (v:=.int .i32 65533) (x:=.int .i64 1) O O O) ?_))
 exact ⟨by rw [M5 hw hi1.1 U (.inr U)]; rfl,hF.same⟩
 refine Qa (Ga (Fa (Ca (Va O) (Ja (v:=.int .i64 (64 * v)) (Fl O O (Ji U U)) (Ca (Va O) (Ca (Sl O O) (Ca (Fo O O) (Ca (Wb O) (Xa (Eb (Ga (Fa (Ca (Va O) ?_)))))))))))))
 refine Ca (If (((i+1:Nat):Int)) O O) (Ca (Wb O) (Xa ?_))
 refine Ib ⟨_,?_,i+1,64 * v+bZ s (p+i) - 128,O,U,(KX hi1.1 U hv),(BS hi1.1 U U hcb),Am,hF⟩
 omega
 refine Dc (Cc O ?_)
 refine Ga (Ha (Ia (Ca (Va O) (Ca (Th O O) (Ca (Jc O) ?_)))))
 refine Hb (d:=73) O (fun hg2=>?_) (fun hg2=>?_)
 refine Ca (Va O) (Ca (Yg O O) (Ca (Ic O O) (Ca (Jc O) ?_)))
 refine Hb (d:=77) O (fun hg3=>?_) (fun hg3=>?_)
 refine Da (Da (Da (Da (Da (Da (Ca (Ic O O) (Ca (Jc O) (Da (Da (Ca (Ic O O) (Ca (Jc O) (Da (Da ?_)))))))))))))
 refine Da (Da (Da (Da (Ca (Ic O O) (Ea (Ae O (Ia (Ca (Wb O) (Ca (Wb O) (Ea ?_))))))))))
 refine Ub (Rb (Sa (Ld (v:=.int .i32 65533) (x:=.int .i64 1) O O O) ?_))
 have ha:=Re hw hn0 hm U hi1 hv0 hv hcb
 clear hv hcb
 obtain ⟨ha1,ha2,ha3⟩:=ha
 refine ⟨?_,hF.same⟩
 rw [ha3]
 first | (rw [if_pos U]; rfl) | (rw [if_neg U]; exact Nf (by show v=((v.toNat:Nat):Int); omega) rfl)
 refine Ca (Va O) (Ca (Th O O) (Ca (Jc O) ?_))
 refine Hb (d:=80) O (fun hg4=>?_) (fun hg4=>?_)
 refine Ca (Va O) (Ca (Yg O O) (Ca (Ic O O) (Ca (Gc O O) (Ca (Jc O) ?_))))
 refine Hb (d:=85) O (fun hg5=>?_) (fun hg5=>?_)
 refine Da (Da (Ca (Ic O O) (Ca (Jc O) (Da (Da (Da (Da (Da (Da (Ca (Ic O O) (Ea (Ae O ?_))))))))))))
 refine Ia (Ca (Wb O) (Ca (Wb O) (Ea ?_)))
 refine Ub (Rb (Sa (Ld (v:=.int .i32 65533) (x:=.int .i64 1) O O O) ?_))
 have ha:=Re hw hn0 hm U hi1 hv0 hv hcb
 clear hv hcb
 obtain ⟨ha1,ha2,ha3⟩:=ha
 refine ⟨?_,hF.same⟩
 rw [ha3]
 first | (rw [if_pos U]; rfl) | (rw [if_neg U]; exact Nf (by show v=((v.toNat:Nat):Int); omega) rfl)
 refine Ca (Va O) (Ca (Ho O O) (Ca (Gc O O) (Ca (Jc O) ?_)))
 refine Hb (d:=89) O (fun hg6=>?_) (fun hg6=>?_)
 refine Da (Da (Da (Da (Da (Da (Ca (Ic O O) (Ea (Ae O (Ia (Ca (Wb O) (Ca (Wb O) ?_)))))))))))
 refine Ea ?_
 refine Ub (Rb (Sa (Ld (v:=.int .i32 65533) (x:=.int .i64 1) O O O) ?_))
 have ha:=Re hw hn0 hm U hi1 hv0 hv hcb
 clear hv hcb
 obtain ⟨ha1,ha2,ha3⟩:=ha
 refine ⟨?_,hF.same⟩
 rw [ha3]
 first | (rw [if_pos U]; rfl) | (rw [if_neg U]; exact Nf (by show v=((v.toNat:Nat):Int); omega) rfl)
 refine Ca (Va O) (Ca (Rv O O) (Ca (Jc O) ?_))
 refine Hb (d:=92) O (fun hg7=>?_) (fun hg7=>?_)
 refine Ca (Va O) (Ca (Yg O O) (Ca (Ic O O) (Ca (Gc O O) (Ea ?_))))
 refine Yb O O (fun hc7=>?_) (fun hc7=>?_)
 refine Ia (Ca (Wb O) (Ca (Wb O) (Ea ?_)))
 refine Ub (Rb (Sa (Ld (v:=.int .i32 65533) (x:=.int .i64 1) O O O) ?_))
 have ha:=Re hw hn0 hm U hi1 hv0 hv hcb
 clear hv hcb
 obtain ⟨ha1,ha2,ha3⟩:=ha
 refine ⟨?_,hF.same⟩
 rw [ha3]
 first | (rw [if_pos U]; rfl) | (rw [if_neg U]; exact Nf (by show v=((v.toNat:Nat):Int); omega) rfl)
 refine Qa (Ga (Ia (Ca (Va O) ?_)))
 refine Ja (v:=.int .i32 v) (Be underlying3 underlying21 O (by have ha:=Re hw hn0 hm U hi1 hv0 hv hcb; clear hv hcb; rw [IntKind.wrap_i32]; omega)) ?_
 refine Ca (Va O) (Ca (Wb O) (Ca (Wb O) (Ea ?_)))
 refine Ub (Rb (Sa (Ld (v:=.int .i32 v) (x:=.int .i64 ((n:Int))) O O O) ?_))
 have ha:=Re hw hn0 hm U hi1 hv0 hv hcb
 clear hv hcb
 obtain ⟨ha1,ha2,ha3⟩:=ha
 refine ⟨?_,hF.same⟩
 rw [ha3]
 first | (rw [if_pos U]; rfl) | (rw [if_neg U]; exact Nf (by show v=((v.toNat:Nat):Int); omega) rfl)
 refine Da (Da (Ca (Gc O O) (Ca (Gc O O) (Ea (Qj O (Ia (Ca (Va O) ?_)))))))
 refine Ja (v:=.int .i32 v) (Be underlying3 underlying21 O (by have ha:=Re hw hn0 hm U hi1 hv0 hv hcb; clear hv hcb; rw [IntKind.wrap_i32]; omega)) ?_
 refine Ca (Va O) (Ca (Wb O) (Ca (Wb O) (Ea ?_)))
 refine Ub (Rb (Sa (Ld (v:=.int .i32 v) (x:=.int .i64 ((n:Int))) O O O) ?_))
 have ha:=Re hw hn0 hm U hi1 hv0 hv hcb
 clear hv hcb
 obtain ⟨ha1,ha2,ha3⟩:=ha
 refine ⟨?_,hF.same⟩
 rw [ha3]
 first | (rw [if_pos U]; rfl) | (rw [if_neg U]; exact Nf (by show v=((v.toNat:Nat):Int); omega) rfl)
 refine Da (Da (Ca (Gc O O) (Ca (Gc O O) (Ca (Jc O) (Ca (Va O) (Ca (Ho O O) (Ca (Gc O O) (Ca (Jc O) ?_))))))))
 refine Hb (d:=89) O (fun hg8=>?_) (fun hg8=>?_)
 refine Da (Da (Da (Da (Da (Da (Ca (Ic O O) (Ea (Ae O (Ia (Ca (Wb O) (Ca (Wb O) ?_)))))))))))
 refine Ea ?_
 refine Ub (Rb (Sa (Ld (v:=.int .i32 65533) (x:=.int .i64 1) O O O) ?_))
 have ha:=Re hw hn0 hm U hi1 hv0 hv hcb
 clear hv hcb
 obtain ⟨ha1,ha2,ha3⟩:=ha
 refine ⟨?_,hF.same⟩
 rw [ha3]
 first | (rw [if_pos U]; rfl) | (rw [if_neg U]; exact Nf (by show v=((v.toNat:Nat):Int); omega) rfl)
 refine Ca (Va O) (Ca (Rv O O) (Ca (Jc O) ?_))
 refine Hb (d:=92) O (fun hg9=>?_) (fun hg9=>?_)
 refine Ca (Va O) (Ca (Yg O O) (Ca (Ic O O) (Ca (Gc O O) (Ea ?_))))
 refine Yb O O (fun hc7=>?_) (fun hc7=>?_)
 refine Ia (Ca (Wb O) (Ca (Wb O) (Ea ?_)))
 refine Ub (Rb (Sa (Ld (v:=.int .i32 65533) (x:=.int .i64 1) O O O) ?_))
 have ha:=Re hw hn0 hm U hi1 hv0 hv hcb
 clear hv hcb
 obtain ⟨ha1,ha2,ha3⟩:=ha
 refine ⟨?_,hF.same⟩
 rw [ha3]
 first | (rw [if_pos U]; rfl) | (rw [if_neg U]; exact Nf (by show v=((v.toNat:Nat):Int); omega) rfl)
 refine Qa (Ga (Ia (Ca (Va O) ?_)))
 refine Ja (v:=.int .i32 v) (Be underlying3 underlying21 O (by have ha:=Re hw hn0 hm U hi1 hv0 hv hcb; clear hv hcb; rw [IntKind.wrap_i32]; omega)) ?_
 refine Ca (Va O) (Ca (Wb O) (Ca (Wb O) (Ea ?_)))
 refine Ub (Rb (Sa (Ld (v:=.int .i32 v) (x:=.int .i64 ((n:Int))) O O O) ?_))
 have ha:=Re hw hn0 hm U hi1 hv0 hv hcb
 clear hv hcb
 obtain ⟨ha1,ha2,ha3⟩:=ha
 refine ⟨?_,hF.same⟩
 rw [ha3]
 first | (rw [if_pos U]; rfl) | (rw [if_neg U]; exact Nf (by show v=((v.toNat:Nat):Int); omega) rfl)
 refine Da (Da (Ca (Gc O O) (Ca (Gc O O) (Ea (Qj O (Ia (Ca (Va O) ?_)))))))
 refine Ja (v:=.int .i32 v) (Be underlying3 underlying21 O (by have ha:=Re hw hn0 hm U hi1 hv0 hv hcb; clear hv hcb; rw [IntKind.wrap_i32]; omega)) ?_
 refine Ca (Va O) (Ca (Wb O) (Ca (Wb O) (Ea ?_)))
 refine Ub (Rb (Sa (Ld (v:=.int .i32 v) (x:=.int .i64 ((n:Int))) O O O) ?_))
 have ha:=Re hw hn0 hm U hi1 hv0 hv hcb
 clear hv hcb
 obtain ⟨ha1,ha2,ha3⟩:=ha
 refine ⟨?_,hF.same⟩
 rw [ha3]
 first | (rw [if_pos U]; rfl) | (rw [if_neg U]; exact Nf (by show v=((v.toNat:Nat):Int); omega) rfl)
 refine Da (Da (Ca (Gc O O) (Ca (Jc O) (Ca (Va O) (Ca (Th O O) (Ca (Jc O) ?_))))))
 refine Hb (d:=80) O (fun hg10=>?_) (fun hg10=>?_)
 refine Ca (Va O) (Ca (Yg O O) (Ca (Ic O O) (Ca (Gc O O) (Ca (Jc O) ?_))))
 refine Hb (d:=85) O (fun hg11=>?_) (fun hg11=>?_)
 refine Da (Da (Ca (Ic O O) (Ca (Jc O) (Da (Da (Da (Da (Da (Da (Ca (Ic O O) (Ea (Ae O ?_))))))))))))
 refine Ia (Ca (Wb O) (Ca (Wb O) (Ea ?_)))
 refine Ub (Rb (Sa (Ld (v:=.int .i32 65533) (x:=.int .i64 1) O O O) ?_))
 have ha:=Re hw hn0 hm U hi1 hv0 hv hcb
 clear hv hcb
 obtain ⟨ha1,ha2,ha3⟩:=ha
 refine ⟨?_,hF.same⟩
 rw [ha3]
 first | (rw [if_pos U]; rfl) | (rw [if_neg U]; exact Nf (by show v=((v.toNat:Nat):Int); omega) rfl)
 refine Ca (Va O) (Ca (Ho O O) (Ca (Gc O O) (Ca (Jc O) ?_)))
 refine Hb (d:=89) O (fun hg12=>?_) (fun hg12=>?_)
 refine Da (Da (Da (Da (Da (Da (Ca (Ic O O) (Ea (Ae O (Ia (Ca (Wb O) (Ca (Wb O) ?_)))))))))))
 refine Ea ?_
 refine Ub (Rb (Sa (Ld (v:=.int .i32 65533) (x:=.int .i64 1) O O O) ?_))
 have ha:=Re hw hn0 hm U hi1 hv0 hv hcb
 clear hv hcb
 obtain ⟨ha1,ha2,ha3⟩:=ha
 refine ⟨?_,hF.same⟩
 rw [ha3]
 first | (rw [if_pos U]; rfl) | (rw [if_neg U]; exact Nf (by show v=((v.toNat:Nat):Int); omega) rfl)
 refine Ca (Va O) (Ca (Rv O O) (Ca (Jc O) ?_))
 refine Hb (d:=92) O (fun hg13=>?_) (fun hg13=>?_)
 refine Ca (Va O) (Ca (Yg O O) (Ca (Ic O O) (Ca (Gc O O) (Ea ?_))))
 refine Yb O O (fun hc7=>?_) (fun hc7=>?_)
 refine Ia (Ca (Wb O) (Ca (Wb O) (Ea ?_)))
 refine Ub (Rb (Sa (Ld (v:=.int .i32 65533) (x:=.int .i64 1) O O O) ?_))
 have ha:=Re hw hn0 hm U hi1 hv0 hv hcb
 clear hv hcb
 obtain ⟨ha1,ha2,ha3⟩:=ha
 refine ⟨?_,hF.same⟩
 rw [ha3]
 first | (rw [if_pos U]; rfl) | (rw [if_neg U]; exact Nf (by show v=((v.toNat:Nat):Int); omega) rfl)
 refine Qa (Ga (Ia (Ca (Va O) ?_)))
 refine Ja (v:=.int .i32 v) (Be underlying3 underlying21 O (by have ha:=Re hw hn0 hm U hi1 hv0 hv hcb; clear hv hcb; rw [IntKind.wrap_i32]; omega)) ?_
 refine Ca (Va O) (Ca (Wb O) (Ca (Wb O) (Ea ?_)))
 refine Ub (Rb (Sa (Ld (v:=.int .i32 v) (x:=.int .i64 ((n:Int))) O O O) ?_))
 have ha:=Re hw hn0 hm U hi1 hv0 hv hcb
 clear hv hcb
 obtain ⟨ha1,ha2,ha3⟩:=ha
 refine ⟨?_,hF.same⟩
 rw [ha3]
 first | (rw [if_pos U]; rfl) | (rw [if_neg U]; exact Nf (by show v=((v.toNat:Nat):Int); omega) rfl)
 refine Da (Da (Ca (Gc O O) (Ca (Gc O O) (Ea (Qj O (Ia (Ca (Va O) ?_)))))))
 refine Ja (v:=.int .i32 v) (Be underlying3 underlying21 O (by have ha:=Re hw hn0 hm U hi1 hv0 hv hcb; clear hv hcb; rw [IntKind.wrap_i32]; omega)) ?_
 refine Ca (Va O) (Ca (Wb O) (Ca (Wb O) (Ea ?_)))
 refine Ub (Rb (Sa (Ld (v:=.int .i32 v) (x:=.int .i64 ((n:Int))) O O O) ?_))
 have ha:=Re hw hn0 hm U hi1 hv0 hv hcb
 clear hv hcb
 obtain ⟨ha1,ha2,ha3⟩:=ha
 refine ⟨?_,hF.same⟩
 rw [ha3]
 first | (rw [if_pos U]; rfl) | (rw [if_neg U]; exact Nf (by show v=((v.toNat:Nat):Int); omega) rfl)
 refine Da (Da (Ca (Gc O O) (Ca (Gc O O) (Ca (Jc O) (Ca (Va O) (Ca (Ho O O) (Ca (Gc O O) (Ca (Jc O) ?_))))))))
 refine Hb (d:=89) O (fun hg14=>?_) (fun hg14=>?_)
 refine Da (Da (Da (Da (Da (Da (Ca (Ic O O) (Ea (Ae O (Ia (Ca (Wb O) (Ca (Wb O) ?_)))))))))))
 refine Ea ?_
 refine Ub (Rb (Sa (Ld (v:=.int .i32 65533) (x:=.int .i64 1) O O O) ?_))
 have ha:=Re hw hn0 hm U hi1 hv0 hv hcb
 clear hv hcb
 obtain ⟨ha1,ha2,ha3⟩:=ha
 refine ⟨?_,hF.same⟩
 rw [ha3]
 first | (rw [if_pos U]; rfl) | (rw [if_neg U]; exact Nf (by show v=((v.toNat:Nat):Int); omega) rfl)
 refine Ca (Va O) (Ca (Rv O O) (Ca (Jc O) ?_))
 refine Hb (d:=92) O (fun hg15=>?_) (fun hg15=>?_)
 refine Ca (Va O) (Ca (Yg O O) (Ca (Ic O O) (Ca (Gc O O) (Ea ?_))))
 refine Yb O O (fun hc7=>?_) (fun hc7=>?_)
 refine Ia (Ca (Wb O) (Ca (Wb O) (Ea ?_)))
 refine Ub (Rb (Sa (Ld (v:=.int .i32 65533) (x:=.int .i64 1) O O O) ?_))
 have ha:=Re hw hn0 hm U hi1 hv0 hv hcb
 clear hv hcb
 obtain ⟨ha1,ha2,ha3⟩:=ha
 refine ⟨?_,hF.same⟩
 rw [ha3]
 first | (rw [if_pos U]; rfl) | (rw [if_neg U]; exact Nf (by show v=((v.toNat:Nat):Int); omega) rfl)
 refine Qa (Ga (Ia (Ca (Va O) ?_)))
 refine Ja (v:=.int .i32 v) (Be underlying3 underlying21 O (by have ha:=Re hw hn0 hm U hi1 hv0 hv hcb; clear hv hcb; rw [IntKind.wrap_i32]; omega)) ?_
 refine Ca (Va O) (Ca (Wb O) (Ca (Wb O) (Ea ?_)))
 refine Ub (Rb (Sa (Ld (v:=.int .i32 v) (x:=.int .i64 ((n:Int))) O O O) ?_))
 have ha:=Re hw hn0 hm U hi1 hv0 hv hcb
 clear hv hcb
 obtain ⟨ha1,ha2,ha3⟩:=ha
 refine ⟨?_,hF.same⟩
 rw [ha3]
 first | (rw [if_pos U]; rfl) | (rw [if_neg U]; exact Nf (by show v=((v.toNat:Nat):Int); omega) rfl)
 refine Da (Da (Ca (Gc O O) (Ca (Gc O O) (Ea (Qj O (Ia (Ca (Va O) ?_)))))))
 refine Ja (v:=.int .i32 v) (Be underlying3 underlying21 O (by have ha:=Re hw hn0 hm U hi1 hv0 hv hcb; clear hv hcb; rw [IntKind.wrap_i32]; omega)) ?_
 refine Ca (Va O) (Ca (Wb O) (Ca (Wb O) (Ea ?_)))
 refine Ub (Rb (Sa (Ld (v:=.int .i32 v) (x:=.int .i64 ((n:Int))) O O O) ?_))
 have ha:=Re hw hn0 hm U hi1 hv0 hv hcb
 clear hv hcb
 obtain ⟨ha1,ha2,ha3⟩:=ha
 refine ⟨?_,hF.same⟩
 rw [ha3]
 first | (rw [if_pos U]; rfl) | (rw [if_neg U]; exact Nf (by show v=((v.toNat:Nat):Int); omega) rfl)
def QB (s:Str) (p:Nat):Bool:=!(decide ((Utf8.decode (bs s) p).1=65533) && decide ((Utf8.decode (bs s) p).2=1))
theorem JX (s:Str) (p:Nat) (hp:p < s.length) (hl:s.length≤140737488355328) (w0:World):Calls prog 165 #[.string (bs s),.int .i64 (p:Int)] w0 (De fun v w'=>v=.bool (QB s p)∧Same [] w0 w'):=by
 refine Ka func165 O ntmps165 Kb (Ee _ _) ?_
 have hF:=FR.start w0 []
 refine Ia (Ca (Hc O) (Bc (Ca (Qc O) (Ca (Va O) ?_))))
 refine Jb hF (OQ s p U hl _) (Vb YP O O O) ?_
 clear hF; intro w hF
 refine Ca (Ul O) (Ca (Fm O O) (Ca (Fm O O) (Ca (Wb O) (Ca (Wb O) (Bc (Ca (Va O) ?_))))))
 refine Ja (v:=.bool true) (Ce (Xz O O) (by have:=Jg s p; omega)) ?_
 refine Ca (Jc O) (Ca (Va O) (Ca (Th O O) (Ca (Jc O) ?_)))
 refine Hb (d:=18) O (fun hg0=>?_) (fun hg0=>?_)
 refine Ca (Va O) (Ca (Th O O) (Ca (Ic O O) (Ca (ynd O) (Ca (Ic O O) (Ca (Hc O) (Ea ?_))))))
 refine Td (v:=.bool _) O O ?_
 refine ⟨congrArg Value.bool ?_,hF.same⟩
 unfold QB
 have e1:decide ((((Utf8.decode (bs s) p).1:Nat):Int)=65533)=decide ((Utf8.decode (bs s) p).1=65533):=decide_eq_decide.2 U
 have e2:decide ((((Utf8.decode (bs s) p).2:Nat):Int)=1)=decide ((Utf8.decode (bs s) p).2=1):=decide_eq_decide.2 U
 · first | (rw [←e1,←e2]; simp_all; done) | (rw [←e1]; simp_all; done) | (simp_all; omega)
 refine Da (Da (Ca (Gc O O) (Ca (Pn (b:=false) O) (Ca (Ic O O) (Ca (Hc O) (Ea ?_))))))
 refine Td (v:=.bool true) O O ?_
 refine ⟨congrArg Value.bool ?_,hF.same⟩
 unfold QB
 have e1:decide ((((Utf8.decode (bs s) p).1:Nat):Int)=65533)=decide ((Utf8.decode (bs s) p).1=65533):=decide_eq_decide.2 U
 have e2:decide ((((Utf8.decode (bs s) p).2:Nat):Int)=1)=decide ((Utf8.decode (bs s) p).2=1):=decide_eq_decide.2 U
 · first | (rw [←e1,←e2]; simp_all; done) | (rw [←e1]; simp_all; done) | (simp_all; omega)
theorem IA {s:Str} {q:Nat} (h:q < s.length):Lib.validD (s.drop q)=if QB s q=false then false else Lib.validD (s.drop (q+(Utf8.decode (bs s) q).2)):=by
  have hne:s.drop q≠[]:=by intro e; have:=congrArg List.length e; simp at this; omega
  rw [Lib.validD_step _ hne,Zl,List.drop_drop]
  unfold QB
  by_cases h1:(Utf8.decode (bs s) q).1=65533 <;> by_cases h2:(Utf8.decode (bs s) q).2=1 <;> simp [h1,h2]
theorem DA (s:Str) (hl:s.length≤140737488355328) (w0:World):Calls prog 132 #[.string (bs s)] w0 (De fun v w'=>∃ n,v=.tuple #[.int .i64 n,.bool (Lib.validD s)]∧Same [] w0 w'):=by
 refine Ka func132 O ntmps132 Kb (Sc _) ?_
 have hF:=FR.start w0 []
 refine Ia (Ca (Wb O) (Ca (Hc O) (Bc (Ca (Wb O) (Ea (Ha (Ta ?_)))))))
 refine Lc (fun μ σ w=>∃ (q:Nat),μ=s.length - q∧(q≤s.length)∧(Lib.validD s=Lib.validD (s.drop q))∧AllEq σ [(0,.string (bs s)),(4,.int .i64 ((q:Int)))]∧FR w0 [] [] w) _ ⟨0,O,(Nat.zero_le _),(by rw [List.drop_zero]),Iw,hF⟩ ?_
 clear hF; rintro μ σ w ⟨q,rfl,hq,hv,hs,hF⟩
 refine Cg.slots hs ?_
 clear hs; intro σ
 refine Ha (Ia (Ca (Va O) (Ca (Qc O) (Ca (Xl underlying9 O) (Ca (Yg O O) (Ea ?_))))))
 refine Yb O O (fun hc0=>?_) (fun hc0=>?_)
 refine Qa (Ga (Ta (Ia (Ca (Qc O) (Ca (Va O) ?_)))))
 refine Jb hF (JX s q U hl _) (Vb WU O O O) ?_
 clear hF; intro w hF
 refine Ca (Hc O) (Ea (Ha (Ia (Ca (Jc O) (Ca (Pn O) (Ea ?_))))))
 refine Mi O O (fun hc1=>?_) (fun hc1=>?_)
 refine Ia (Ca (Va O) (Ca (Wb O) (Ca (Hc O) (Ea ?_))))
 refine Ub (Rb (Sa (Ld (v:=.int .i64 ((q:Int))) (x:=.bool false) O O O) ?_))
 exact ⟨_,by rw [hv,IA U,if_pos (by simp_all)],hF.same⟩
 refine Qa (Ga (Ia (Ca (Qc O) (Ca (Va O) ?_))))
 refine Jb hF (OQ s q U hl _) (Vb YP O O O) ?_
 clear hF; intro w hF
 refine Ca (Ul O) (Ca (Fm O O) (Ca (Fm O O) (Ca (Wb O) (Ca (Wb O) (Ea (Fa (Ca (Va O) (Ca (Va O) ?_))))))))
 refine Ja (v:=.int .i64 (((q+(Utf8.decode (bs s) q).2:Nat):Int))) (Il O O (by have:=Fp s q U; exact Id U U U)) ?_
 refine Ca (Wb O) (Xa (Eb ?_))
 refine Ib ⟨_,?_,q+(Utf8.decode (bs s) q).2,O,(Fp s q U),(by rw [hv,IA U,if_neg (by simp_all)]),Iw,hF⟩
 have:=Jg s q; have:=Fp s q U; omega
 refine Dc (Cc O ?_)
 refine Ga (Ia (Ca (Qc O) (Ca (Xl underlying9 O) (Ca (Wb O) (Ca (Hc O) (Ea ?_))))))
 refine Ub (Rb (Sa (Ld (v:=.int .i64 ((((s):Str).length:Int))) (x:=.bool true) O O O) ?_))
 exact ⟨_,by rw [hv,List.drop_eq_nil_of_le U]; rfl,hF.same⟩
theorem RU (s:Str) (hl:s.length≤140737488355328) (w0:World):Calls prog 105 #[.string (bs s)] w0 (De fun v w'=>v=.bool (Lib.validD s)∧Same [] w0 w'):=by
 refine Ka func105 O ntmps105 Kb (Sc _) ?_
 have hF:=FR.start w0 []
 refine Ia (Ca (Hc O) (Bc (Ca (Qc O) ?_)))
 refine Pb (DA s hl _) (Cb KQ O O) ?_
 rintro _ w ⟨nn,rfl,hE⟩
 replace hF:=hF.ext hE
 clear hE
 refine Ca (Ul O) (Ca (Fm O O) (Ca (Ss O O) (Ca (Wb O) (Ca (Hc O) (Bc (Ca (Jc O) (Ca (Hc O) (Ea ?_))))))))
 refine Td (v:=.bool _) O O ?_
 exact ⟨O,hF.same⟩
end Go.Scarf
namespace Go.Scarf
open Go.RowKit Go.Proofs Go.Proofs.Tryz
theorem Em {P:Program} {fn:Func} {n:Nat} {s:Nat→Value} {w:World} {t1 t2 t3 t4 t5 t6:Nat} {v1 v2 v3 v4 v5 v6:Value} (h:fn.results=#[.tmp t1,.tmp t2,.tmp t3,.tmp t4,.tmp t5,.tmp t6]) (h1:ev n s (.tmp t1)=v1) (h2:ev n s (.tmp t2)=v2) (h3:ev n s (.tmp t3)=v3) (h4:ev n s (.tmp t4)=v4) (h5:ev n s (.tmp t5)=v5) (h6:ev n s (.tmp t6)=v6) :
    (results fn (Wm n s).tmps).run P w=.ok (.tuple #[v1,v2,v3,v4,v5,v6]) w:=by
  have:(results fn (Wm n s).tmps).run P w=.ok (.tuple #[(Wm n s).tmps.getD t1 undef,(Wm n s).tmps.getD t2 undef,(Wm n s).tmps.getD t3 undef,(Wm n s).tmps.getD t4 undef,(Wm n s).tmps.getD t5 undef,(Wm n s).tmps.getD t6 undef]) w:=by simp [results,h]
  rw [this,Kh,Kh,Kh,Kh,Kh,Kh,h1,h2,h3,h4,h5,h6]
theorem MR {s:Str} {j:Nat} (hj:s.length≤j) (h:(s.take j).all Ze=true):decide ((0:Int) < ((s:Str).length:Int))=Gi s:=by
  rw [List.take_of_length_le hj] at h
  rw [GR,Gi,h,Bool.true_and]
theorem NG {s:Str} {j:Nat} (hj:j < s.length) (h:Ze s[j]=false):Gi s=false:=by rw [Gi,Ew hj h]; rfl
theorem FX {c:UInt8} (h1:¬((c.toNat:Nat):Int) < 48) (h2:¬(57:Int) < ((c.toNat:Nat):Int)):Ze c=true:=by
  unfold Ze; simp only [Bool.and_eq_true,decide_eq_true_eq]; omega
theorem JH {c:UInt8} (h:((c.toNat:Nat):Int) < 48∨(57:Int) < ((c.toNat:Nat):Int)):Ze c=false:=by
  unfold Ze; simp only [Bool.and_eq_false_iff,decide_eq_false_iff_not]; omega
theorem In (s:Str) (hl:s.length≤140737488355328) (w0:World):Calls prog 167 #[.string (bs s)] w0 (De fun v w'=>v=.bool (Gi s)∧Same [] w0 w'):=by
 refine Ka func167 O ntmps167 Kb (Sc _) ?_
 have hF:=FR.start w0 []
 refine Ia (Ca (Hc O) (Ea (Ha (Ia (Ca (Wb O) (Ea (Ta ?_)))))))
 refine Lc (fun μ σ w=>∃ (j:Nat),μ=s.length - j∧(j≤s.length)∧((s.take j).all Ze=true)∧AllEq σ [(0,.string (bs s)),(3,.int .i64 ((j:Int)))]∧FR w0 [] [] w) _ ⟨0,O,(Nat.zero_le _),Ma,Iw,hF⟩ ?_
 clear hF; rintro μ σ w ⟨j,rfl,hj,ha,hs,hF⟩
 refine Cg.slots hs ?_
 clear hs; intro σ
 refine Ha (Ia (Ca (Va O) (Ca (Qc O) (Ca (Xl underlying9 O) (Ca (Yg O O) (Ea ?_))))))
 refine Yb O O (fun hc0=>?_) (fun hc0=>?_)
 refine Qa (Ga (Ha (Ta (Ia (Ca (Qc O) (Ca (Va O) (Ja (v:=.int .u8 ((((s:Str)[j]'U).toNat:Int))) (Kd (j) underlying9 O O U) (Ca (Yg O O) (Ca (Jc O) ?_)))))))))
 refine Hb (d:=14) O (fun hg0=>?_) (fun hg0=>?_)
 refine Da (Da (Da (Da (Ca (Ic O O) (Ea (Ae O (Ia (Ca (Hc O) (Ea ?_)))))))))
 refine Td (v:=.bool false) O O ?_
 exact ⟨congrArg Value.bool (NG (j:=j) U (JH (.inl (by assumption)))).symm,hF.same⟩
 refine Ca (Qc O) (Ca (Va O) (Ja (v:=.int .u8 ((((s:Str)[j]'U).toNat:Int))) (Kd (j) underlying9 O O U) (Ca (Ho O O) (Ca (Gc O O) (Ea ?_)))))
 refine Yb O O (fun hc1=>?_) (fun hc1=>?_)
 refine Ia (Ca (Hc O) (Ea ?_))
 refine Td (v:=.bool false) O O ?_
 exact ⟨congrArg Value.bool (NG (j:=j) U (JH (.inr (by assumption)))).symm,hF.same⟩
 refine Qa (Eb (Ga (Fa (Ca (Va O) (Ca (If (((j+1:Nat):Int)) O O) (Ca (Wb O) (Xa ?_)))))))
 refine Ib ⟨_,?_,j+1,O,U,(Hv U ha (FX (by assumption) (by assumption))),Iw,hF⟩
 omega
 refine Dc (Cc O ?_)
 refine Ga (Ia (Ca (Qc O) (Ca (Xl underlying9 O) (Ca (Ho O O) (Ca (Hc O) (Ea ?_))))))
 refine Td (v:=.bool _) O O ?_
 exact ⟨congrArg Value.bool (MR U ha),hF.same⟩
theorem PB (x:Num) (w0:World):Calls prog 163 #[Kn x] w0 (De fun v w'=>v=.bool (decide (x=Num.zero))∧Same [] w0 w'):=by
 refine Ka func163 O ntmps163 Kb (Sc _) ?_
 have hF:=FR.start w0 []
 refine Ia ?_
 refine Bh hF O ?_
 clear hF; rintro b1 w hb1 hF -
 refine Ca (Hc O) (Bc (Tc (Wj isAgg61 sizeOf61 O hF.F 0 O O) ?_))
 refine Ja (w':=w) (v:=.agg #[.bool false,.string (bs []),.int .i64 0]) Qb ?_
 refine Ja (v:=.bool (decide (x=Num.zero))) (SL (a:=x) (b:=Num.zero) O O) (Ca (Hc O) (Ea ?_))
 refine Td (v:=.bool _) O O ?_
 exact ⟨O,hF.same⟩
theorem UA (x:Num) (hl:x.digits.length≤140737488355328) (w0:World):Calls prog 133 #[Kn x] w0 (De fun v w'=>v=.bool (Zd x)∧Same [] w0 w'):=by
 refine Ka func133 O ntmps133 Kb (Sc _) ?_
 have hF:=FR.start w0 []
 refine Ia ?_
 refine Bh hF O ?_
 clear hF; rintro b1 w hb1 hF -
 refine Ca (Hc O) (Ea (Ha (Ia (Tc (Wj isAgg61 sizeOf61 O hF.F 0 O O) ?_))))
 refine Jb hF (PB x _) (Cb HP O O) ?_
 clear hF; intro w hF
 refine Ea ?_
 refine Yb O O (fun hc0=>?_) (fun hc0=>?_)
 refine Ia (Ca (Hc O) (Ea ?_))
 refine Td (v:=.bool true) O O ?_
 exact ⟨by rw [Nz hc0],hF.same⟩
 refine Qa (Ga (Ia (Ca (Ec Ek O) (Tc (Tp isAgg9 O hF.F 0 O O) ?_))))
 refine Jb hF (In (x.digits) U _) (Cb Pv O O) ?_
 clear hF; intro w hF
 refine Ca (Hc O) (Bc (Ca (Ec Ek O) (Tc (Tp isAgg9 O hF.F 0 O O) (Ca (Xl underlying9 O) (Ca (Wb O) (Bc (Ca (Jc O) ?_)))))))
 refine Ca (Jc O) ?_
 refine Jf (d:=14) O (fun hg0=>?_) (fun hg0=>?_)
 refine Ca (Va O) (Ca (J1 O O) (Ca (Ic O O) (Ca (Jc O) ?_)))
 refine Hb (d:=18) O (fun hg1=>?_) (fun hg1=>?_)
 have hpos:0 < x.digits.length:=List.length_pos_iff.2 (Eh (by assumption))
 refine Ca (Ec Ek O) (Tc (Tp isAgg9 O hF.F 0 O O) (Ja (v:=.int .u8 ((((x.digits:Str)[0]'(hpos)).toNat:Int))) (Kd (0) underlying9 O O (hpos)) (Ca (Sq O O) (Ca (Ic O O) (Ca (Jc O) ?_)))))
 refine Hb (d:=24) O (fun hg2=>?_) (fun hg2=>?_)
 refine Ca (Ec Ek O) (Tc (Tp isAgg9 O hF.F 0 O O) (Ca (Va O) (Ca (Hw (((x.digits.length - 1:Nat):Int)) O O) (Ja (v:=.int .u8 ((((x.digits:Str)[x.digits.length - 1]'U).toNat:Int))) (Kd (x.digits.length - 1) underlying9 O O U) (Ca (Sq O O) (Ca (Ic O O) (Ca (Jc O) ?_)))))))
 refine Hb (d:=32) O (fun hg3=>?_) (fun hg3=>?_)
 refine Ca (Ec Di O) (Tc (Hl isAgg3 O hF.F 0 O O) (Ca (Rv O O) (Ca (Ic O O) (Ca (Jc O) ?_))))
 refine Hb (d:=37) O (fun hg4=>?_) (fun hg4=>?_)
 refine Ca (Ec Di O) (Tc (Hl isAgg3 O hF.F 0 O O) (Ca (J1 O O) (Ca (Ic O O) (Ca (Hc O) (Ea ?_)))))
 refine Td (v:=.bool _) O O ?_
 exact ⟨by rw [Mp hc0 (by rw [(by assumption:Gi x.digits=true)]; rfl) U hpos (by assumption) U (by assumption),decide_eq_true (show (-1000000:Int)≤x.exp by omega),Bool.true_and],hF.same⟩
 refine Da (Da (Da (Ca (Gc O O) (Ca (Hc O) (Ea ?_)))))
 refine Td (v:=.bool false) O O ?_
 exact ⟨by rw [Mp hc0 (by rw [(by assumption:Gi x.digits=true)]; rfl) U hpos (by assumption) U (by assumption),decide_eq_false (show ¬(-1000000:Int)≤x.exp by omega),Bool.false_and],hF.same⟩
 refine Da (Da (Da (Ca (Gc O O) (Ca (Jc O) (Da (Da (Da (Ca (Gc O O) (Ca (Hc O) (Ea ?_))))))))))
 refine Td (v:=.bool false) O O ?_
 exact ⟨by rw [O0 hc0 U U],hF.same⟩
 refine Da (Da (Da (Da (Da (Da (Ca (Gc O O) (Ca (Jc O) (Da (Da (Da (Ca (Gc O O) (Ca (Jc O) (Da ?_)))))))))))))
 refine Da (Da (Ca (Gc O O) (Ca (Hc O) (Ea ?_))))
 refine Td (v:=.bool false) O O ?_
 exact ⟨by rw [Qz hc0 hpos U],hF.same⟩
 refine Da (Da (Da (Da (Ca (Gc O O) (Ca (Jc O) (Da (Da (Da (Da (Da (Da (Ca (Gc O O) (Ca (Jc O) ?_)))))))))))))
 refine Da (Da (Da (Ca (Gc O O) (Ca (Jc O) (Da (Da (Da (Ca (Gc O O) (Ca (Hc O) (Ea ?_))))))))))
 refine Td (v:=.bool false) O O ?_
 exact ⟨by rw [Sz hc0 U],hF.same⟩
 refine Da (Da (Ca (Gc O O) (Ca (Jc O) (Da (Da (Da (Da (Ca (Gc O O) (Ca (Jc O) (Da (Da (Da (Da ?_)))))))))))))
 refine Da (Da (Ca (Gc O O) (Ca (Jc O) (Da (Da (Da (Ca (Gc O O) (Ca (Jc O) (Da (Da (Da (Ca (Gc O O) (Ca (Hc O) ?_)))))))))))))
 refine Ea ?_
 refine Td (v:=.bool false) O O ?_
 exact ⟨by rw [G0 hc0 (by rw [(by assumption:Gi x.digits=false)]; rfl)],hF.same⟩
theorem Mn:∀ m:Nat,m < 10→((([48,49,50,51,52,53,54,55,56,57]:Str).take (m+1)).drop m)=[UInt8.ofNat (48+m)]:=by decide
def DE (n:Int):Prop:=∀ w0:World,Calls prog 164 #[.int .i64 n] w0 (De fun v w'=>v=.string (bs (Lib.itoa n))∧Same [] w0 w')
theorem BO {m:Nat} (h:¬m < 10):Lib.decDigits m=Lib.decDigits (m / 10)++[UInt8.ofNat (48+m % 10)]:=by rw [Lib.decDigits,dif_neg h]
theorem GJ (m:Nat):(-(m:Int)).tdiv 10 = -((m / 10:Nat):Int):=by rw [Int.neg_tdiv]; rfl
theorem U5 (m:Nat):(-(m:Int)).tmod 10 = -((m % 10:Nat):Int):=by rw [Int.neg_tmod]; rfl
theorem NR (m:Nat) (hm:(m:Int)≤9223372036854775807) (ih:∀ q:Nat,q < m→DE (q:Int)):DE (m:Int):=by
 intro w0
 refine Ka func164 O ntmps164 Kb (Sc _) ?_
 have hF:=FR.start w0 []
 refine Ia (Ca (Rd O) (Bc (Ca (Rd O) (Ea (Ha (Ia (Ca (Va O) ?_)))))))
 refine Ja (v:=.bool true) (Ce (Z_ O O) U) (Ca (Jc O) (Ca (Va O) (Ca (Yg O O) (Ca (Ic O O) (Ea ?_)))))
 refine Yb O O (fun hc0=>?_) (fun hc0=>?_)
 refine Ia (Ca (Qc O) (Ca (Va O) (Ca (Va O) (Ca (If (((m+1:Nat):Int)) O O) ?_))))
 refine Ja (v:=.string (bs ((([48,49,50,51,52,53,54,55,56,57]:Str).take (m+1)).drop (m)))) (Cx (m) (m+1) underlying9 rfl rfl rfl (by first | (simp; omega) | omega) (by first | (simp; omega) | omega)) ?_
 refine Ca (Rd O) (Ea ?_)
 refine Ub (Rb (Sa (An (v:=.string (bs ((([48,49,50,51,52,53,54,55,56,57]:Str).take (m+1)).drop (m)))) O O) ?_))
 exact ⟨by rw [Mn m U,Lib.itoa_nonneg,Lib.decDigits_one U],hF.same⟩
 refine Qa (Ga (Ha (Ia (Ca (Va O) (Ja (v:=.bool true) (Ce (Xz O O) U) (Ea (Ae O (Ha ?_))))))))
 refine Ff (zs:=[]) (.free 0 (.free 1 (.free 3 (.free 4 (.free 5 (.free 6 (.free 7 (.free 8 (.free 9 (.act 2 (.free 10 (.free 11 .nil)))))))))))) hF ?_
 clear hF; intro w hF
 refine Db O (Va O) (Oa O (v:=.int .i64 (((m / 10:Nat):Int))) (fun w hC=>EG O O Ua (Id O U U)) (Db O (Qc O) (Db O (Va O) (Oa O (v:=.int .i64 (((m % 10:Nat):Int))) (fun w hC=>SC O O Ua (O)) (Db O (Va O) (Oa O (v:=.int .i64 (((m % 10:Nat):Int))) (fun w hC=>SC O O Ua (O)) (Db O (If (((m % 10+1:Nat):Int)) O O) ?_)))))))
 refine Oa rfl (v:=.string (bs ((([48,49,50,51,52,53,54,55,56,57]:Str).take (m % 10+1)).drop (m % 10)))) (fun w hC=>Cx (m % 10) (m % 10+1) underlying9 rfl rfl rfl (by first | (simp; omega) | omega) (by first | (simp; omega) | omega)) ?_
 refine Um hF (ih (m / 10) U _) O (Cb E_ O O) ?_
 clear hF; intro w hF
 refine ⟨hF,?_⟩
 refine Oa O (v:=.string (bs ((Lib.itoa ((m / 10:Nat):Int))++((([48,49,50,51,52,53,54,55,56,57]:Str).take (m % 10+1)).drop (m % 10))))) (fun w hC=>Gh O O (by have:=Lib.itoa_length_le ((m / 10:Nat):Int) U U; rw [Mn _ U]; exact Nat.le_trans (Nat.add_le_add_right this 1) Ua)) ?_
 refine Db O (Rd O) (Mc (Ga ?_))
 refine Ub (Rb (Sa (An (v:=.string (bs ((Lib.itoa ((m / 10:Nat):Int))++((([48,49,50,51,52,53,54,55,56,57]:Str).take (m % 10+1)).drop (m % 10))))) O O) ?_))
 exact ⟨by rw [Mn _ U,Lib.itoa_nonneg,Lib.itoa_nonneg,BO (m:=m) U],hF.same⟩
theorem NS (m:Nat) (h1:1≤m) (hm:(m:Int)≤9223372036854775808) (ih:∀ q:Nat,q < m→1≤q→DE (-(q:Int))):DE (-(m:Int)):=by
 intro w0
 refine Ka func164 O ntmps164 Kb (Sc _) ?_
 have hF:=FR.start w0 []
 refine Ia (Ca (Rd O) (Bc (Ca (Rd O) (Ea (Ha (Ia (Ca (Va O) ?_)))))))
 refine Ja (v:=.bool false) (Zc (Z_ O O) U) (Ca (Jc O) (Da (Da (Ca (Gc O O) (Ea (Qj O (Ha (Ia (Ca (Va O) ?_)))))))))
 refine Ja (v:=.bool false) (Zc (Xz O O) U) (Ea (Qj O (Ha (Ia (Ca (Va O) (Ca (Ho O O) (Ea ?_)))))))
 refine Yb O O (fun hc2=>?_) (fun hc2=>?_)
 refine Ia (Ca (Qc O) (Ca (Va O) (Ja (v:=.int .i64 ((m:Int))) (L0 O (Id U U U)) (Ca (Va O) (Ja (v:=.int .i64 ((m:Int))) (L0 O (Id U U U)) (Ca (If (((m+1:Nat):Int)) O O) ?_))))))
 refine Ja (v:=.string (bs ((([48,49,50,51,52,53,54,55,56,57]:Str).take (m+1)).drop (m)))) (Cx (m) (m+1) underlying9 rfl rfl rfl (by first | (simp; omega) | omega) (by first | (simp; omega) | omega)) ?_
 refine Ja (v:=.string (bs (([45])++((([48,49,50,51,52,53,54,55,56,57]:Str).take (m+1)).drop (m))))) (Gh O O (by rw [Mn _ U]; simp)) ?_
 refine Ca (Rd O) (Ea ?_)
 refine Ub (Rb (Sa (An (v:=.string (bs (([45])++((([48,49,50,51,52,53,54,55,56,57]:Str).take (m+1)).drop (m))))) O O) ?_))
 exact ⟨by rw [Mn m U,Lib.itoa_neg m U,Lib.decDigits_one U]; rfl,hF.same⟩
 refine Qa (Ga (Ha ?_))
 refine Ff (zs:=[]) (.free 0 (.free 1 (.free 3 (.free 4 (.free 5 (.free 6 (.free 7 (.free 8 (.free 9 (.free 10 (.free 11 (.act 2 (.free 12 (.free 13 .nil)))))))))))))) hF ?_
 clear hF; intro w hF
 refine Db O (Va O) (Oa O (v:=.int .i64 (-((m / 10:Nat):Int))) (fun w hC=>EG O O Ua (Id (GJ m) U U)) (Db O (Qc O) (Db O (Va O) (Oa O (v:=.int .i64 (-((m % 10:Nat):Int))) (fun w hC=>SC O O Ua (U5 m)) (Oa O (v:=.int .i64 (((m % 10:Nat):Int))) (fun w hC=>L0 O (Id U U U)) (Db O (Va O) (Oa O (v:=.int .i64 (-((m % 10:Nat):Int))) (fun w hC=>SC O O Ua (U5 m)) (Oa O (v:=.int .i64 (((m % 10:Nat):Int))) (fun w hC=>L0 O (Id U U U)) (Db O (If (((m % 10+1:Nat):Int)) O O) ?_)))))))))
 refine Oa rfl (v:=.string (bs ((([48,49,50,51,52,53,54,55,56,57]:Str).take (m % 10+1)).drop (m % 10)))) (fun w hC=>Cx (m % 10) (m % 10+1) underlying9 rfl rfl rfl (by first | (simp; omega) | omega) (by first | (simp; omega) | omega)) ?_
 refine Um hF (ih (m / 10) U U _) O (Cb E_ O O) ?_
 clear hF; intro w hF
 refine ⟨hF,?_⟩
 refine Oa O (v:=.string (bs ((Lib.itoa (-((m / 10:Nat):Int)))++((([48,49,50,51,52,53,54,55,56,57]:Str).take (m % 10+1)).drop (m % 10))))) (fun w hC=>Gh O O (by have:=Lib.itoa_length_le (-((m / 10:Nat):Int)) U U; rw [Mn _ U]; exact Nat.le_trans (Nat.add_le_add_right this 1) Ua)) ?_
 refine Db O (Rd O) (Mc (Ga ?_))
 refine Ub (Rb (Sa (An (v:=.string (bs ((Lib.itoa (-((m / 10:Nat):Int)))++((([48,49,50,51,52,53,54,55,56,57]:Str).take (m % 10+1)).drop (m % 10))))) O O) ?_))
 exact ⟨by rw [Mn _ U,Lib.itoa_neg m U,Lib.itoa_neg (m / 10) U,BO (m:=m) U]; rfl,hF.same⟩
theorem PU (n:Int) (h1:-9223372036854775808≤n) (h2:n≤9223372036854775807):DE n:=by
  have hp:∀ m:Nat,(m:Int)≤9223372036854775807→DE (m:Int):=fun m=>by
    induction m using Nat.strongRecOn with
    | ind m ih=>exact fun hm=>NR m hm fun q hq=>ih q hq U
  have hn:∀ m:Nat,1≤m→(m:Int)≤9223372036854775808→DE (-(m:Int)):=fun m=>by
    induction m using Nat.strongRecOn with
    | ind m ih=>exact fun h1 hm=>NS m h1 hm fun q hq hq1=>ih q hq hq1 U
  rcases Int.lt_or_le n 0 with h | h
  · have := hn n.natAbs U U
    rwa [show -((n.natAbs:Nat):Int)=n by omega] at this
  · have := hp n.toNat U
    rwa [show ((n.toNat:Nat):Int)=n by omega] at this
theorem Vr {x:Num} (h:Zd x=true) (h0:¬x=Num.zero):x.digits≠[]:=by
  unfold Zd at h
  simp only [Bool.or_eq_true,Bool.and_eq_true,decide_eq_true_eq] at h
  rcases h with h | h
  · exact absurd h h0
  · exact Eh h.1.1.1.1.1
theorem UR (x:Num) (hl:x.digits.length≤140737488355328) (w0:World):Calls prog 131 #[Kn x] w0 (De fun v w'=>v=.string (bs (Km x))∧Same [] w0 w'):=by
 refine Ka func131 O ntmps131 Kb (Sc _) ?_
 have hF:=FR.start w0 []
 refine Ia ?_
 refine Bh hF O ?_
 clear hF; rintro b1 w hb1 hF -
 refine Ca (Rd O) (Bc (Tc (Wj isAgg61 sizeOf61 O hF.F 0 O O) ?_))
 refine Jb hF (UA x hl _) (Cb WO O O) ?_
 clear hF; intro w hF
 refine Ca (Hc O) (Ea (Ha (Ia (Ca (Jc O) (Ca (Pn O) (Ea ?_))))))
 refine Mi O O (fun hc0=>?_) (fun hc0=>?_)
 refine Ia (Ca (Rd O) (Ea ?_))
 refine Td (v:=.string (bs [])) O O ?_
 exact ⟨by rw [Km,if_pos (by simp_all)],hF.same⟩
 refine Qa (Ga (Ha (Ia (Tc (Wj isAgg61 sizeOf61 O hF.F 0 O O) ?_))))
 refine Jb hF (PB x _) (Cb HP O O) ?_
 clear hF; intro w hF
 refine Ea ?_
 refine Yb O O (fun hc1=>?_) (fun hc1=>?_)
 refine Ia (Ca (Rd O) (Ea ?_))
 refine Td (v:=.string (bs [48])) O O ?_
 have hz:x=Num.zero:=(by assumption)
 exact ⟨(by subst hz; rfl),hF.same⟩
 refine Qa (Ga (Ia (Ca (Ec Ek O) (Tc (Tp isAgg9 O hF.F 0 O O) (Ca (Rd O) (Ea (Ha (Ia (Ca (Ec G1 O) (Tc (RV isAgg4 O hF.F 0 O O) ?_))))))))))
 refine Ea ?_
 refine Mi O O (fun hc2=>?_) (fun hc2=>?_)
 refine Fa (Ca (Qc O) ?_)
 refine Ja (v:=.string (bs (([45])++(x.digits)))) (Gh O O (by simp; omega)) ?_
 refine Ca (Rd O) (Ea (Ha (Ia (Ca (Ec Di O) (Tc (Hl isAgg3 O hF.F 0 O O) (Ca (Sq O O) (Ea ?_)))))))
 refine Yb O O (fun hc3=>?_) (fun hc3=>?_)
 refine Fa (Ca (Qc O) ?_)
 refine Ja (v:=.string (bs ((([45])++(x.digits))++([101])))) (Gh O O (by simp; omega)) ?_
 refine Ca (Ec Di O) (Tc (Hl isAgg3 O hF.F 0 O O) ?_)
 refine Jb hF (PU x.exp (by have hr:=Pd (x:=x) (by simp_all); omega) (by have hr:=Pd (x:=x) (by simp_all); omega) _) (Cb E_ O O) ?_
 clear hF; intro w hF
 refine Ja (v:=.string (bs (((([45])++(x.digits))++([101]))++(Lib.itoa x.exp)))) (Gh O O (by have hr:=Pd (x:=x) (by simp_all); have:=Lib.itoa_length_le x.exp U U; simp; omega)) ?_
 refine Ca (Rd O) (Bc (Ca (Qc O) (Ca (Rd O) (Ea ?_))))
 refine Ub (Rb (Sa (An (v:=.string (bs (((([45])++(x.digits))++([101]))++(Lib.itoa x.exp)))) O O) ?_))
 refine ⟨congrArg (fun y=>Value.string (bs y)) ?_,hF.same⟩
 have hne:=Vr (x:=x) (by simp_all) (by assumption)
 rw [Km,if_neg (by simp_all),if_neg hne]
 simp_all
 refine Qa (Ga (Ia (Ca (Qc O) (Ca (Rd O) (Ea ?_)))))
 refine Td (v:=.string (bs (([45])++(x.digits)))) O O ?_
 refine ⟨congrArg (fun y=>Value.string (bs y)) ?_,hF.same⟩
 have hne:=Vr (x:=x) (by simp_all) (by assumption)
 rw [Km,if_neg (by simp_all),if_neg hne]
 simp_all
 refine Qa (Ga (Ha (Ia (Ca (Ec Di O) (Tc (Hl isAgg3 O hF.F 0 O O) (Ca (Sq O O) (Ea ?_)))))))
 refine Yb O O (fun hc3=>?_) (fun hc3=>?_)
 refine Fa (Ca (Qc O) ?_)
 refine Ja (v:=.string (bs ((x.digits)++([101])))) (Gh O O (by simp; omega)) ?_
 refine Ca (Ec Di O) (Tc (Hl isAgg3 O hF.F 0 O O) ?_)
 refine Jb hF (PU x.exp (by have hr:=Pd (x:=x) (by simp_all); omega) (by have hr:=Pd (x:=x) (by simp_all); omega) _) (Cb E_ O O) ?_
 clear hF; intro w hF
 refine Ja (v:=.string (bs (((x.digits)++([101]))++(Lib.itoa x.exp)))) (Gh O O (by have hr:=Pd (x:=x) (by simp_all); have:=Lib.itoa_length_le x.exp U U; simp; omega)) ?_
 refine Ca (Rd O) (Bc (Ca (Qc O) (Ca (Rd O) (Ea ?_))))
 refine Ub (Rb (Sa (An (v:=.string (bs (((x.digits)++([101]))++(Lib.itoa x.exp)))) O O) ?_))
 refine ⟨congrArg (fun y=>Value.string (bs y)) ?_,hF.same⟩
 have hne:=Vr (x:=x) (by simp_all) (by assumption)
 rw [Km,if_neg (by simp_all),if_neg hne]
 simp_all
 refine Qa (Ga (Ia (Ca (Qc O) (Ca (Rd O) (Ea ?_)))))
 refine Td (v:=.string (bs (x.digits))) O O ?_
 refine ⟨congrArg (fun y=>Value.string (bs y)) ?_,hF.same⟩
 have hne:=Vr (x:=x) (by simp_all) (by assumption)
 rw [Km,if_neg (by simp_all),if_neg hne]
 simp_all
end Go.Scarf
namespace Go.Scarf
open Go.RowKit Go.Proofs Go.Proofs.Tryz
def Ai (s:Str) (k:Int):Bool:=decide ((0:Int) < (s.length:Int)) && decide (bZ s 0=k)
theorem He {s:Str} {k:Int} (h:(0:Int) < (s.length:Int)) (e:bZ s 0=k):Ai s k=true:=by rw [Ai,decide_eq_true h,decide_eq_true e]; rfl
theorem Nc {s:Str} {k:Int} (h:¬(0:Int) < (s.length:Int)):Ai s k=false:=by rw [Ai,decide_eq_false h]; rfl
theorem Od {s:Str} {k:Int} (e:¬bZ s 0=k):Ai s k=false:=by rw [Ai,decide_eq_false e,Bool.and_false]
theorem Nh {s:Str} {k:Int} (h:(0:Int) < (s.length:Int)):Ai s k=decide (bZ s 0=k):=by rw [Ai,decide_eq_true h,Bool.true_and]
theorem PA (s:Str) (c:UInt8):Ai s (c.toNat:Int)=Lib.hasPrefix s [c]:=by
  cases s with
  | nil=>rfl
  | cons a s =>
    have h0:bZ (a::s) 0=(a.toNat:Int):=(Ii (s:=a::s) (p:=0) Ma).symm
    rw [Ai,h0,decide_eq_true Ma,Bool.true_and]
    by_cases h:a=c
    · subst h; simp [Lib.hasPrefix]
    · have : ¬ ((a.toNat : Int) = (c.toNat : Int)) := fun e => h (UInt8.toNat.inj U)
      have h2:(c == a)=false:=by simpa using fun e=>h e.symm
      rw [decide_eq_false this]
      simp [Lib.hasPrefix,List.isPrefixOf,h2]
theorem Qn {at_ s:Str} {j:Nat} (hj:j≤s.length) (hno:∀ c∈s.take j,at_.contains c=false) (h:∀ h:j < s.length,at_.contains s[j]=true):Wa at_ s=(s.take j,s.drop (j+1),decide (j < s.length)):=by
  by_cases hl:j < s.length
  · rw [Ez hl hno (h hl),decide_eq_true hl]
  · rw [List.take_of_length_le U] at hno ⊢
    rw [Vy hno,List.drop_eq_nil_of_le U,decide_eq_false hl]
theorem J7 {c:UInt8} (h:((c.toNat:Nat):Int)=101∨((c.toNat:Nat):Int)=69):([101,69]:Str).contains c=true:=by
  rcases h with h | h
  · rw [(YH (n:=101) U).1 h]; decide
  · rw [(YH (n:=69) U).1 h]; decide
theorem HN {c:UInt8} (h1:¬((c.toNat:Nat):Int)=101) (h2:¬((c.toNat:Nat):Int)=69):([101,69]:Str).contains c=false:=by
  rw [Bool.eq_false_iff]
  intro h
  simp only [List.contains_cons,List.contains_nil,Bool.or_false,Bool.or_eq_true,beq_iff_eq] at h
  rcases h with rfl | rfl
  · exact h1 O
  · exact h2 O
theorem B9 {c:UInt8} (h:((c.toNat:Nat):Int)=46):([46]:Str).contains c=true:=by rw [(YH (n:=46) U).1 h]; decide
theorem RG {c:UInt8} (h1:¬((c.toNat:Nat):Int)=46):([46]:Str).contains c=false:=by
  rw [Bool.eq_false_iff]
  intro h
  simp only [List.contains_cons,List.contains_nil,Bool.or_false,beq_iff_eq] at h
  subst h
  exact h1 O
def Nq (f:Bool) (Z:Str):Str:=if f=true then (if Ai Z 45=true∨Ai Z 43=true then Z.drop 1 else Z) else [48]
theorem Ui {Z:Str} (h:Ai Z 45=true):Nq true Z=Z.drop 1:=by rw [Nq,if_pos rfl,if_pos (.inl h)]
theorem Si {Z:Str} (h:Ai Z 43=true):Nq true Z=Z.drop 1:=by rw [Nq,if_pos rfl,if_pos (.inr h)]
theorem Ti {Z:Str} (h:Ai Z 45=false) (h2:Ai Z 43=false):Nq true Z=Z:=by rw [Nq,if_pos rfl,if_neg (by rw [h,h2]; decide)]
def Ty (W R E:Str):Bool:=Gi W && (Gi R && (Gi E && (decide (W=[48]) || decide (¬bZ W 0=48))))
structure Parts (s:Str) (neg:Bool) (whole rest:Str) (minus:Bool) (exp:Str) (ok:Bool):Prop where
  h : ∃ (s1 W Z R1 : Str) (f g : Bool), neg = Ai s 45 ∧ s1 = (if Ai s 45 = true then s.drop 1 else s) ∧ Wa [101, 69] s1 = ((Wa [101, 69] s1).1, Z, f) ∧ Wa [46] (Wa [101, 69] s1).1 = (W, R1, g) ∧
    whole=W∧rest=(if g=true then R1 else [])∧minus=(f && Ai Z 45)∧exp=Nq f Z∧ok=Ty W (if g=true then R1 else [48]) (Nq f Z)
theorem YS (s:Str) (hl:s.length≤140737488355328) (w0:World):Calls prog 162 #[.string (bs s)] w0 (De fun v w'=>∃ neg whole rest minus exp ok,v=.tuple #[.bool neg,.string (bs whole),.string (bs rest),.bool minus,.string (bs exp),.bool ok]∧Parts s neg whole rest minus exp ok∧Same [] w0 w'):=by
 refine Ka func162 O ntmps162 Kb (Sc _) ?_
 have hF:=FR.start w0 []
 refine Ia (Ca (Hc O) (Ca (Rd O) (Ca (Rd O) (Ca (Hc O) (Ca (Rd O) (Ca (Hc O) (Bc (Ca (Qc O) (Ca (Xl underlying9 O) ?_)))))))))
 refine Ca (Ho O O) (Ca (Jc O) ?_)
 refine Hb (d:=18) O (fun hg0=>?_) (fun hg0=>?_)
 refine Ca (Qc O) ?_
 refine Ja (v:=.int .u8 (bZ (s) 0)) (by rw [←Ii (s:=s) (p:=0) U]; exact Kd 0 underlying9 O O U) ?_
 refine Ca (Th O O) (Ca (Ic O O) (Ca (Hc O) (Ea (Ha ?_))))
 refine Qf (fun σ w=>∃ (ng:Bool),∃ (s1:Str),(ng=Ai s 45)∧(s1=if Ai s 45=true then s.drop 1 else s)∧AllEq σ [(0,.string (bs s1)),(8,.bool (ng))]∧FR w0 [] [] w) ?_ ?_
 refine Ia (Ca (Jc O) (Ea ?_))
 refine Yb O O (fun hc0=>?_) (fun hc0=>?_)
 refine Fa (Ca (Qc O) (Ja (v:=.string (bs ((s:Str).drop (1)))) (Yh (1) underlying9 O O U) (Ca (Rd O) (Xa ?_))))
 · exact Ib ⟨(decide ((bZ (s) 0:Int)=(45:Int))),((s:Str).drop (1)),(by first | exact (Nh U).symm | exact (Nc U).symm),(by first | (rw [if_pos (He U U)]; done) | (rw [if_neg (by rw [Nc U]; decide)]; done) | (rw [if_neg (by rw [Od U]; decide)]; done)),Iw,hF⟩
 refine Qa ?_
 · exact Ib ⟨(decide ((bZ (s) 0:Int)=(45:Int))),(s),(by first | exact (Nh U).symm | exact (Nc U).symm),(by first | (rw [if_pos (He U U)]; done) | (rw [if_neg (by rw [Nc U]; decide)]; done) | (rw [if_neg (by rw [Od U]; decide)]; done)),Iw,hF⟩
 clear hF; rintro σ w ⟨ng,s1,hng,hs1,hs,hF⟩
 refine Eg.slots hs ?_
 clear hs; intro σ
 have hl1:s1.length≤140737488355328:=by rw [hs1]; split <;> (try simp) <;> omega
 refine Ga (Ia (Ca (Wb O) (Ea (Ha ?_))))
 refine Qf (fun σ w=>∃ (k:Nat),(k≤s1.length)∧(Wa [101,69] s1=(s1.take k,s1.drop (k+1),decide (k < s1.length)))∧AllEq σ [(0,.string (bs s1)),(8,.bool (ng)),(9,.int .i64 ((k:Int)))]∧FR w0 [] [] w) ?_ ?_
 refine Ta ?_
 refine Lc (fun μ σ w=>∃ (j:Nat),μ=s1.length - j∧(j≤s1.length)∧(∀ c∈s1.take j,([101,69]:Str).contains c=false)∧AllEq σ [(0,.string (bs s1)),(8,.bool (ng)),(9,.int .i64 ((j:Int)))]∧FR w0 [] [] w) _ ⟨0,O,(Nat.zero_le _),Ma,Vp,hF⟩ ?_
 clear hF; rintro μ σ w ⟨j,rfl,hj,hno,hs,hF⟩
 refine Cg.slots hs ?_
 clear hs; intro σ
 refine Ha (Ia (Ca (Va O) (Ca (Qc O) (Ca (Xl underlying9 O) (Ca (Yg O O) (Ca (Jc O) ?_))))))
 refine Hb (d:=30) O (fun hg1=>?_) (fun hg1=>?_)
 refine Ca (Qc O) (Ca (Va O) (Ja (v:=.int .u8 ((((s1:Str)[j]'U).toNat:Int))) (Kd (j) underlying9 O O U) (Ca (Sq O O) (Ca (Ic O O) (Ca (Jc O) ?_)))))
 refine Hb (d:=36) O (fun hg2=>?_) (fun hg2=>?_)
 refine Ca (Qc O) (Ca (Va O) (Ja (v:=.int .u8 ((((s1:Str)[j]'U).toNat:Int))) (Kd (j) underlying9 O O U) (Ca (Sq O O) (Ca (Ic O O) (Ea ?_)))))
 refine Yb O O (fun hc1=>?_) (fun hc1=>?_)
 refine Qa (Ga (Ta (Fa (Ca (Va O) (Ca (If (((j+1:Nat):Int)) O O) (Ca (Wb O) (Xa (Eb ?_))))))))
 refine Ib ⟨_,?_,j+1,O,U,(Ow U hno (HN U U)),Vp,hF⟩
 omega
 refine Dc (Cc O ?_)
 exact Ib ⟨(j),U,(Qn U hno (fun h=>J7 U)),Vp,hF⟩
 refine Da (Da (Da (Da (Ca (Gc O O) (Ea (Ie O ?_))))))
 refine Dc (Cc O ?_)
 exact Ib ⟨(j),U,(Qn U hno (fun h=>J7 U)),Vp,hF⟩
 refine Da (Da (Da (Da (Ca (Gc O O) (Ca (Jc O) (Da (Da (Da (Da (Ca (Gc O O) (Ea (Ie O ?_))))))))))))
 refine Dc (Cc O ?_)
 exact Ib ⟨(j),U,(Qn U hno (fun h=>J7 U)),Vp,hF⟩
 clear hF; rintro σ w ⟨k,hk,hcut,hs,hF⟩
 refine Eg.slots hs ?_
 clear hs; intro σ
 refine Ga (Ia (Ca (Rd O) (Bc (Ca (Hc O) (Ea ?_)))))
 have hZl:((((s1:Str).drop (k+1)):Str).length:Int)=(s1.length - (k+1):Nat):=by simp
 refine Ha ?_
 refine Qf (fun σ w=>∃ (ex:Str),∃ (mi:Bool),(ex=Nq (decide (k < s1.length)) ((s1:Str).drop (k+1)))∧(mi=(decide (k < s1.length) && Ai ((s1:Str).drop (k+1)) 45))∧AllEq σ [(0,.string (bs s1)),(8,.bool (ng)),(9,.int .i64 ((k:Int))),(10,.string (bs ex)),(11,.bool (mi))]∧FR w0 [] [] w) ?_ ?_
 refine Ia (Ca (Va O) (Ca (Qc O) (Ca (Xl underlying9 O) (Ca (Yg O O) (Ea ?_)))))
 refine Yb O O (fun hc2=>?_) (fun hc2=>?_)
 refine Ia (Ca (Qc O) (Ca (Va O) (Ca (If (((k+1:Nat):Int)) O O) (Ja (v:=.string (bs ((s1:Str).drop (k+1)))) (Yh (k+1) underlying9 O O U) (Ca (Rd O) (Bc (Ca (Qc O) (Ca (Xl underlying9 O) (Ca (Ho O O) ?_)))))))))
 refine Ca (Jc O) ?_
 refine Hb (d:=55) O (fun hg3=>?_) (fun hg3=>?_)
 refine Ca (Qc O) ?_
 refine Ja (v:=.int .u8 (bZ (((s1:Str).drop (k+1))) 0)) (by rw [←Ii (s:=((s1:Str).drop (k+1))) (p:=0) U]; exact Kd 0 underlying9 O O U) ?_
 refine Ca (Th O O) (Ca (Ic O O) (Ca (Hc O) (Bc (Ca (Jc O) (Ca (Jc O) ?_)))))
 refine Hb (d:=61) O (fun hg4=>?_) (fun hg4=>?_)
 refine Da (Da (Da (Da (Da (Da (Da (Da (Ca (Ic O O) (Ea (Ae O (Fa (Ca (Qc O) ?_))))))))))))
 refine Ja (v:=.string (bs (((s1:Str).drop (k+1):Str).drop (1)))) (Yh (1) underlying9 O O U) (Ca (Rd O) (Xa ?_))
 exact Ib ⟨(((s1:Str).drop (k+1):Str).drop (1)),(decide ((bZ (((s1:Str).drop (k+1))) 0:Int)=(45:Int))),(by first | (rw [decide_eq_true (show k < s1.length by omega)]; first | exact (Ui (He U U)).symm | exact (Si (He U U)).symm | exact (Ti (by first | exact Nc U | exact Od U) (by first | exact Nc U | exact Od U)).symm) | (rw [decide_eq_false (show ¬k < s1.length by omega)]; rfl)),(by first | (rw [decide_eq_true (show k < s1.length by omega),Bool.true_and]; first | exact (Nh U).symm | exact (Nc U).symm) | (rw [decide_eq_false (show ¬k < s1.length by omega)]; rfl)),Am,hF⟩
 refine Ca (Qc O) (Ca (Xl underlying9 O) (Ca (Ho O O) (Ca (Jc O) ?_)))
 refine Hb (d:=65) O (fun hg5=>?_) (fun hg5=>?_)
 refine Ca (Qc O) ?_
 refine Ja (v:=.int .u8 (bZ (((s1:Str).drop (k+1))) 0)) (by rw [←Ii (s:=((s1:Str).drop (k+1))) (p:=0) U]; exact Kd 0 underlying9 O O U) ?_
 refine Ca (Th O O) (Ca (Ic O O) (Ca (Gc O O) (Ea ?_)))
 refine Yb O O (fun hc3=>?_) (fun hc3=>?_)
 refine Fa (Ca (Qc O) (Ja (v:=.string (bs (((s1:Str).drop (k+1):Str).drop (1)))) (Yh (1) underlying9 O O U) (Ca (Rd O) (Xa ?_))))
 exact Ib ⟨(((s1:Str).drop (k+1):Str).drop (1)),(decide ((bZ (((s1:Str).drop (k+1))) 0:Int)=(45:Int))),(by first | (rw [decide_eq_true (show k < s1.length by omega)]; first | exact (Ui (He U U)).symm | exact (Si (He U U)).symm | exact (Ti (by first | exact Nc U | exact Od U) (by first | exact Nc U | exact Od U)).symm) | (rw [decide_eq_false (show ¬k < s1.length by omega)]; rfl)),(by first | (rw [decide_eq_true (show k < s1.length by omega),Bool.true_and]; first | exact (Nh U).symm | exact (Nc U).symm) | (rw [decide_eq_false (show ¬k < s1.length by omega)]; rfl)),Am,hF⟩
 refine Qa ?_
 exact Ib ⟨((s1:Str).drop (k+1)),(decide ((bZ (((s1:Str).drop (k+1))) 0:Int)=(45:Int))),(by first | (rw [decide_eq_true (show k < s1.length by omega)]; first | exact (Ui (He U U)).symm | exact (Si (He U U)).symm | exact (Ti (by first | exact Nc U | exact Od U) (by first | exact Nc U | exact Od U)).symm) | (rw [decide_eq_false (show ¬k < s1.length by omega)]; rfl)),(by first | (rw [decide_eq_true (show k < s1.length by omega),Bool.true_and]; first | exact (Nh U).symm | exact (Nc U).symm) | (rw [decide_eq_false (show ¬k < s1.length by omega)]; rfl)),Am,hF⟩
 refine Da (Da (Da (Ca (Gc O O) (Ca (Gc O O) (Ea (Ie O (Qa ?_)))))))
 exact Ib ⟨((s1:Str).drop (k+1)),(decide ((bZ (((s1:Str).drop (k+1))) 0:Int)=(45:Int))),(by first | (rw [decide_eq_true (show k < s1.length by omega)]; first | exact (Ui (He U U)).symm | exact (Si (He U U)).symm | exact (Ti (by first | exact Nc U | exact Od U) (by first | exact Nc U | exact Od U)).symm) | (rw [decide_eq_false (show ¬k < s1.length by omega)]; rfl)),(by first | (rw [decide_eq_true (show k < s1.length by omega),Bool.true_and]; first | exact (Nh U).symm | exact (Nc U).symm) | (rw [decide_eq_false (show ¬k < s1.length by omega)]; rfl)),Am,hF⟩
 refine Da (Da (Da (Ca (Gc O O) (Ca (Hc O) (Bc (Ca (Jc O) (Ca (Jc O) (Ca (Qc O) (Ca (Xl underlying9 O) (Ca (Ho O O) ?_))))))))))
 refine Ca (Jc O) ?_
 refine Hb (d:=65) O (fun hg6=>?_) (fun hg6=>?_)
 refine Ca (Qc O) ?_
 refine Ja (v:=.int .u8 (bZ (((s1:Str).drop (k+1))) 0)) (by rw [←Ii (s:=((s1:Str).drop (k+1))) (p:=0) U]; exact Kd 0 underlying9 O O U) ?_
 refine Ca (Th O O) (Ca (Ic O O) (Ca (Gc O O) (Ea ?_)))
 refine Yb O O (fun hc3=>?_) (fun hc3=>?_)
 refine Fa (Ca (Qc O) (Ja (v:=.string (bs (((s1:Str).drop (k+1):Str).drop (1)))) (Yh (1) underlying9 O O U) (Ca (Rd O) (Xa ?_))))
 exact Ib ⟨(((s1:Str).drop (k+1):Str).drop (1)),(false),(by first | (rw [decide_eq_true (show k < s1.length by omega)]; first | exact (Ui (He U U)).symm | exact (Si (He U U)).symm | exact (Ti (by first | exact Nc U | exact Od U) (by first | exact Nc U | exact Od U)).symm) | (rw [decide_eq_false (show ¬k < s1.length by omega)]; rfl)),(by first | (rw [decide_eq_true (show k < s1.length by omega),Bool.true_and]; first | exact (Nh U).symm | exact (Nc U).symm) | (rw [decide_eq_false (show ¬k < s1.length by omega)]; rfl)),Am,hF⟩
 refine Qa ?_
 exact Ib ⟨((s1:Str).drop (k+1)),(false),(by first | (rw [decide_eq_true (show k < s1.length by omega)]; first | exact (Ui (He U U)).symm | exact (Si (He U U)).symm | exact (Ti (by first | exact Nc U | exact Od U) (by first | exact Nc U | exact Od U)).symm) | (rw [decide_eq_false (show ¬k < s1.length by omega)]; rfl)),(by first | (rw [decide_eq_true (show k < s1.length by omega),Bool.true_and]; first | exact (Nh U).symm | exact (Nc U).symm) | (rw [decide_eq_false (show ¬k < s1.length by omega)]; rfl)),Am,hF⟩
 refine Da (Da (Da (Ca (Gc O O) (Ca (Gc O O) (Ea (Ie O (Qa ?_)))))))
 exact Ib ⟨((s1:Str).drop (k+1)),(false),(by first | (rw [decide_eq_true (show k < s1.length by omega)]; first | exact (Ui (He U U)).symm | exact (Si (He U U)).symm | exact (Ti (by first | exact Nc U | exact Od U) (by first | exact Nc U | exact Od U)).symm) | (rw [decide_eq_false (show ¬k < s1.length by omega)]; rfl)),(by first | (rw [decide_eq_true (show k < s1.length by omega),Bool.true_and]; first | exact (Nh U).symm | exact (Nc U).symm) | (rw [decide_eq_false (show ¬k < s1.length by omega)]; rfl)),Am,hF⟩
 refine Qa ?_
 exact Ib ⟨([48]),(false),(by first | (rw [decide_eq_true (show k < s1.length by omega)]; first | exact (Ui (He U U)).symm | exact (Si (He U U)).symm | exact (Ti (by first | exact Nc U | exact Od U) (by first | exact Nc U | exact Od U)).symm) | (rw [decide_eq_false (show ¬k < s1.length by omega)]; rfl)),(by first | (rw [decide_eq_true (show k < s1.length by omega),Bool.true_and]; first | exact (Nh U).symm | exact (Nc U).symm) | (rw [decide_eq_false (show ¬k < s1.length by omega)]; rfl)),Am,hF⟩
 clear hF; rintro σ w ⟨ex,mi,hex,hmi,hs,hF⟩
 refine Eg.slots hs ?_
 clear hs; intro σ
 have hex2:ex.length≤140737488355328:=by rw [hex]; unfold Nq; (repeat' split) <;> (try simp) <;> omega
 have hlt:(s1.take k).length≤140737488355328:=by simp; omega
 refine Ga (Ia (Ca (Qc O) (Ca (Va O) (Ja (v:=.string (bs ((s1:Str).take (k)))) (Xq (k) underlying9 O O U) (Ca (Rd O) (Bc (Ca (Wb O) (Ea ?_))))))))
 refine Ha ?_
 refine Qf (fun σ w=>∃ (q:Nat),(q≤((s1:Str).take k).length)∧(Wa [46] ((s1:Str).take k)=((((s1:Str).take k).take q),(((s1:Str).take k).drop (q+1)),decide (q < ((s1:Str).take k).length)))∧AllEq σ [(0,.string (bs ((s1:Str).take (k)))),(8,.bool (ng)),(9,.int .i64 ((q:Int))),(10,.string (bs ex)),(11,.bool (mi))]∧FR w0 [] [] w) ?_ ?_
 refine Ta ?_
 refine Lc (fun μ σ w=>∃ (j:Nat),μ=((s1:Str).take k).length - j∧(j≤((s1:Str).take k).length)∧(∀ c∈((s1:Str).take k).take j,([46]:Str).contains c=false)∧AllEq σ [(0,.string (bs ((s1:Str).take (k)))),(8,.bool (ng)),(9,.int .i64 ((j:Int))),(10,.string (bs ex)),(11,.bool (mi))]∧FR w0 [] [] w) _ ⟨0,O,(Nat.zero_le _),Ma,Am,hF⟩ ?_
 clear hF; rintro μ σ w ⟨j,rfl,hj,hno,hs,hF⟩
 refine Cg.slots hs ?_
 clear hs; intro σ
 refine Ha (Ia (Ca (Va O) (Ca (Qc O) (Ca (Xl underlying9 O) (Ca (Yg O O) (Ca (Jc O) ?_))))))
 refine Hb (d:=80) O (fun hg7=>?_) (fun hg7=>?_)
 refine Ca (Qc O) (Ca (Va O) (Ja (v:=.int .u8 (((((s1:Str).take (k):Str)[j]'U).toNat:Int))) (Kd (j) underlying9 O O U) (Ca (Sq O O) (Ca (Ic O O) (Ea ?_)))))
 refine Yb O O (fun hc4=>?_) (fun hc4=>?_)
 refine Qa (Ga (Ta (Fa (Ca (Va O) (Ca (If (((j+1:Nat):Int)) O O) (Ca (Wb O) (Xa (Eb ?_))))))))
 refine Ib ⟨_,?_,j+1,O,U,(Ow U hno (RG U)),Am,hF⟩
 omega
 refine Dc (Cc O ?_)
 exact Ib ⟨(j),U,(Qn U hno (fun h=>B9 U)),Am,hF⟩
 refine Da (Da (Da (Da (Ca (Gc O O) (Ea (Ie O ?_))))))
 refine Dc (Cc O ?_)
 exact Ib ⟨(j),U,(Qn U hno (fun h=>B9 U)),Am,hF⟩
 clear hF; rintro σ w ⟨q,hq,hcut2,hs,hF⟩
 refine Eg.slots hs ?_
 clear hs; intro σ
 refine Ga (Ia (Ca (Qc O) (Ca (Va O) (Ja (v:=.string (bs (((s1:Str).take (k):Str).take (q)))) (Xq (q) underlying9 O O U) (Ca (Rd O) (Bc (Ca (Rd O) (Ea ?_))))))))
 refine Ha ?_
 refine Qf (fun σ w=>∃ (re:Str),(re=if decide (q < ((s1:Str).take k).length)=true then (((s1:Str).take k).drop (q+1)) else [48])∧AllEq σ [(0,.string (bs ((s1:Str).take (k)))),(8,.bool (ng)),(9,.int .i64 ((q:Int))),(10,.string (bs ex)),(11,.bool (mi)),(12,.string (bs (((s1:Str).take (k):Str).take (q)))),(13,.string (bs re))]∧FR w0 [] [] w) ?_ ?_
 refine Ia (Ca (Va O) (Ca (Qc O) (Ca (Xl underlying9 O) (Ca (Yg O O) (Ea ?_)))))
 refine Yb O O (fun hc5=>?_) (fun hc5=>?_)
 refine Fa (Ca (Qc O) (Ca (Va O) (Ca (If (((q+1:Nat):Int)) O O) (Ja (v:=.string (bs (((s1:Str).take (k):Str).drop (q+1)))) (Yh (q+1) underlying9 O O U) (Ca (Rd O) (Xa ?_))))))
 · exact Ib ⟨(((s1:Str).take (k):Str).drop (q+1)),(by first | (rw [if_pos (decide_eq_true (show q < ((s1:Str).take k).length by omega))]; done) | (rw [if_neg (by rw [decide_eq_false (show ¬q < ((s1:Str).take k).length by omega)]; decide)]; done)),BG,hF⟩
 refine Qa ?_
 · exact Ib ⟨([48]),(by first | (rw [if_pos (decide_eq_true (show q < ((s1:Str).take k).length by omega))]; done) | (rw [if_neg (by rw [decide_eq_false (show ¬q < ((s1:Str).take k).length by omega)]; decide)]; done)),BG,hF⟩
 clear hF; rintro σ w ⟨re,hre,hs,hF⟩
 refine Eg.slots hs ?_
 clear hs; intro σ
 have hre2:re.length≤140737488355328:=by rw [hre]; split <;> (try simp) <;> omega
 refine Ga (Ia (Ca (Qc O) ?_))
 refine Jb hF (In (((s1:Str).take (k):Str).take (q)) (by have:=hlt; first | omega | (simp only [List.length_take,List.length_drop] at *; omega)) _) (Cb Pv rfl rfl) ?_
 clear hF; intro w hF
 refine Ca (Jc O) ?_
 refine Jf (d:=101) O (fun hg8=>?_) (fun hg8=>?_)
 refine Ca (Qc O) ?_
 refine Jb hF (In (re) hre2 _) (Cb Pv O O) ?_
 clear hF; intro w hF
 refine Ca (Ic O O) (Ca (Jc O) ?_)
 refine Jf (d:=105) O (fun hg9=>?_) (fun hg9=>?_)
 refine Ca (Qc O) ?_
 refine Jb hF (In (ex) hex2 _) (Cb Pv O O) ?_
 clear hF; intro w hF
 refine Ca (Ic O O) (Ca (Jc O) ?_)
 refine Jf (d:=109) O (fun hg10=>?_) (fun hg10=>?_)
 refine Ca (Qc O) (Ca (Ay O O) (Ca (Jc O) ?_))
 refine Hb (d:=112) O (fun hg11=>?_) (fun hg11=>?_)
 refine Da (Da (Da (Ca (Ic O O) (Ca (Ic O O) (Ca (Hc O) (Ea (Ha (Ia (Ca (Va O) (Ca (Qc O) (Ca (Xl underlying9 O) ?_)))))))))))
 refine Ca (Th O O) (Ea ?_)
 refine Yb O O (fun hc6=>?_) (fun hc6=>?_)
 refine Fa (Ca (Rd O) (Bc (Ca (Jc O) (Ca (Qc O) (Ca (Qc O) (Ca (Jc O) (Ca (Qc O) (Ca (Jc O) (Ca (Hc O) (Ca (Rd O) ?_))))))))))
 refine Ca (Rd O) (Ca (Hc O) (Ca (Rd O) (Ca (Hc O) (Ea ?_))))
 refine Ub (Rb (Sa (Em (v1:=.bool _) (v2:=.string (bs (((s1:Str).take (k):Str).take (q)))) (v3:=.string (bs [])) (v4:=.bool _) (v5:=.string (bs ex)) (v6:=.bool true) O O O O O O O) ?_))
 refine ⟨_,_,_,_,_,_,O,⟨s1,(((s1:Str).take k).take q),((s1:Str).drop (k+1)),(((s1:Str).take k).drop (q+1)),_,_,hng,hs1,by rw [hcut],by rw [hcut]; exact hcut2,O,?_,hmi,hex,?_⟩,hF.same⟩
 · first | (rw [if_neg (by rw [decide_eq_false (show ¬q < ((s1:Str).take k).length by omega)]; decide)]; done) | (rw [if_pos (decide_eq_true (show q < ((s1:Str).take k).length by omega))] at hre ⊢; exact hre)
 rw [←hre,←hex]; unfold Ty; simp_all
 refine Qa (Ga (Ia (Ca (Jc O) (Ca (Qc O) (Ca (Qc O) (Ca (Jc O) (Ca (Qc O) (Ca (Jc O) (Ca (Hc O) (Ca (Rd O) (Ca (Rd O) (Ca (Hc O) ?_))))))))))))
 refine Ca (Rd O) (Ca (Hc O) (Ea ?_))
 refine Ub (Rb (Sa (Em (v1:=.bool _) (v2:=.string (bs (((s1:Str).take (k):Str).take (q)))) (v3:=.string (bs re)) (v4:=.bool _) (v5:=.string (bs ex)) (v6:=.bool true) O O O O O O O) ?_))
 refine ⟨_,_,_,_,_,_,O,⟨s1,(((s1:Str).take k).take q),((s1:Str).drop (k+1)),(((s1:Str).take k).drop (q+1)),_,_,hng,hs1,by rw [hcut],by rw [hcut]; exact hcut2,O,?_,hmi,hex,?_⟩,hF.same⟩
 · first | (rw [if_neg (by rw [decide_eq_false (show ¬q < ((s1:Str).take k).length by omega)]; decide)]; done) | (rw [if_pos (decide_eq_true (show q < ((s1:Str).take k).length by omega))] at hre ⊢; exact hre)
 rw [←hre,←hex]; unfold Ty; simp_all
 refine Ca (Qc O) ?_
 refine Ja (v:=.int .u8 (bZ ((((s1:Str).take k).take q)) 0)) (by rw [←Ii (s:=(((s1:Str).take k).take q)) (p:=0) (List.length_pos_iff.2 (Eh (by assumption)))]; exact Kd 0 underlying9 O O (List.length_pos_iff.2 (Eh (by assumption)))) ?_
 refine Ca (Sq O O) (Ca (Gc O O) (Ca (Ic O O) (Ca (Hc O) (Ea (Ha (Ia (Ca (Va O) (Ca (Qc O) (Ca (Xl underlying9 O) (Ca (Th O O) (Xa ?_)))))))))))
 refine Ga ?_
 refine Yb O O (fun hc6=>?_) (fun hc6=>?_)
 refine Fa (Ca (Rd O) (Bc (Ca (Jc O) (Ca (Qc O) (Ca (Qc O) (Ca (Jc O) (Ca (Qc O) (Ca (Jc O) (Ca (Hc O) (Ca (Rd O) ?_))))))))))
 refine Ca (Rd O) (Ca (Hc O) (Ca (Rd O) (Ca (Hc O) (Ea ?_))))
 refine Ub (Rb (Sa (Em (v1:=.bool _) (v2:=.string (bs (((s1:Str).take (k):Str).take (q)))) (v3:=.string (bs [])) (v4:=.bool _) (v5:=.string (bs ex)) (v6:=.bool _) O O O O O O O) ?_))
 refine ⟨_,_,_,_,_,_,O,⟨s1,(((s1:Str).take k).take q),((s1:Str).drop (k+1)),(((s1:Str).take k).drop (q+1)),_,_,hng,hs1,by rw [hcut],by rw [hcut]; exact hcut2,O,?_,hmi,hex,?_⟩,hF.same⟩
 · first | (rw [if_neg (by rw [decide_eq_false (show ¬q < ((s1:Str).take k).length by omega)]; decide)]; done) | (rw [if_pos (decide_eq_true (show q < ((s1:Str).take k).length by omega))] at hre ⊢; exact hre)
 rw [←hre,←hex]; unfold Ty; simp_all
 refine Qa (Ga (Ia (Ca (Jc O) (Ca (Qc O) (Ca (Qc O) (Ca (Jc O) (Ca (Qc O) (Ca (Jc O) (Ca (Hc O) (Ca (Rd O) (Ca (Rd O) (Ca (Hc O) ?_))))))))))))
 refine Ca (Rd O) (Ca (Hc O) (Ea ?_))
 refine Ub (Rb (Sa (Em (v1:=.bool _) (v2:=.string (bs (((s1:Str).take (k):Str).take (q)))) (v3:=.string (bs re)) (v4:=.bool _) (v5:=.string (bs ex)) (v6:=.bool _) O O O O O O O) ?_))
 refine ⟨_,_,_,_,_,_,O,⟨s1,(((s1:Str).take k).take q),((s1:Str).drop (k+1)),(((s1:Str).take k).drop (q+1)),_,_,hng,hs1,by rw [hcut],by rw [hcut]; exact hcut2,O,?_,hmi,hex,?_⟩,hF.same⟩
 · first | (rw [if_neg (by rw [decide_eq_false (show ¬q < ((s1:Str).take k).length by omega)]; decide)]; done) | (rw [if_pos (decide_eq_true (show q < ((s1:Str).take k).length by omega))] at hre ⊢; exact hre)
 rw [←hre,←hex]; unfold Ty; simp_all
 refine Da (Da (Da (Da (Da (Da (Da (Ca (Gc O O) (Ca (Hc O) (Ea (Ha (Ia ?_)))))))))))
 refine Ca (Va O) (Ca (Qc O) (Ca (Xl underlying9 O) (Ca (Th O O) (Ea ?_))))
 refine Yb O O (fun hc6=>?_) (fun hc6=>?_)
 refine Fa (Ca (Rd O) (Bc (Ca (Jc O) (Ca (Qc O) (Ca (Qc O) (Ca (Jc O) (Ca (Qc O) (Ca (Jc O) (Ca (Hc O) (Ca (Rd O) ?_))))))))))
 refine Ca (Rd O) (Ca (Hc O) (Ca (Rd O) (Ca (Hc O) (Ea ?_))))
 refine Ub (Rb (Sa (Em (v1:=.bool _) (v2:=.string (bs (((s1:Str).take (k):Str).take (q)))) (v3:=.string (bs [])) (v4:=.bool _) (v5:=.string (bs ex)) (v6:=.bool false) O O O O O O O) ?_))
 refine ⟨_,_,_,_,_,_,O,⟨s1,(((s1:Str).take k).take q),((s1:Str).drop (k+1)),(((s1:Str).take k).drop (q+1)),_,_,hng,hs1,by rw [hcut],by rw [hcut]; exact hcut2,O,?_,hmi,hex,?_⟩,hF.same⟩
 · first | (rw [if_neg (by rw [decide_eq_false (show ¬q < ((s1:Str).take k).length by omega)]; decide)]; done) | (rw [if_pos (decide_eq_true (show q < ((s1:Str).take k).length by omega))] at hre ⊢; exact hre)
 rw [←hre,←hex]; unfold Ty; simp_all
 refine Qa (Ga (Ia (Ca (Jc O) (Ca (Qc O) (Ca (Qc O) (Ca (Jc O) (Ca (Qc O) (Ca (Jc O) (Ca (Hc O) (Ca (Rd O) (Ca (Rd O) (Ca (Hc O) ?_))))))))))))
 refine Ca (Rd O) (Ca (Hc O) (Ea ?_))
 refine Ub (Rb (Sa (Em (v1:=.bool _) (v2:=.string (bs (((s1:Str).take (k):Str).take (q)))) (v3:=.string (bs re)) (v4:=.bool _) (v5:=.string (bs ex)) (v6:=.bool false) O O O O O O O) ?_))
 refine ⟨_,_,_,_,_,_,O,⟨s1,(((s1:Str).take k).take q),((s1:Str).drop (k+1)),(((s1:Str).take k).drop (q+1)),_,_,hng,hs1,by rw [hcut],by rw [hcut]; exact hcut2,O,?_,hmi,hex,?_⟩,hF.same⟩
 · first | (rw [if_neg (by rw [decide_eq_false (show ¬q < ((s1:Str).take k).length by omega)]; decide)]; done) | (rw [if_pos (decide_eq_true (show q < ((s1:Str).take k).length by omega))] at hre ⊢; exact hre)
 rw [←hre,←hex]; unfold Ty; simp_all
 refine Da (Da (Ca (Gc O O) (Ca (Jc O) (Da (Da (Da (Da (Da (Da (Da (Ca (Gc O O) (Ca (Hc O) (Xa ?_)))))))))))))
 refine Ga (Ha (Ia (Ca (Va O) (Ca (Qc O) (Ca (Xl underlying9 O) (Ca (Th O O) (Ea ?_)))))))
 refine Yb O O (fun hc6=>?_) (fun hc6=>?_)
 refine Fa (Ca (Rd O) (Bc (Ca (Jc O) (Ca (Qc O) (Ca (Qc O) (Ca (Jc O) (Ca (Qc O) (Ca (Jc O) (Ca (Hc O) (Ca (Rd O) ?_))))))))))
 refine Ca (Rd O) (Ca (Hc O) (Ca (Rd O) (Ca (Hc O) (Ea ?_))))
 refine Ub (Rb (Sa (Em (v1:=.bool _) (v2:=.string (bs (((s1:Str).take (k):Str).take (q)))) (v3:=.string (bs [])) (v4:=.bool _) (v5:=.string (bs ex)) (v6:=.bool false) O O O O O O O) ?_))
 refine ⟨_,_,_,_,_,_,O,⟨s1,(((s1:Str).take k).take q),((s1:Str).drop (k+1)),(((s1:Str).take k).drop (q+1)),_,_,hng,hs1,by rw [hcut],by rw [hcut]; exact hcut2,O,?_,hmi,hex,?_⟩,hF.same⟩
 · first | (rw [if_neg (by rw [decide_eq_false (show ¬q < ((s1:Str).take k).length by omega)]; decide)]; done) | (rw [if_pos (decide_eq_true (show q < ((s1:Str).take k).length by omega))] at hre ⊢; exact hre)
 rw [←hre,←hex]; unfold Ty; simp_all
 refine Qa (Ga (Ia (Ca (Jc O) (Ca (Qc O) (Ca (Qc O) (Ca (Jc O) (Ca (Qc O) (Ca (Jc O) (Ca (Hc O) (Ca (Rd O) (Ca (Rd O) (Ca (Hc O) ?_))))))))))))
 refine Ca (Rd O) (Ca (Hc O) (Ea ?_))
 refine Ub (Rb (Sa (Em (v1:=.bool _) (v2:=.string (bs (((s1:Str).take (k):Str).take (q)))) (v3:=.string (bs re)) (v4:=.bool _) (v5:=.string (bs ex)) (v6:=.bool false) O O O O O O O) ?_))
 refine ⟨_,_,_,_,_,_,O,⟨s1,(((s1:Str).take k).take q),((s1:Str).drop (k+1)),(((s1:Str).take k).drop (q+1)),_,_,hng,hs1,by rw [hcut],by rw [hcut]; exact hcut2,O,?_,hmi,hex,?_⟩,hF.same⟩
 · first | (rw [if_neg (by rw [decide_eq_false (show ¬q < ((s1:Str).take k).length by omega)]; decide)]; done) | (rw [if_pos (decide_eq_true (show q < ((s1:Str).take k).length by omega))] at hre ⊢; exact hre)
 rw [←hre,←hex]; unfold Ty; simp_all
 refine Da (Da (Ca (Gc O O) (Ca (Jc O) (Da (Da (Ca (Gc O O) (Ca (Jc O) (Da (Da (Da (Da (Da (Da ?_)))))))))))))
 refine Da (Ca (Gc O O) (Ca (Hc O) (Ea (Ha (Ia (Ca (Va O) (Ca (Qc O) (Ca (Xl underlying9 O) (Ca (Th O O) (Ea ?_))))))))))
 refine Yb O O (fun hc6=>?_) (fun hc6=>?_)
 refine Fa (Ca (Rd O) (Bc (Ca (Jc O) (Ca (Qc O) (Ca (Qc O) (Ca (Jc O) (Ca (Qc O) (Ca (Jc O) (Ca (Hc O) (Ca (Rd O) ?_))))))))))
 refine Ca (Rd O) (Ca (Hc O) (Ca (Rd O) (Ca (Hc O) (Ea ?_))))
 refine Ub (Rb (Sa (Em (v1:=.bool _) (v2:=.string (bs (((s1:Str).take (k):Str).take (q)))) (v3:=.string (bs [])) (v4:=.bool _) (v5:=.string (bs ex)) (v6:=.bool false) O O O O O O O) ?_))
 refine ⟨_,_,_,_,_,_,O,⟨s1,(((s1:Str).take k).take q),((s1:Str).drop (k+1)),(((s1:Str).take k).drop (q+1)),_,_,hng,hs1,by rw [hcut],by rw [hcut]; exact hcut2,O,?_,hmi,hex,?_⟩,hF.same⟩
 · first | (rw [if_neg (by rw [decide_eq_false (show ¬q < ((s1:Str).take k).length by omega)]; decide)]; done) | (rw [if_pos (decide_eq_true (show q < ((s1:Str).take k).length by omega))] at hre ⊢; exact hre)
 rw [←hre,←hex]; unfold Ty; simp_all
 refine Qa (Ga (Ia (Ca (Jc O) (Ca (Qc O) (Ca (Qc O) (Ca (Jc O) (Ca (Qc O) (Ca (Jc O) (Ca (Hc O) (Ca (Rd O) (Ca (Rd O) (Ca (Hc O) ?_))))))))))))
 refine Ca (Rd O) (Ca (Hc O) (Ea ?_))
 refine Ub (Rb (Sa (Em (v1:=.bool _) (v2:=.string (bs (((s1:Str).take (k):Str).take (q)))) (v3:=.string (bs re)) (v4:=.bool _) (v5:=.string (bs ex)) (v6:=.bool false) O O O O O O O) ?_))
 refine ⟨_,_,_,_,_,_,O,⟨s1,(((s1:Str).take k).take q),((s1:Str).drop (k+1)),(((s1:Str).take k).drop (q+1)),_,_,hng,hs1,by rw [hcut],by rw [hcut]; exact hcut2,O,?_,hmi,hex,?_⟩,hF.same⟩
 · first | (rw [if_neg (by rw [decide_eq_false (show ¬q < ((s1:Str).take k).length by omega)]; decide)]; done) | (rw [if_pos (decide_eq_true (show q < ((s1:Str).take k).length by omega))] at hre ⊢; exact hre)
 rw [←hre,←hex]; unfold Ty; simp_all
 refine Da (Da (Da (Ca (Gc O O) (Ca (Hc O) (Ea (Ha ?_))))))
 refine Qf (fun σ w=>∃ (ng:Bool),∃ (s1:Str),(ng=Ai s 45)∧(s1=if Ai s 45=true then s.drop 1 else s)∧AllEq σ [(0,.string (bs s1)),(8,.bool (ng))]∧FR w0 [] [] w) ?_ ?_
 refine Ia (Ca (Jc O) (Ea (Ie O (Qa ?_))))
 · exact Ib ⟨(false),(s),(by first | exact (Nh U).symm | exact (Nc U).symm),(by first | (rw [if_pos (He U U)]; done) | (rw [if_neg (by rw [Nc U]; decide)]; done) | (rw [if_neg (by rw [Od U]; decide)]; done)),Iw,hF⟩
 clear hF; rintro σ w ⟨ng,s1,hng,hs1,hs,hF⟩
 refine Eg.slots hs ?_
 clear hs; intro σ
 have hl1:s1.length≤140737488355328:=by rw [hs1]; split <;> (try simp) <;> omega
 refine Ga (Ia (Ca (Wb O) (Ea (Ha ?_))))
 refine Qf (fun σ w=>∃ (k:Nat),(k≤s1.length)∧(Wa [101,69] s1=(s1.take k,s1.drop (k+1),decide (k < s1.length)))∧AllEq σ [(0,.string (bs s1)),(8,.bool (ng)),(9,.int .i64 ((k:Int)))]∧FR w0 [] [] w) ?_ ?_
 refine Ta ?_
 refine Lc (fun μ σ w=>∃ (j:Nat),μ=s1.length - j∧(j≤s1.length)∧(∀ c∈s1.take j,([101,69]:Str).contains c=false)∧AllEq σ [(0,.string (bs s1)),(8,.bool (ng)),(9,.int .i64 ((j:Int)))]∧FR w0 [] [] w) _ ⟨0,O,(Nat.zero_le _),Ma,Vp,hF⟩ ?_
 clear hF; rintro μ σ w ⟨j,rfl,hj,hno,hs,hF⟩
 refine Cg.slots hs ?_
 clear hs; intro σ
 refine Ha (Ia (Ca (Va O) (Ca (Qc O) (Ca (Xl underlying9 O) (Ca (Yg O O) (Ca (Jc O) ?_))))))
 refine Hb (d:=30) O (fun hg12=>?_) (fun hg12=>?_)
 refine Ca (Qc O) (Ca (Va O) (Ja (v:=.int .u8 ((((s1:Str)[j]'U).toNat:Int))) (Kd (j) underlying9 O O U) (Ca (Sq O O) (Ca (Ic O O) (Ca (Jc O) ?_)))))
 refine Hb (d:=36) O (fun hg13=>?_) (fun hg13=>?_)
 refine Ca (Qc O) (Ca (Va O) (Ja (v:=.int .u8 ((((s1:Str)[j]'U).toNat:Int))) (Kd (j) underlying9 O O U) (Ca (Sq O O) (Ca (Ic O O) (Ea ?_)))))
 refine Yb O O (fun hc1=>?_) (fun hc1=>?_)
 refine Qa (Ga (Ta (Fa (Ca (Va O) (Ca (If (((j+1:Nat):Int)) O O) (Ca (Wb O) (Xa (Eb ?_))))))))
 refine Ib ⟨_,?_,j+1,O,U,(Ow U hno (HN U U)),Vp,hF⟩
 omega
 refine Dc (Cc O ?_)
 exact Ib ⟨(j),U,(Qn U hno (fun h=>J7 U)),Vp,hF⟩
 refine Da (Da (Da (Da (Ca (Gc O O) (Ea (Ie O ?_))))))
 refine Dc (Cc O ?_)
 exact Ib ⟨(j),U,(Qn U hno (fun h=>J7 U)),Vp,hF⟩
 refine Da (Da (Da (Da (Ca (Gc O O) (Ca (Jc O) (Da (Da (Da (Da (Ca (Gc O O) (Ea (Ie O ?_))))))))))))
 refine Dc (Cc O ?_)
 exact Ib ⟨(j),U,(Qn U hno (fun h=>J7 U)),Vp,hF⟩
 clear hF; rintro σ w ⟨k,hk,hcut,hs,hF⟩
 refine Eg.slots hs ?_
 clear hs; intro σ
 refine Ga (Ia (Ca (Rd O) (Bc (Ca (Hc O) (Ea ?_)))))
 have hZl:((((s1:Str).drop (k+1)):Str).length:Int)=(s1.length - (k+1):Nat):=by simp
 refine Ha ?_
 refine Qf (fun σ w=>∃ (ex:Str),∃ (mi:Bool),(ex=Nq (decide (k < s1.length)) ((s1:Str).drop (k+1)))∧(mi=(decide (k < s1.length) && Ai ((s1:Str).drop (k+1)) 45))∧AllEq σ [(0,.string (bs s1)),(8,.bool (ng)),(9,.int .i64 ((k:Int))),(10,.string (bs ex)),(11,.bool (mi))]∧FR w0 [] [] w) ?_ ?_
 refine Ia (Ca (Va O) (Ca (Qc O) (Ca (Xl underlying9 O) (Ca (Yg O O) (Ea ?_)))))
 refine Yb O O (fun hc2=>?_) (fun hc2=>?_)
 refine Ia (Ca (Qc O) (Ca (Va O) (Ca (If (((k+1:Nat):Int)) O O) (Ja (v:=.string (bs ((s1:Str).drop (k+1)))) (Yh (k+1) underlying9 O O U) (Ca (Rd O) (Bc (Ca (Qc O) (Ca (Xl underlying9 O) (Ca (Ho O O) ?_)))))))))
 refine Ca (Jc O) ?_
 refine Hb (d:=55) O (fun hg14=>?_) (fun hg14=>?_)
 refine Ca (Qc O) ?_
 refine Ja (v:=.int .u8 (bZ (((s1:Str).drop (k+1))) 0)) (by rw [←Ii (s:=((s1:Str).drop (k+1))) (p:=0) U]; exact Kd 0 underlying9 O O U) ?_
 refine Ca (Th O O) (Ca (Ic O O) (Ca (Hc O) (Bc (Ca (Jc O) (Ca (Jc O) ?_)))))
 refine Hb (d:=61) O (fun hg15=>?_) (fun hg15=>?_)
 refine Da (Da (Da (Da (Da (Da (Da (Da (Ca (Ic O O) (Ea (Ae O (Fa (Ca (Qc O) ?_))))))))))))
 refine Ja (v:=.string (bs (((s1:Str).drop (k+1):Str).drop (1)))) (Yh (1) underlying9 O O U) (Ca (Rd O) (Xa ?_))
 exact Ib ⟨(((s1:Str).drop (k+1):Str).drop (1)),(decide ((bZ (((s1:Str).drop (k+1))) 0:Int)=(45:Int))),(by first | (rw [decide_eq_true (show k < s1.length by omega)]; first | exact (Ui (He U U)).symm | exact (Si (He U U)).symm | exact (Ti (by first | exact Nc U | exact Od U) (by first | exact Nc U | exact Od U)).symm) | (rw [decide_eq_false (show ¬k < s1.length by omega)]; rfl)),(by first | (rw [decide_eq_true (show k < s1.length by omega),Bool.true_and]; first | exact (Nh U).symm | exact (Nc U).symm) | (rw [decide_eq_false (show ¬k < s1.length by omega)]; rfl)),Am,hF⟩
 refine Ca (Qc O) (Ca (Xl underlying9 O) (Ca (Ho O O) (Ca (Jc O) ?_)))
 refine Hb (d:=65) O (fun hg16=>?_) (fun hg16=>?_)
 refine Ca (Qc O) ?_
 refine Ja (v:=.int .u8 (bZ (((s1:Str).drop (k+1))) 0)) (by rw [←Ii (s:=((s1:Str).drop (k+1))) (p:=0) U]; exact Kd 0 underlying9 O O U) ?_
 refine Ca (Th O O) (Ca (Ic O O) (Ca (Gc O O) (Ea ?_)))
 refine Yb O O (fun hc3=>?_) (fun hc3=>?_)
 refine Fa (Ca (Qc O) (Ja (v:=.string (bs (((s1:Str).drop (k+1):Str).drop (1)))) (Yh (1) underlying9 O O U) (Ca (Rd O) (Xa ?_))))
 exact Ib ⟨(((s1:Str).drop (k+1):Str).drop (1)),(decide ((bZ (((s1:Str).drop (k+1))) 0:Int)=(45:Int))),(by first | (rw [decide_eq_true (show k < s1.length by omega)]; first | exact (Ui (He U U)).symm | exact (Si (He U U)).symm | exact (Ti (by first | exact Nc U | exact Od U) (by first | exact Nc U | exact Od U)).symm) | (rw [decide_eq_false (show ¬k < s1.length by omega)]; rfl)),(by first | (rw [decide_eq_true (show k < s1.length by omega),Bool.true_and]; first | exact (Nh U).symm | exact (Nc U).symm) | (rw [decide_eq_false (show ¬k < s1.length by omega)]; rfl)),Am,hF⟩
 refine Qa ?_
 exact Ib ⟨((s1:Str).drop (k+1)),(decide ((bZ (((s1:Str).drop (k+1))) 0:Int)=(45:Int))),(by first | (rw [decide_eq_true (show k < s1.length by omega)]; first | exact (Ui (He U U)).symm | exact (Si (He U U)).symm | exact (Ti (by first | exact Nc U | exact Od U) (by first | exact Nc U | exact Od U)).symm) | (rw [decide_eq_false (show ¬k < s1.length by omega)]; rfl)),(by first | (rw [decide_eq_true (show k < s1.length by omega),Bool.true_and]; first | exact (Nh U).symm | exact (Nc U).symm) | (rw [decide_eq_false (show ¬k < s1.length by omega)]; rfl)),Am,hF⟩
 refine Da (Da (Da (Ca (Gc O O) (Ca (Gc O O) (Ea (Ie O (Qa ?_)))))))
 exact Ib ⟨((s1:Str).drop (k+1)),(decide ((bZ (((s1:Str).drop (k+1))) 0:Int)=(45:Int))),(by first | (rw [decide_eq_true (show k < s1.length by omega)]; first | exact (Ui (He U U)).symm | exact (Si (He U U)).symm | exact (Ti (by first | exact Nc U | exact Od U) (by first | exact Nc U | exact Od U)).symm) | (rw [decide_eq_false (show ¬k < s1.length by omega)]; rfl)),(by first | (rw [decide_eq_true (show k < s1.length by omega),Bool.true_and]; first | exact (Nh U).symm | exact (Nc U).symm) | (rw [decide_eq_false (show ¬k < s1.length by omega)]; rfl)),Am,hF⟩
 refine Da (Da (Da (Ca (Gc O O) (Ca (Hc O) (Bc (Ca (Jc O) (Ca (Jc O) (Ca (Qc O) (Ca (Xl underlying9 O) (Ca (Ho O O) ?_))))))))))
 refine Ca (Jc O) ?_
 refine Hb (d:=65) O (fun hg17=>?_) (fun hg17=>?_)
 refine Ca (Qc O) ?_
 refine Ja (v:=.int .u8 (bZ (((s1:Str).drop (k+1))) 0)) (by rw [←Ii (s:=((s1:Str).drop (k+1))) (p:=0) U]; exact Kd 0 underlying9 O O U) ?_
 refine Ca (Th O O) (Ca (Ic O O) (Ca (Gc O O) (Ea ?_)))
 refine Yb O O (fun hc3=>?_) (fun hc3=>?_)
 refine Fa (Ca (Qc O) (Ja (v:=.string (bs (((s1:Str).drop (k+1):Str).drop (1)))) (Yh (1) underlying9 O O U) (Ca (Rd O) (Xa ?_))))
 exact Ib ⟨(((s1:Str).drop (k+1):Str).drop (1)),(false),(by first | (rw [decide_eq_true (show k < s1.length by omega)]; first | exact (Ui (He U U)).symm | exact (Si (He U U)).symm | exact (Ti (by first | exact Nc U | exact Od U) (by first | exact Nc U | exact Od U)).symm) | (rw [decide_eq_false (show ¬k < s1.length by omega)]; rfl)),(by first | (rw [decide_eq_true (show k < s1.length by omega),Bool.true_and]; first | exact (Nh U).symm | exact (Nc U).symm) | (rw [decide_eq_false (show ¬k < s1.length by omega)]; rfl)),Am,hF⟩
 refine Qa ?_
 exact Ib ⟨((s1:Str).drop (k+1)),(false),(by first | (rw [decide_eq_true (show k < s1.length by omega)]; first | exact (Ui (He U U)).symm | exact (Si (He U U)).symm | exact (Ti (by first | exact Nc U | exact Od U) (by first | exact Nc U | exact Od U)).symm) | (rw [decide_eq_false (show ¬k < s1.length by omega)]; rfl)),(by first | (rw [decide_eq_true (show k < s1.length by omega),Bool.true_and]; first | exact (Nh U).symm | exact (Nc U).symm) | (rw [decide_eq_false (show ¬k < s1.length by omega)]; rfl)),Am,hF⟩
 refine Da (Da (Da (Ca (Gc O O) (Ca (Gc O O) (Ea (Ie O (Qa ?_)))))))
 exact Ib ⟨((s1:Str).drop (k+1)),(false),(by first | (rw [decide_eq_true (show k < s1.length by omega)]; first | exact (Ui (He U U)).symm | exact (Si (He U U)).symm | exact (Ti (by first | exact Nc U | exact Od U) (by first | exact Nc U | exact Od U)).symm) | (rw [decide_eq_false (show ¬k < s1.length by omega)]; rfl)),(by first | (rw [decide_eq_true (show k < s1.length by omega),Bool.true_and]; first | exact (Nh U).symm | exact (Nc U).symm) | (rw [decide_eq_false (show ¬k < s1.length by omega)]; rfl)),Am,hF⟩
 refine Qa ?_
 exact Ib ⟨([48]),(false),(by first | (rw [decide_eq_true (show k < s1.length by omega)]; first | exact (Ui (He U U)).symm | exact (Si (He U U)).symm | exact (Ti (by first | exact Nc U | exact Od U) (by first | exact Nc U | exact Od U)).symm) | (rw [decide_eq_false (show ¬k < s1.length by omega)]; rfl)),(by first | (rw [decide_eq_true (show k < s1.length by omega),Bool.true_and]; first | exact (Nh U).symm | exact (Nc U).symm) | (rw [decide_eq_false (show ¬k < s1.length by omega)]; rfl)),Am,hF⟩
 clear hF; rintro σ w ⟨ex,mi,hex,hmi,hs,hF⟩
 refine Eg.slots hs ?_
 clear hs; intro σ
 have hex2:ex.length≤140737488355328:=by rw [hex]; unfold Nq; (repeat' split) <;> (try simp) <;> omega
 have hlt:(s1.take k).length≤140737488355328:=by simp; omega
 refine Ga (Ia (Ca (Qc O) (Ca (Va O) (Ja (v:=.string (bs ((s1:Str).take (k)))) (Xq (k) underlying9 O O U) (Ca (Rd O) (Bc (Ca (Wb O) (Ea ?_))))))))
 refine Ha ?_
 refine Qf (fun σ w=>∃ (q:Nat),(q≤((s1:Str).take k).length)∧(Wa [46] ((s1:Str).take k)=((((s1:Str).take k).take q),(((s1:Str).take k).drop (q+1)),decide (q < ((s1:Str).take k).length)))∧AllEq σ [(0,.string (bs ((s1:Str).take (k)))),(8,.bool (ng)),(9,.int .i64 ((q:Int))),(10,.string (bs ex)),(11,.bool (mi))]∧FR w0 [] [] w) ?_ ?_
 refine Ta ?_
 refine Lc (fun μ σ w=>∃ (j:Nat),μ=((s1:Str).take k).length - j∧(j≤((s1:Str).take k).length)∧(∀ c∈((s1:Str).take k).take j,([46]:Str).contains c=false)∧AllEq σ [(0,.string (bs ((s1:Str).take (k)))),(8,.bool (ng)),(9,.int .i64 ((j:Int))),(10,.string (bs ex)),(11,.bool (mi))]∧FR w0 [] [] w) _ ⟨0,O,(Nat.zero_le _),Ma,Am,hF⟩ ?_
 clear hF; rintro μ σ w ⟨j,rfl,hj,hno,hs,hF⟩
 refine Cg.slots hs ?_
 clear hs; intro σ
 refine Ha (Ia (Ca (Va O) (Ca (Qc O) (Ca (Xl underlying9 O) (Ca (Yg O O) (Ca (Jc O) ?_))))))
 refine Hb (d:=80) O (fun hg18=>?_) (fun hg18=>?_)
 refine Ca (Qc O) (Ca (Va O) (Ja (v:=.int .u8 (((((s1:Str).take (k):Str)[j]'U).toNat:Int))) (Kd (j) underlying9 O O U) (Ca (Sq O O) (Ca (Ic O O) (Ea ?_)))))
 refine Yb O O (fun hc4=>?_) (fun hc4=>?_)
 refine Qa (Ga (Ta (Fa (Ca (Va O) (Ca (If (((j+1:Nat):Int)) O O) (Ca (Wb O) (Xa (Eb ?_))))))))
 refine Ib ⟨_,?_,j+1,O,U,(Ow U hno (RG U)),Am,hF⟩
 omega
 refine Dc (Cc O ?_)
 exact Ib ⟨(j),U,(Qn U hno (fun h=>B9 U)),Am,hF⟩
 refine Da (Da (Da (Da (Ca (Gc O O) (Ea (Ie O ?_))))))
 refine Dc (Cc O ?_)
 exact Ib ⟨(j),U,(Qn U hno (fun h=>B9 U)),Am,hF⟩
 clear hF; rintro σ w ⟨q,hq,hcut2,hs,hF⟩
 refine Eg.slots hs ?_
 clear hs; intro σ
 refine Ga (Ia (Ca (Qc O) (Ca (Va O) (Ja (v:=.string (bs (((s1:Str).take (k):Str).take (q)))) (Xq (q) underlying9 O O U) (Ca (Rd O) (Bc (Ca (Rd O) (Ea ?_))))))))
 refine Ha ?_
 refine Qf (fun σ w=>∃ (re:Str),(re=if decide (q < ((s1:Str).take k).length)=true then (((s1:Str).take k).drop (q+1)) else [48])∧AllEq σ [(0,.string (bs ((s1:Str).take (k)))),(8,.bool (ng)),(9,.int .i64 ((q:Int))),(10,.string (bs ex)),(11,.bool (mi)),(12,.string (bs (((s1:Str).take (k):Str).take (q)))),(13,.string (bs re))]∧FR w0 [] [] w) ?_ ?_
 refine Ia (Ca (Va O) (Ca (Qc O) (Ca (Xl underlying9 O) (Ca (Yg O O) (Ea ?_)))))
 refine Yb O O (fun hc5=>?_) (fun hc5=>?_)
 refine Fa (Ca (Qc O) (Ca (Va O) (Ca (If (((q+1:Nat):Int)) O O) (Ja (v:=.string (bs (((s1:Str).take (k):Str).drop (q+1)))) (Yh (q+1) underlying9 O O U) (Ca (Rd O) (Xa ?_))))))
 · exact Ib ⟨(((s1:Str).take (k):Str).drop (q+1)),(by first | (rw [if_pos (decide_eq_true (show q < ((s1:Str).take k).length by omega))]; done) | (rw [if_neg (by rw [decide_eq_false (show ¬q < ((s1:Str).take k).length by omega)]; decide)]; done)),BG,hF⟩
 refine Qa ?_
 · exact Ib ⟨([48]),(by first | (rw [if_pos (decide_eq_true (show q < ((s1:Str).take k).length by omega))]; done) | (rw [if_neg (by rw [decide_eq_false (show ¬q < ((s1:Str).take k).length by omega)]; decide)]; done)),BG,hF⟩
 clear hF; rintro σ w ⟨re,hre,hs,hF⟩
 refine Eg.slots hs ?_
 clear hs; intro σ
 have hre2:re.length≤140737488355328:=by rw [hre]; split <;> (try simp) <;> omega
 refine Ga (Ia (Ca (Qc O) ?_))
 refine Jb hF (In (((s1:Str).take (k):Str).take (q)) (by have:=hlt; first | omega | (simp only [List.length_take,List.length_drop] at *; omega)) _) (Cb Pv rfl rfl) ?_
 clear hF; intro w hF
 refine Ca (Jc O) ?_
 refine Jf (d:=101) O (fun hg19=>?_) (fun hg19=>?_)
 refine Ca (Qc O) ?_
 refine Jb hF (In (re) hre2 _) (Cb Pv O O) ?_
 clear hF; intro w hF
 refine Ca (Ic O O) (Ca (Jc O) ?_)
 refine Jf (d:=105) O (fun hg20=>?_) (fun hg20=>?_)
 refine Ca (Qc O) ?_
 refine Jb hF (In (ex) hex2 _) (Cb Pv O O) ?_
 clear hF; intro w hF
 refine Ca (Ic O O) (Ca (Jc O) ?_)
 refine Jf (d:=109) O (fun hg21=>?_) (fun hg21=>?_)
 refine Ca (Qc O) (Ca (Ay O O) (Ca (Jc O) ?_))
 refine Hb (d:=112) O (fun hg22=>?_) (fun hg22=>?_)
 refine Da (Da (Da (Ca (Ic O O) (Ca (Ic O O) (Ca (Hc O) (Ea (Ha (Ia (Ca (Va O) (Ca (Qc O) (Ca (Xl underlying9 O) ?_)))))))))))
 refine Ca (Th O O) (Ea ?_)
 refine Yb O O (fun hc6=>?_) (fun hc6=>?_)
 refine Fa (Ca (Rd O) (Bc (Ca (Jc O) (Ca (Qc O) (Ca (Qc O) (Ca (Jc O) (Ca (Qc O) (Ca (Jc O) (Ca (Hc O) (Ca (Rd O) ?_))))))))))
 refine Ca (Rd O) (Ca (Hc O) (Ca (Rd O) (Ca (Hc O) (Ea ?_))))
 refine Ub (Rb (Sa (Em (v1:=.bool _) (v2:=.string (bs (((s1:Str).take (k):Str).take (q)))) (v3:=.string (bs [])) (v4:=.bool _) (v5:=.string (bs ex)) (v6:=.bool true) O O O O O O O) ?_))
 refine ⟨_,_,_,_,_,_,O,⟨s1,(((s1:Str).take k).take q),((s1:Str).drop (k+1)),(((s1:Str).take k).drop (q+1)),_,_,hng,hs1,by rw [hcut],by rw [hcut]; exact hcut2,O,?_,hmi,hex,?_⟩,hF.same⟩
 · first | (rw [if_neg (by rw [decide_eq_false (show ¬q < ((s1:Str).take k).length by omega)]; decide)]; done) | (rw [if_pos (decide_eq_true (show q < ((s1:Str).take k).length by omega))] at hre ⊢; exact hre)
 rw [←hre,←hex]; unfold Ty; simp_all
 refine Qa (Ga (Ia (Ca (Jc O) (Ca (Qc O) (Ca (Qc O) (Ca (Jc O) (Ca (Qc O) (Ca (Jc O) (Ca (Hc O) (Ca (Rd O) (Ca (Rd O) (Ca (Hc O) ?_))))))))))))
 refine Ca (Rd O) (Ca (Hc O) (Ea ?_))
 refine Ub (Rb (Sa (Em (v1:=.bool _) (v2:=.string (bs (((s1:Str).take (k):Str).take (q)))) (v3:=.string (bs re)) (v4:=.bool _) (v5:=.string (bs ex)) (v6:=.bool true) O O O O O O O) ?_))
 refine ⟨_,_,_,_,_,_,O,⟨s1,(((s1:Str).take k).take q),((s1:Str).drop (k+1)),(((s1:Str).take k).drop (q+1)),_,_,hng,hs1,by rw [hcut],by rw [hcut]; exact hcut2,O,?_,hmi,hex,?_⟩,hF.same⟩
 · first | (rw [if_neg (by rw [decide_eq_false (show ¬q < ((s1:Str).take k).length by omega)]; decide)]; done) | (rw [if_pos (decide_eq_true (show q < ((s1:Str).take k).length by omega))] at hre ⊢; exact hre)
 rw [←hre,←hex]; unfold Ty; simp_all
 refine Ca (Qc O) ?_
 refine Ja (v:=.int .u8 (bZ ((((s1:Str).take k).take q)) 0)) (by rw [←Ii (s:=(((s1:Str).take k).take q)) (p:=0) (List.length_pos_iff.2 (Eh (by assumption)))]; exact Kd 0 underlying9 O O (List.length_pos_iff.2 (Eh (by assumption)))) ?_
 refine Ca (Sq O O) (Ca (Gc O O) (Ca (Ic O O) (Ca (Hc O) (Ea (Ha (Ia (Ca (Va O) (Ca (Qc O) (Ca (Xl underlying9 O) (Ca (Th O O) (Xa ?_)))))))))))
 refine Ga ?_
 refine Yb O O (fun hc6=>?_) (fun hc6=>?_)
 refine Fa (Ca (Rd O) (Bc (Ca (Jc O) (Ca (Qc O) (Ca (Qc O) (Ca (Jc O) (Ca (Qc O) (Ca (Jc O) (Ca (Hc O) (Ca (Rd O) ?_))))))))))
 refine Ca (Rd O) (Ca (Hc O) (Ca (Rd O) (Ca (Hc O) (Ea ?_))))
 refine Ub (Rb (Sa (Em (v1:=.bool _) (v2:=.string (bs (((s1:Str).take (k):Str).take (q)))) (v3:=.string (bs [])) (v4:=.bool _) (v5:=.string (bs ex)) (v6:=.bool _) O O O O O O O) ?_))
 refine ⟨_,_,_,_,_,_,O,⟨s1,(((s1:Str).take k).take q),((s1:Str).drop (k+1)),(((s1:Str).take k).drop (q+1)),_,_,hng,hs1,by rw [hcut],by rw [hcut]; exact hcut2,O,?_,hmi,hex,?_⟩,hF.same⟩
 · first | (rw [if_neg (by rw [decide_eq_false (show ¬q < ((s1:Str).take k).length by omega)]; decide)]; done) | (rw [if_pos (decide_eq_true (show q < ((s1:Str).take k).length by omega))] at hre ⊢; exact hre)
 rw [←hre,←hex]; unfold Ty; simp_all
 refine Qa (Ga (Ia (Ca (Jc O) (Ca (Qc O) (Ca (Qc O) (Ca (Jc O) (Ca (Qc O) (Ca (Jc O) (Ca (Hc O) (Ca (Rd O) (Ca (Rd O) (Ca (Hc O) ?_))))))))))))
 refine Ca (Rd O) (Ca (Hc O) (Ea ?_))
 refine Ub (Rb (Sa (Em (v1:=.bool _) (v2:=.string (bs (((s1:Str).take (k):Str).take (q)))) (v3:=.string (bs re)) (v4:=.bool _) (v5:=.string (bs ex)) (v6:=.bool _) O O O O O O O) ?_))
 refine ⟨_,_,_,_,_,_,O,⟨s1,(((s1:Str).take k).take q),((s1:Str).drop (k+1)),(((s1:Str).take k).drop (q+1)),_,_,hng,hs1,by rw [hcut],by rw [hcut]; exact hcut2,O,?_,hmi,hex,?_⟩,hF.same⟩
 · first | (rw [if_neg (by rw [decide_eq_false (show ¬q < ((s1:Str).take k).length by omega)]; decide)]; done) | (rw [if_pos (decide_eq_true (show q < ((s1:Str).take k).length by omega))] at hre ⊢; exact hre)
 rw [←hre,←hex]; unfold Ty; simp_all
 refine Da (Da (Da (Da (Da (Da (Da (Ca (Gc O O) (Ca (Hc O) (Ea (Ha (Ia ?_)))))))))))
 refine Ca (Va O) (Ca (Qc O) (Ca (Xl underlying9 O) (Ca (Th O O) (Ea ?_))))
 refine Yb O O (fun hc6=>?_) (fun hc6=>?_)
 refine Fa (Ca (Rd O) (Bc (Ca (Jc O) (Ca (Qc O) (Ca (Qc O) (Ca (Jc O) (Ca (Qc O) (Ca (Jc O) (Ca (Hc O) (Ca (Rd O) ?_))))))))))
 refine Ca (Rd O) (Ca (Hc O) (Ca (Rd O) (Ca (Hc O) (Ea ?_))))
 refine Ub (Rb (Sa (Em (v1:=.bool _) (v2:=.string (bs (((s1:Str).take (k):Str).take (q)))) (v3:=.string (bs [])) (v4:=.bool _) (v5:=.string (bs ex)) (v6:=.bool false) O O O O O O O) ?_))
 refine ⟨_,_,_,_,_,_,O,⟨s1,(((s1:Str).take k).take q),((s1:Str).drop (k+1)),(((s1:Str).take k).drop (q+1)),_,_,hng,hs1,by rw [hcut],by rw [hcut]; exact hcut2,O,?_,hmi,hex,?_⟩,hF.same⟩
 · first | (rw [if_neg (by rw [decide_eq_false (show ¬q < ((s1:Str).take k).length by omega)]; decide)]; done) | (rw [if_pos (decide_eq_true (show q < ((s1:Str).take k).length by omega))] at hre ⊢; exact hre)
 rw [←hre,←hex]; unfold Ty; simp_all
 refine Qa (Ga (Ia (Ca (Jc O) (Ca (Qc O) (Ca (Qc O) (Ca (Jc O) (Ca (Qc O) (Ca (Jc O) (Ca (Hc O) (Ca (Rd O) (Ca (Rd O) (Ca (Hc O) ?_))))))))))))
 refine Ca (Rd O) (Ca (Hc O) (Ea ?_))
 refine Ub (Rb (Sa (Em (v1:=.bool _) (v2:=.string (bs (((s1:Str).take (k):Str).take (q)))) (v3:=.string (bs re)) (v4:=.bool _) (v5:=.string (bs ex)) (v6:=.bool false) O O O O O O O) ?_))
 refine ⟨_,_,_,_,_,_,O,⟨s1,(((s1:Str).take k).take q),((s1:Str).drop (k+1)),(((s1:Str).take k).drop (q+1)),_,_,hng,hs1,by rw [hcut],by rw [hcut]; exact hcut2,O,?_,hmi,hex,?_⟩,hF.same⟩
 · first | (rw [if_neg (by rw [decide_eq_false (show ¬q < ((s1:Str).take k).length by omega)]; decide)]; done) | (rw [if_pos (decide_eq_true (show q < ((s1:Str).take k).length by omega))] at hre ⊢; exact hre)
 rw [←hre,←hex]; unfold Ty; simp_all
 refine Da (Da (Ca (Gc O O) (Ca (Jc O) (Da (Da (Da (Da (Da (Da (Da (Ca (Gc O O) (Ca (Hc O) (Xa ?_)))))))))))))
 refine Ga (Ha (Ia (Ca (Va O) (Ca (Qc O) (Ca (Xl underlying9 O) (Ca (Th O O) (Ea ?_)))))))
 refine Yb O O (fun hc6=>?_) (fun hc6=>?_)
 refine Fa (Ca (Rd O) (Bc (Ca (Jc O) (Ca (Qc O) (Ca (Qc O) (Ca (Jc O) (Ca (Qc O) (Ca (Jc O) (Ca (Hc O) (Ca (Rd O) ?_))))))))))
 refine Ca (Rd O) (Ca (Hc O) (Ca (Rd O) (Ca (Hc O) (Ea ?_))))
 refine Ub (Rb (Sa (Em (v1:=.bool _) (v2:=.string (bs (((s1:Str).take (k):Str).take (q)))) (v3:=.string (bs [])) (v4:=.bool _) (v5:=.string (bs ex)) (v6:=.bool false) O O O O O O O) ?_))
 refine ⟨_,_,_,_,_,_,O,⟨s1,(((s1:Str).take k).take q),((s1:Str).drop (k+1)),(((s1:Str).take k).drop (q+1)),_,_,hng,hs1,by rw [hcut],by rw [hcut]; exact hcut2,O,?_,hmi,hex,?_⟩,hF.same⟩
 · first | (rw [if_neg (by rw [decide_eq_false (show ¬q < ((s1:Str).take k).length by omega)]; decide)]; done) | (rw [if_pos (decide_eq_true (show q < ((s1:Str).take k).length by omega))] at hre ⊢; exact hre)
 rw [←hre,←hex]; unfold Ty; simp_all
 refine Qa (Ga (Ia (Ca (Jc O) (Ca (Qc O) (Ca (Qc O) (Ca (Jc O) (Ca (Qc O) (Ca (Jc O) (Ca (Hc O) (Ca (Rd O) (Ca (Rd O) (Ca (Hc O) ?_))))))))))))
 refine Ca (Rd O) (Ca (Hc O) (Ea ?_))
 refine Ub (Rb (Sa (Em (v1:=.bool _) (v2:=.string (bs (((s1:Str).take (k):Str).take (q)))) (v3:=.string (bs re)) (v4:=.bool _) (v5:=.string (bs ex)) (v6:=.bool false) O O O O O O O) ?_))
 refine ⟨_,_,_,_,_,_,O,⟨s1,(((s1:Str).take k).take q),((s1:Str).drop (k+1)),(((s1:Str).take k).drop (q+1)),_,_,hng,hs1,by rw [hcut],by rw [hcut]; exact hcut2,O,?_,hmi,hex,?_⟩,hF.same⟩
 · first | (rw [if_neg (by rw [decide_eq_false (show ¬q < ((s1:Str).take k).length by omega)]; decide)]; done) | (rw [if_pos (decide_eq_true (show q < ((s1:Str).take k).length by omega))] at hre ⊢; exact hre)
 rw [←hre,←hex]; unfold Ty; simp_all
 refine Da (Da (Ca (Gc O O) (Ca (Jc O) (Da (Da (Ca (Gc O O) (Ca (Jc O) (Da (Da (Da (Da (Da (Da ?_)))))))))))))
 refine Da (Ca (Gc O O) (Ca (Hc O) (Ea (Ha (Ia (Ca (Va O) (Ca (Qc O) (Ca (Xl underlying9 O) (Ca (Th O O) (Ea ?_))))))))))
 refine Yb O O (fun hc6=>?_) (fun hc6=>?_)
 refine Fa (Ca (Rd O) (Bc (Ca (Jc O) (Ca (Qc O) (Ca (Qc O) (Ca (Jc O) (Ca (Qc O) (Ca (Jc O) (Ca (Hc O) (Ca (Rd O) ?_))))))))))
 refine Ca (Rd O) (Ca (Hc O) (Ca (Rd O) (Ca (Hc O) (Ea ?_))))
 refine Ub (Rb (Sa (Em (v1:=.bool _) (v2:=.string (bs (((s1:Str).take (k):Str).take (q)))) (v3:=.string (bs [])) (v4:=.bool _) (v5:=.string (bs ex)) (v6:=.bool false) O O O O O O O) ?_))
 refine ⟨_,_,_,_,_,_,O,⟨s1,(((s1:Str).take k).take q),((s1:Str).drop (k+1)),(((s1:Str).take k).drop (q+1)),_,_,hng,hs1,by rw [hcut],by rw [hcut]; exact hcut2,O,?_,hmi,hex,?_⟩,hF.same⟩
 · first | (rw [if_neg (by rw [decide_eq_false (show ¬q < ((s1:Str).take k).length by omega)]; decide)]; done) | (rw [if_pos (decide_eq_true (show q < ((s1:Str).take k).length by omega))] at hre ⊢; exact hre)
 rw [←hre,←hex]; unfold Ty; simp_all
 refine Qa (Ga (Ia (Ca (Jc O) (Ca (Qc O) (Ca (Qc O) (Ca (Jc O) (Ca (Qc O) (Ca (Jc O) (Ca (Hc O) (Ca (Rd O) (Ca (Rd O) (Ca (Hc O) ?_))))))))))))
 refine Ca (Rd O) (Ca (Hc O) (Ea ?_))
 refine Ub (Rb (Sa (Em (v1:=.bool _) (v2:=.string (bs (((s1:Str).take (k):Str).take (q)))) (v3:=.string (bs re)) (v4:=.bool _) (v5:=.string (bs ex)) (v6:=.bool false) O O O O O O O) ?_))
 refine ⟨_,_,_,_,_,_,O,⟨s1,(((s1:Str).take k).take q),((s1:Str).drop (k+1)),(((s1:Str).take k).drop (q+1)),_,_,hng,hs1,by rw [hcut],by rw [hcut]; exact hcut2,O,?_,hmi,hex,?_⟩,hF.same⟩
 · first | (rw [if_neg (by rw [decide_eq_false (show ¬q < ((s1:Str).take k).length by omega)]; decide)]; done) | (rw [if_pos (decide_eq_true (show q < ((s1:Str).take k).length by omega))] at hre ⊢; exact hre)
 rw [←hre,←hex]; unfold Ty; simp_all
end Go.Scarf
