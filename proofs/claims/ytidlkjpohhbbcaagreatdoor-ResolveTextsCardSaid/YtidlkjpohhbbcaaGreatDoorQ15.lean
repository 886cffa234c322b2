/- A part of the proof. -/
import Derived.Test.YtidlkjpohhbbcaaGreatDoorQ16
set_option linter.all false
set_option maxHeartbeats 8000000
set_option maxRecDepth 10000
set_option synthInstance.maxHeartbeats 0
set_option synthInstance.maxSize 9999
namespace Go.Scarf
open List renaming length->aL
open Go.RowKit Go.Proofs Go.Proofs.Tryz
variable {l s t:Str}{h kt q:Nat}{d:Int}{w w':World}{P:Program}{ρ:Operand->Value}{dst:Option Nat}{t' ty:TypeId}{aft:Array Edge}{g:Option (Nat × Bool)}{x:Operand}{b i:Bool}{had:List Str}{r:List Tk}
def Xk(c:UInt8):Int:=bits .or .u8 (c.toNat:Int) 32
def WC(n:Nat):Bool :=
  let c:=UInt8.ofNat n
  decide (0<=Xk c)&&(decide (Xk c<256)&&(if Qd c then (decide (48<=n)&&(decide (n<=57)&&decide ((Cq c:Int)=(n:Int)-48))) || (!(decide (48<=n)&&decide (n<=57))&&(decide (97<=Xk c)&&(decide (Xk c<=102)&&decide ((Cq c:Int)=Xk c-87))))
    else !(decide (48<=n)&&decide (n<=57))&&(decide (Xk c<97) || decide (103<=Xk c))))
def ID:∀n<256,WC n=true:=by decide +kernel
def ZR(c:UInt8):0<=Xk c/\Xk c<256:=by
  have h:=ID c.toNat<|UInt8.toNat_lt c;simp only[WC,UInt8.ofNat_toNat,vQ,xQ]at h;exact⟨h.1,h.2.1⟩
def R4{c:UInt8}(hx:Qd c=true):(48<=c.toNat/\c.toNat<=57/\(Cq c:Int)=(c.toNat:Int)-48)\/(¬(48<=c.toNat/\c.toNat<=57)/\97<=Xk c/\Xk c<=102/\(Cq c:Int)=Xk c-87):=by
  have h:=ID c.toNat<|UInt8.toNat_lt c;simp only[WC,UInt8.ofNat_toNat,vQ,xQ,hx,if_true,wQ,Bool.not_eq_true',<-Bool.not_eq_true]at h;exact h.2.2
def hex_no{c:UInt8}(hx:Qd c=false):¬(48<=c.toNat/\c.toNat<=57)/\(Xk c<97\/103<=Xk c):=by
  have h:=ID c.toNat<|UInt8.toNat_lt c;simp only[WC,UInt8.ofNat_toNat,vQ,xQ,hx,Bool.false_eq_true,if_false,wQ,Bool.not_eq_true',<-Bool.not_eq_true]at h;exact h.2.2
def G8{c:UInt8}(hx:Qd c=true):Cq c<16:=by
  rcases R4 hx with ⟨h1,h2,h3⟩|⟨h1,h2,h3,h4⟩ <;> omega
def vH(t:Str):Nat:=t.foldl (λa c=>a*16+Cq c) 0
def KD(h:q<aL t):vH (t.take (q+1))=vH (t.take q)*16+Cq t[q]:=by
  unfold vH;rw[iQ h,List.foldl_append];rfl
def dg_a{c:UInt8}(h:48<=((c.toNat:Nat):Int)/\((c.toNat:Nat):Int)<=57):(Qd c=true->((c.toNat:Nat):Int)-48=(Cq c:Int))/\(Qd c=false->16<=((c.toNat:Nat):Int)-48)/\0<=((c.toNat:Nat):Int)-48/\((c.toNat:Nat):Int)-48<256:=by
  refine⟨λhx=>?_,λhx=>?_,Aa,Aa⟩
  ·rcases R4 hx with ⟨h1, h2, h3⟩|⟨h1, h2⟩
   ·omega
   exact absurd ⟨Aa,Aa⟩ h1
  exact absurd ⟨Aa,Aa⟩ (hex_no hx).1
def dg_b{c:UInt8}(h:¬(48<=((c.toNat:Nat):Int)/\((c.toNat:Nat):Int)<=57))(h2:97<=Xk c/\Xk c<=122):(Qd c=true->Xk c-87=(Cq c:Int))/\(Qd c=false->16<=Xk c-87)/\0<=Xk c-87/\Xk c-87<256:=by
  refine⟨λhx=>?_,λhx=>?_,Aa,Aa⟩
  ·rcases R4 hx with ⟨h1, h2, h3⟩|⟨h1, h2, h3, h4⟩
   ·omega
   omega
  have := (hex_no hx).2;omega
def hx_out{c:UInt8}(h:¬(48<=((c.toNat:Nat):Int)/\((c.toNat:Nat):Int)<=57))(h2:¬(97<=Xk c/\Xk c<=122)):Qd c=false:=by
  cases hx:Qd c with
  | false=>rfl
  | true=>rcases R4 hx with ⟨h3,h4,h5⟩|⟨h3,h4,h5,h6⟩ <;> omega
def hx_big{c:UInt8}(h:(Qd c=true->d=(Cq c:Int))/\(Qd c=false->16<=d)/\0<=d/\d<256)(hd:16<=d):Qd c=false:=by
  cases hx:Qd c with
  | false=>rfl
  | true=>have:=h.1 hx;have:=G8 hx;omega
def hx_small{c:UInt8}(h:(Qd c=true->d=(Cq c:Int))/\(Qd c=false->16<=d)/\0<=d/\d<256)(hd:d<16):Qd c=true:=by
  cases hx:Qd c with
  | true=>rfl
  | false=>have:=h.2.1 hx;omega
def vH_lt(h:q<aL t)(hv:vH (t.take q)<16 ^ q)(hx:Qd t[q]=true):vH (t.take (q+1))<16 ^ (q+1):=by
  have:=G8 hx;rw[KD h,Nat.pow_succ];omega
def pow4(h:q<=4):16 ^ q<=65536:=by
  rcases (by omega:q=0\/q=1\/q=2\/q=3\/q=4)with rfl|rfl|rfl|rfl|rfl <;> decide
def Bx(h:4<=aL s):Pg s=if (s.take 4).all Qd=true then some (vH (s.take 4)) else none:=by
  match s,h with
  | a :: b :: c :: d :: r, _ =>
    simp only[Pg,List.take_succ_cons,List.take_zero,List.all_cons,List.all_nil,Bool.and_true,vH,List.foldl_cons,List.foldl_nil,Bool.and_assoc];split
    ·congr 1;omega
    rfl
def G3(h:aL s<4):Pg s=none:=by
  match s,h with
  | [],_=>rfl
  | [_],_=>rfl
  | [_,_],_=>rfl
  | [_,_,_],_=>rfl
def CL(t:Str)(w:World):∃(b k:Nat)(w':World),(convert 9 121 (I t)).run prog w=.ok (W b (aL t) k) w'/\Same [] w w'/\∀j (hj:j<aL t),w'.cell? ((⟨b,0,none⟩:Addr).add (j*1))=some (.int .u8 (t[j].toNat:Int)):=by
  refine⟨w.heap.size,_,_,Lib.run_convert_string_bytes (P:=prog) w 9 121 5 (bs t) jX underlying121 iX,Ur w 5<|bs t,λj hj=>?_⟩;rw[Nat.mul_one,Te,Nat.zero_add,Lib.bytesWorld_cell w 5 (bs t) j hj];have e:(bs t).data.toList=t:=by show t.toArray.toList=t;simp
  rw[e];simp[List.getD,hj]
def Gv{b:Nat}(hE:Same [] w w')(h:∀j (hj:j<aL t),w.cell? ((⟨b,0,none⟩:Addr).add (j*1))=some (.int .u8 (t[j].toNat:Int))):∀j (hj:j<aL t),w'.cell? ((⟨b,0,none⟩:Addr).add (j*1))=some (.int .u8 (t[j].toNat:Int)):=λj hj=>((FR.start w []).ext hE).cell0 (h j hj)
def x_shl32{pos:String}{t:TypeId}{y:Operand}{k:IntKind}(hx:ρ x=.int .u64 1)(hy:ρ y=.int k 32) :
    (execOp ρ ⟨dst,.binOp .shl t x y t',ty,pos,aft,g⟩).run P w=.ok (.value (.int .u64 4294967296)) w:=by
  have hg:(eqGuard .shl t x y (.int .u64 1)<|.int k 32).run P w=.ok () w:=by unfold eqGuard;simp
  have hb:(binOp .shl t (.int .u64 1)<|.int k 32).run P w=.ok (.int .u64 4294967296) w:=by
    simp[binOp,Op.shift,IntKind.bits];decide
  simp[execOp,hx,hy,hg,hb]
def QE(c:UInt8)(w:World):Calls prog 324 #[.int .u8 (c.toNat:Int)] w (Za λv w'=>v=.int .u8 (Xk c)/\Same [] w w'):=Ji (internal_strconv_lower (c.toNat:Int) w)
def MV(fn s:Str)(a b:Int)(w:World)(hl:aL s<=281474976710656)(hG:Gl w):Calls prog 295 #[I fn,I s,J a,J b,.iface 301 (J 2)] w (Za λv w'=>∃tp q,v=.iface tp q/\Same [] w w'):=by
  obtain⟨tp,q,e,fz,hh⟩:=hG.syn;refine (strconv_toError_syntax (bs fn) (bs s) a b (.iface tp q) w hl (by rw[Db hh];rfl)<|.inr ⟨tp,q,O⟩).mono λex w' hx=>?_;obtain⟨N,rfl,-,-,hb⟩:=hx;exact⟨_,O,_,_,O,.of_below hb⟩
def x_convV{pos:String}{t t':Nat}{u v:Value}(hx:ρ x=u)(h:(convert t t' u).run P w=.ok v w'):(execOp ρ ⟨dst,.convert t t' x,ty,pos,aft,g⟩).run P w=.ok (.value v) w':=by
  simp[execOp,hx,h]
def Yx(t:Str)(h4:aL t=4)(w0:World):Calls prog 314 #[I t,J 16,J 32] w0 (Za λv w'=>∃(n:Int)(er:Value),v=.tuple #[.int .u64 n,er]/\((t.all Qd=true/\n=(vH t:Int)/\er=.nilIface)\/(t.all Qd=false/\n=0/\er=.iface 301 (J 2)))/\Same [] w0 w'):=by
 refine Ea func314 ntmps314 ?_;intro hF;refine rn 10 ?_;refine Ba (v:=.bool false) (Cc (Bw rfl rfl) (by intro e;rw[e]at h4;cases h4)) ?_;refine rn 8<|Ba (v:=.bool false) (Cc El Ja) ?_;refine rn 14<|Ba (v:=.bool true) (Ud (VR O O) Ja) ?_;refine rn 2<|Ba (v:=.bool true) (Ud (VR O O) Ja) ?_;refine rn 12<|Ba (v:=.bool false) (Cc El Ja) ?_;refine rn 6<|Ba (v:=.bool false) (Cc Uy Ja) ?_;refine rn 2<|Ba (v:=.bool false) (Cc H3 Ja) ?_;refine rn 20<|Ba (v:=.bool false) (Cc El Ja) ?_;refine rn 6<|Ba (v:=.bool true) (Ud El Ja) ?_;refine rn 12<|Ba (v:=.int .u64 32) (Qb dX xZ O Ja)<|Ba (v:=.int .u64 4294967296) (x_shl32 O O)<|Ba (v:=.int .u64 4294967295) (Ho O O Ja) ?_;refine rn 17 ?_;obtain⟨bb,kb,wn,hcv,hE,hB⟩:=CL t w0;refine Ba (w':=wn) (v:=W bb (aL t) kb) (x_convV O hcv) ?_;have hF:=hF.ext hE;clear hE hcv;refine rn 5 ?_;refine Sa (λμ σ w=>∃(q:Nat),μ=4-q/\(q<=4)/\((t.take q).all Qd=true)/\(vH (t.take q)<16 ^ q)/\(∀j (hj:j<aL t),w.cell? ((⟨bb,0,none⟩:Addr).add (j*1))=some (.int .u8 (t[j].toNat:Int)))/\AllEq σ [(1,J 16),(8,.bool false),(9,I t),(10,.int .u64 1152921504606846976),(11,.int .u64 4294967295),(12,.bool false),(13,.int .u64<|(vH (t.take q):Nat)),(99,W bb (aL t) kb),(100,J<|(aL t:Nat)),(101,J<|(q:Int))]/\FR w0 [] [] w) _ ⟨0,O,Aa,Da,by rw[List.take_zero];decide,hB,⟨O,O,O,O,O,O,O,O,O,O,trivial⟩,hF⟩ ?_;rintro μ σ w ⟨q,rfl,hq,hal,hv,hB,hzz,hF⟩;refine Wf hzz 7 ⟨λhc11=>?_,λhc11=>?_⟩;refine rn 5 ?_;have hql:q<aL t:=Aa
 refine rn 1<|Ba (v:=.pointer<|some<|(⟨bb,0,none⟩:Addr).add (q*1)) (Ca (i:=(q:Int)) sl_121 O)<|Ba (v:=.int .u8<|(((t[q]' Aa).toNat:Nat):Int)) (Xa isAgg5<|hB q Aa) ?_;refine rn 9<|Eb (λσ w=>∃(d:Int),((Qd (t[q]' Aa)=true->d=(Cq (t[q]' Aa):Int))/\(Qd (t[q]' Aa)=false->16<=d)/\0<=d/\d<256)/\(∀j (hj:j<aL t),w.cell? ((⟨bb,0,none⟩:Addr).add (j*1))=some (.int .u8 (t[j].toNat:Int)))/\AllEq σ [(1,J 16),(8,.bool false),(9,I t),(10,.int .u64 1152921504606846976),(11,.int .u64 4294967295),(12,.bool false),(13,.int .u64<|(vH (t.take q):Nat)),(16,.int .u8 d),(99,W bb (aL t) kb),(100,J<|(aL t:Nat)),(101,J<|(q:Int))]/\FR w0 [] [] w) ?_ ?_;refine rn 2<|Eb (λσ w=>(∀j (hj:j<aL t),w.cell? ((⟨bb,0,none⟩:Addr).add (j*1))=some (.int .u8 (t[j].toNat:Int)))/\AllEq σ [(1,J 16),(8,.bool false),(9,I t),(10,.int .u64 1152921504606846976),(11,.int .u64 4294967295),(12,.bool false),(13,.int .u64<|(vH (t.take q):Nat)),(15,.int .u8<|(((t[q]' Aa).toNat:Nat):Int)),(99,W bb (aL t) kb),(100,J<|(aL t:Nat)),(101,J<|(q:Int)),(106,.bool false)]/\FR w0 [] [] w) ?_ ?_;refine rn 5 ⟨λhg0=>?_,λhg0=>?_⟩;refine rn 4 ?_;exact Ha ⟨hB,Va,hF⟩;refine rn 4 ?_;exact Ha ⟨hB,Va,hF⟩;rintro σ w ⟨hB,hzz,hF⟩;refine Aj hzz 3<|Eb (λσ w=>∃(bd:Bool),(bd=decide (48<=(((t[q]' Aa).toNat:Nat):Int)/\(((t[q]' Aa).toNat:Nat):Int)<=57))/\(∀j (hj:j<aL t),w.cell? ((⟨bb,0,none⟩:Addr).add (j*1))=some (.int .u8 (t[j].toNat:Int)))/\AllEq σ [(1,J 16),(8,.bool false),(9,I t),(10,.int .u64 1152921504606846976),(11,.int .u64 4294967295),(12,.bool false),(13,.int .u64<|(vH (t.take q):Nat)),(15,.int .u8<|(((t[q]' Aa).toNat:Nat):Int)),(99,W bb (aL t) kb),(100,J<|(aL t:Nat)),(101,J<|(q:Int)),(112,.bool bd)]/\FR w0 [] [] w) ?_ ?_;refine rn 5 ⟨λhg1=>?_,λhg1=>?_⟩;refine rn 5 ?_
 exact Ha ⟨decide (((((t[q]' Aa).toNat:Nat):Int):Int)<=(57:Int)),qJ,hB,Va,hF⟩;refine rn 5 ?_;exact Ha ⟨false,qJ,hB,Va,hF⟩;rintro σ w ⟨bd,hbd,hB,hzz,hF⟩;refine Aj hzz 2 ⟨λhc13=>?_,λhc13=>?_⟩;have hdg:=mZ<|hbd.symm.trans hc13;refine rn 2 ?_;refine Ba (v:=.int .u8<|(((t[q]' Aa).toNat:Nat):Int)-48) (Ho O O (by have:=UInt8.toNat_lt<|t[q]' Aa;rw[IntKind.wrap_u8];omega)) ?_;refine rn 3 ?_;exact Ha ⟨(((t[q]' Aa).toNat:Nat):Int)-48,(by first|exact dg_a hdg|exact dg_b hdg hlo),hB,Va,hF⟩;have hdg:=of_decide_eq_false<|hbd.symm.trans hc13;refine rn 1<|Eb (λσ w=>∃(bd:Bool),(bd=decide (97<=Xk (t[q]' Aa)/\Xk (t[q]' Aa)<=122))/\(∀j (hj:j<aL t),w.cell? ((⟨bb,0,none⟩:Addr).add (j*1))=some (.int .u8 (t[j].toNat:Int)))/\AllEq σ [(1,J 16),(8,.bool false),(9,I t),(10,.int .u64 1152921504606846976),(11,.int .u64 4294967295),(12,.bool false),(13,.int .u64<|(vH (t.take q):Nat)),(15,.int .u8<|(((t[q]' Aa).toNat:Nat):Int)),(99,W bb (aL t) kb),(100,J<|(aL t:Nat)),(101,J<|(q:Int)),(121,.bool bd)]/\FR w0 [] [] w) ?_ ?_;refine rn 2<|Ia (QE (t[q]'_) _) ?_;intro w hF hE;have hB:=Gv hE hB;refine rn 3 ⟨λhg2=>?_,λhg2=>?_⟩;refine rn 1<|Ia (QE (t[q]'_) _) ?_;intro w hF hE;have hB:=Gv hE hB;refine rn 4 ?_;exact Ha ⟨decide ((Xk (t[q]' Aa):Int)<=(122:Int)),qJ,hB,Va,hF⟩;refine rn 6 ?_;exact Ha ⟨false,qJ,hB,Va,hF⟩
 rintro σ w ⟨bd,hbd,hB,hzz,hF⟩;refine Aj hzz 2 ⟨λhc14=>?_,λhc14=>?_⟩;have hlo:=mZ<|hbd.symm.trans hc14;refine rn 2<|Ia (QE (t[q]'_) _) ?_;intro w hF hE;have hB:=Gv hE hB;refine Ba (v:=.int .u8<|Xk (t[q]' Aa)-97) (Ho O O (by have:=ZR<|t[q]' Aa;rw[IntKind.wrap_u8];omega)) ?_;refine Ba (v:=.int .u8<|Xk (t[q]' Aa)-87) (Cl O O (by have:=ZR<|t[q]' Aa;rw[IntKind.wrap_u8];omega)) ?_;refine rn 3 ?_;exact Ha ⟨Xk (t[q]' Aa)-87,(by first|exact dg_a hdg|exact dg_b hdg hlo),hB,Va,hF⟩;have hlo:=of_decide_eq_false<|hbd.symm.trans hc14;refine rn 2<|Ba (w':=w) (v:=.iface 301<|J 2) Ua ?_;refine rn 5 ?_;exact⟨_,_,O,.inr ⟨Qr (s:=t) (p:=q) Aa<|hx_out hdg hlo,O,O⟩,hF.same⟩;rintro σ w ⟨d,hd,hB,hzz,hF⟩;refine Aj hzz 6<|Ba (v:=.int .u8 16) (Qb dX iX O Ja) ?_;refine rn 4 ⟨λhc15=>?_,λhc15=>?_⟩;refine rn 2<|Ba (w':=w) (v:=.iface 301<|J 2) Ua ?_;refine rn 5 ?_;exact⟨_,_,O,.inr ⟨Qr (s:=t) (p:=q) Aa<|hx_big hd Aa,O,O⟩,hF.same⟩;refine rn 4 ?_;have hxq:=hx_small hd Aa;refine rn 3 ?_;refine Ba (v:=.bool false) (Cc (AG O O) (by have:=pow4 (show q<=4 by omega);omega)) ?_;refine rn 9<|Ba (v:=.int .u64 16) (Qb dX cX O Ja) ?_;refine Ba (v:=.int .u64<|((vH (t.take q)*16:Nat):Int)) (Ro O O (by have:=pow4 (show q<=4 by omega);rw[IntKind.wrap_u64];omega)) ?_;refine rn 7 ?_;refine Ba (v:=.int .u64<|((Cq (t[q]' Aa):Nat):Int)) (Qb iX cX O (by have:=G8 hxq;have:=hd.1 hxq;rw[IntKind.wrap_u64];omega)) ?_;refine Ba (v:=.int .u64<|((vH (t.take<|q+1):Nat):Int)) (Cl O O (by have:=pow4 (show q<=4 by omega);have:=G8 hxq;rw[IntKind.wrap_u64,KD hql];omega)) ?_;refine rn 8 ?_;refine Ba (v:=.bool false) (Cc Uy (by have:=KD hql;omega)) ?_;refine rn 3 ?_;refine Ba (v:=.bool false) (Cc H3 (by have:=pow4 (show q+1<=4 by omega);have:=vH_lt hql hv hxq;omega)) ?_
 refine rn 13<|Zb (Wd<|((q+1:Nat):Int)) ?_;refine rn 2<|Ha ⟨_,?_,q+1,O,Aa,Ip Aa hal hxq,vH_lt Aa hv hxq,hB,Va,hF⟩;omega;refine rn 24 ?_;exact⟨_,_,O,.inl ⟨by rw[<-eZ (show aL t<=q by omega)];exact hal,by rw[eZ (show aL t<=q by omega)],O⟩,hF.same⟩
def Z4(t:Str)(h4:aL t=4)(ha:t.all Qd=true)(w0:World):Calls prog 314 #[I t,J 16,J 32] w0 (Za λv w'=>v=.tuple #[.int .u64 (vH t:Int),.nilIface]/\Same [] w0 w') :=
  (Yx t h4 w0).mono λe w' he=>by
    obtain⟨v,e1,n,er,rfl,h,hs⟩:=he;rcases h with ⟨-,rfl,rfl⟩|⟨h,-,-⟩
    ·exact⟨_,e1,O,hs⟩
    rw[ha]at h;cases h
def F5(t:Str)(h4:aL t=4)(ha:t.all Qd=false)(w0:World):Calls prog 314 #[I t,J 16,J 32] w0 (Za λv w'=>v=.tuple #[.int .u64 0,.iface 301 (J 2)]/\Same [] w0 w') :=
  (Yx t h4 w0).mono λe w' he=>by
    obtain⟨v,e1,n,er,rfl,h,hs⟩:=he;rcases h with ⟨h,-,-⟩|⟨-,rfl,rfl⟩
    ·rw[ha]at h;cases h
    exact⟨_,e1,O,hs⟩
def C9(t:Str)(h4:aL t=4)(ha:t.all Qd=true)(w0:World)(hG:Gl w0):Calls prog 330 #[I t,J 16,J 32] w0 (Za λv w'=>v=.tuple #[.int .u64 (vH t:Int),.nilIface]/\Same [] w0 w'):=by
 refine Ea func330 ntmps330 ?_;intro hF;refine rn 11<|Ia (Z4 t h4 ha _) ?_;rintro w hF -;refine rn 11<|Ba (v:=.bool false) (W_ yZ O O) ?_;refine rn 13 ?_;exact⟨O,hF.same⟩
def P9(t:Str)(h4:aL t=4)(ha:t.all Qd=false)(w0:World)(hG:Gl w0):Calls prog 330 #[I t,J 16,J 32] w0 (Za λv w'=>∃tp q,v=.tuple #[.int .u64 0,.iface tp q]/\Same [] w0 w'):=by
 refine Ea func330 ntmps330 ?_;intro hF;refine rn 11<|Ia (F5 t h4 ha _) ?_;rintro w hF -;refine rn 11<|Ba (v:=.bool true) (O2 yZ O O) ?_;refine rn 10<|Fc (MV [80,97,114,115,101,85,105,110,116] t 16 32 _ Aa<|hG.ext hF.same) ?_;rintro _ w ⟨tp,qq,rfl,hE⟩;have hF:=hF.ext hE;refine rn 5 ?_;exact⟨_,_,O,hF.same⟩
def PS{pos:String}{t:TypeId}(ht:P.underlying t=some (.interface (P.methodsAt t)))(hx:ρ x=.nilIface)(hy:ρ (.const .nilIface)=.nilIface):(execOp ρ ⟨dst,.binOp .eql t x (.const .nilIface) t',ty,pos,aft,g⟩).run P w=.ok (.value (.bool true)) w:=by
  have h:=run_eql_nil_nil (P:=P) (w:=w) t ht;have hg:(eqGuard .eql t x (.const .nilIface) .nilIface .nilIface).run P w=.ok () w:=by simp[eqGuard]
  simp only[execOp,hx,hy,Sem.run_bind,hg,Result.andThen_ok,h,Sem.run_pure]
def IJ{pos:String}{t:TypeId}{tp:TypeId}{p:Value}(ht:P.underlying t=some (.interface (P.methodsAt t)))(hx:ρ x=.iface tp p)(hy:ρ (.const .nilIface)=.nilIface):(execOp ρ ⟨dst,.binOp .eql t x (.const .nilIface) t',ty,pos,aft,g⟩).run P w=.ok (.value (.bool false)) w:=by
  have h:=run_eql_held_nil (P:=P) (w:=w) t tp p ht;have hg:(eqGuard .eql t x (.const .nilIface) (.iface tp p) .nilIface).run P w=.ok () w:=by simp[eqGuard]
  simp only[execOp,hx,hy,Sem.run_bind,hg,Result.andThen_ok,h,Sem.run_pure]
def MR(h:4<=aL s)(hc:∃c∈s.take 4,Qd c=false):Pg s=none:=by
  obtain⟨c,hm,hx⟩:=hc;rw[Bx h,tQ];intro ha;rw[List.all_eq_true.1 ha c hm]at hx;cases hx
def vH_lt4(h4:aL t=4)(ha:t.all Qd=true):vH t<65536:=by
  have h:=Kx (s:=t) (h:=vH t) (by rw[Bx Aa,eZ Aa,uQ ha]);exact h.1
def four_c(s:Str)(w0:World)(hG:Gl w0):Calls prog 328 #[I s] w0 (Za λv w'=>v=.tuple #[.int .i32 (((Pg s).getD 0:Nat):Int),.bool (Pg s).isSome]/\Same [] w0 w'):=by
 refine Ea func328 ntmps328 ?_;intro hF;refine rn 14 ⟨λhg0=>?_,λhg0=>?_⟩;refine rn 14 ?_
 first|(rw[G3 Aa];exact⟨rfl,hF.same⟩)|(rw[MR Aa<|hb qW];exact⟨rfl,hF.same⟩)
 refine rn 1<|Ba (v:=I<|(s:Str).take (4)) (Do (4) jX) ?_;refine Fc (C7 (s.take 4) bV _) ?_;rintro _ w ⟨b,rfl,hb,hE⟩;have hF:=hF.ext hE;refine rn 4 ⟨λhc0=>?_,λhc0=>?_⟩;refine rn 7 ?_
 first|(rw[G3 Aa];exact⟨rfl,hF.same⟩)|(rw[MR Aa<|hb qW];exact⟨rfl,hF.same⟩)
 refine rn 5<|Ba (v:=I<|(s:Str).take (4)) (Do (4) jX) ?_;rcases Bool.eq_false_or_eq_true ((s.take 4).all Qd)with ha|ha
 refine Ia (C9 (s.take 4) bV ha _<|hG.ext hF.same) ?_;rintro w hF -;refine rn 8<|Rb (zs:=.of []) (bQ [0,1,2,3,4,5] .nil) hF ?_;intro w hF;refine rn 1 ?_;refine Ga O (v:=.int .i32<|(vH (s.take 4):Int)) (λw hC=>Qb cX bX O (by have:=vH_lt4 bV ha;exact Qp Aa Aa)) ?_;refine rn 1<|Ga O (v:=.bool true) (λw hC=>PS yZ O O) ?_;refine rn 5 ?_;rw[Bx Aa]
 first|(rw[uQ ha];exact⟨rfl,hF.same⟩)|(rw[tQ (by rw[ha];decide)];exact⟨rfl,hF.same⟩)
 refine Fc (P9 (s.take 4) bV ha _<|hG.ext hF.same) ?_;rintro _ w ⟨tp,qq,rfl,hE⟩;have hF:=hF.ext hE;refine rn 8<|Rb (zs:=.of []) (bQ [0,1,2,3,4,5] .nil) hF ?_;intro w hF;refine rn 1<|Ga O (v:=.int .i32 0) (λw hC=>Qb cX bX O Ja) ?_;refine rn 1<|Ga O (v:=.bool false) (λw hC=>IJ yZ O O) ?_;refine rn 5 ?_;rw[Bx Aa]
 first|(rw[uQ ha];exact⟨rfl,hF.same⟩)|(rw[tQ (by rw[ha];decide)];exact⟨rfl,hF.same⟩)
def or_a{c:Bool}(h:b=true):true=(b || c):=by rw[h];rfl
def ST{a c:Bool}(h:b=false)(h2:c=a):a=(b || c):=by rw[h,h2];rfl
def hasPre_c(s q:Str)(w:World):Calls prog 291 #[I s,I q] w (Za λv w'=>v=.bool (Lib.hasPrefix s q)/\Same [] w w'):=Ji (strings_HasPrefix (bs s) (bs q) w)
def MP(h:Lib.hasPrefix l [92,117]=true):2<=aL l/\l.take 2=[92,117]:=by
  match l,h with
  | a :: b :: r, h =>
    simp only[Lib.hasPrefix,List.isPrefixOf,Bool.and_true,vQ,beq_iff_eq]at h;obtain⟨rfl,rfl⟩:=h;exact⟨Da,O⟩
  | [a],h=>simp[Lib.hasPrefix,List.isPrefixOf]at h
  | [],h=>simp[Lib.hasPrefix,List.isPrefixOf]at h
def pre_not(h:Lib.hasPrefix l [92,117]=false):¬l.take 2=[92,117]:=by
  intro e
  match l,h,e with
  | a :: b :: r, h, e =>
    simp only[List.take_succ_cons,List.take_zero,List.cons.injEq,and_true]at e;obtain⟨rfl,rfl⟩:=e;simp[Lib.hasPrefix,List.isPrefixOf]at h
  | [a],h,e=>cases e
  | [],h,e=>cases e
structure F4 (s:Str) (h:Nat) (i:Bool):Prop where
  y:i=true->Pg s=some h/\h<65536/\4<=aL s
  n:i=false->Pg s=none
def four_o(s:Str)(w0:World)(hG:Gl w0):Calls prog 328 #[I s] w0 (Za λv w'=>∃(h:Nat)(i:Bool),v=.tuple #[.int .i32 (h:Int),.bool i]/\F4 s h i/\Same [] w0 w') :=
  (four_c s w0 hG).mono λe w' he=>by
    obtain⟨v,e1,rfl,hs⟩:=he;refine⟨_,e1,_,_,O,⟨λhi=>?_,λhi=>?_⟩,hs⟩
    ·obtain⟨h, hh⟩ := Option.isSome_iff_exists.1 hi
     rw[hh];exact⟨O,Kx hh⟩
    simpa using hi
def F4.yes{P:Prop}[Decidable P](hf:F4 s h i)(hb:(!i || decide P)=false):Pg s=some h/\¬P/\h<65536/\4<=aL s:=by
  rw[Bool.or_eq_false_iff]at hb;have:=hf.y (aS hb.1);exact⟨this.1,of_decide_eq_false hb.2,this.2⟩
def uni_a(hf:F4 (s.drop 2) h i)(hb:(!i || decide (56320<=((h:Nat):Int)/\((h:Nat):Int)<57344))=true):Se s=(0,0):=by
  unfold Se;cases i with
  | false=>rw[hf.n rfl]
  | true =>
    rw[(hf.y rfl).1];have:=mZ<|(Bool.false_or _).symm.trans hb;simp only;rw[uQ (show 56320<=h/\h<57344 by omega)]
def uni_b(h1:Pg (s.drop 2)=some h)(h2:¬(56320<=((h:Nat):Int)/\((h:Nat):Int)<57344))(h3:((h:Nat):Int)<55296\/57344<=((h:Nat):Int)):Se s=(h,6):=by
  unfold Se;rw[h1];simp only;rw[tQ (show ¬(56320<=h/\h<57344) by omega),uQ (show h<55296\/57344<=h by omega)]
def uni_c(h1:Pg (s.drop 2)=some h)(h2:¬(56320<=((h:Nat):Int)/\((h:Nat):Int)<57344))(h3:¬(((h:Nat):Int)<55296\/57344<=((h:Nat):Int)))(hp:Lib.hasPrefix (s.drop 6) [92,117]=false):Se s=(0,0):=by
  unfold Se;rw[h1];simp only;rw[tQ (show ¬(56320<=h/\h<57344) by omega),tQ (show ¬(h<55296\/57344<=h) by omega),tQ<|pre_not hp]
def uni_d(h1:Pg (s.drop 2)=some h)(h2:¬(56320<=((h:Nat):Int)/\((h:Nat):Int)<57344))(h3:¬(((h:Nat):Int)<55296\/57344<=((h:Nat):Int)))(hp:Lib.hasPrefix (s.drop 6) [92,117]=true) :
    Se s=(match Pg (s.drop 8)with|none=>(0,0)|some l=>if l<56320\/57344<=l then (0,0) else (65536+(h-55296)*1024+(l-56320),12)):=by
  unfold Se;rw[h1];simp only;rw[tQ (show ¬(56320<=h/\h<57344) by omega),tQ (show ¬(h<55296\/57344<=h) by omega),uQ (MP hp).2];cases Pg (s.drop 8) <;> rfl
def uni_e{X:Str}{l:Nat}{j:Bool}(hf:F4 X l j)(hb:(!j || decide (((l:Nat):Int)<56320\/57344<=((l:Nat):Int)))=true):(match Pg X with|none=>(0,0)|some l=>if l<56320\/57344<=l then (0,0) else (65536+(h-55296)*1024+(l-56320),12))=(0,0):=by
  cases j with
  | false=>rw[hf.n rfl]
  | true =>
    rw[(hf.y rfl).1];have:=mZ<|(Bool.false_or _).symm.trans hb;simp only;rw[uQ (show l<56320\/57344<=l by omega)]
def two_eq{a b c:Int}(h1:a=b)(h2:c=d):Value.tuple #[.int .i32 a,J c]=.tuple #[.int .i32 b,J d]:=by rw[h1,h2]
def ZV(s:Str)(h2:2<=aL s)(w0:World)(hG:Gl w0):Calls prog 321 #[I s] w0 (Za λv w'=>v=.tuple #[.int .i32 ((Se s).1:Nat),J ((Se s).2:Nat)]/\Same [] w0 w'):=by
 refine Ea func321 ntmps321 ?_;intro hF;refine rn 9<|Ba (v:=I<|(s:Str).drop (2)) (Qf (2) jX) ?_;refine Fc (four_o (s.drop 2) _<|hG.ext hF.same) ?_;rintro _ w ⟨h,i,rfl,hf,hE⟩;have hF:=hF.ext hE;refine rn 10<|Eb (λσ w=>∃(bd:Bool),(bd=(!i || decide (56320<=((h:Nat):Int)/\((h:Nat):Int)<57344)))/\AllEq σ [(0,I s),(4,.int .i32<|((h:Nat):Int)),(13,.bool bd)]/\FR w0 [] [] w) ?_ ?_;refine rn 8 ⟨λhc0=>?_,λhc0=>?_⟩;refine rn 1 ?_;exact Ha ⟨true,(by first|exact or_a hc0|exact ST hc0 (by rw[decide_eq_true_iff];omega)),Va,hF⟩;refine rn 5 ⟨λhg0=>?_,λhg0=>?_⟩;refine rn 5 ?_;exact Ha ⟨decide ((((h:Nat):Int):Int)<(57344:Int)),ST hc0 (by rw[decide_eq_decide];omega),Va,hF⟩;refine rn 5 ?_;exact Ha ⟨false,ST hc0 (by rw[decide_eq_false_iff_not];omega),Va,hF⟩;rintro σ w ⟨bd,hbd,hzz,hF⟩;refine Aj hzz 2 ⟨λhc1=>?_,λhc1=>?_⟩;have hx1:=hbd.symm.trans hc1;refine rn 7 ?_;exact⟨by rw[uni_a hf hx1];rfl,hF.same⟩;have hx1:=hbd.symm.trans hc1;obtain⟨hy1,hy2,hy3,hy4⟩:=hf.yes hx1;refine rn 1<|Eb (λσ w=>∃(bd:Bool),(bd=decide (((h:Nat):Int)<55296\/57344<=((h:Nat):Int)))/\AllEq σ [(0,I s),(4,.int .i32<|((h:Nat):Int)),(22,.bool bd)]/\FR w0 [] [] w) ?_ ?_;refine rn 5 ⟨λhg1=>?_,λhg1=>?_⟩;refine rn 5 ?_;exact Ha ⟨true,by symm;rw[decide_eq_true_iff];omega,Va,hF⟩;refine rn 5 ?_;exact Ha ⟨decide ((57344:Int)<=(((h:Nat):Int):Int)),by symm;rw[decide_eq_decide];omega,Va,hF⟩;rintro σ w ⟨bd,hbd,hzz,hF⟩;refine Aj hzz 2 ⟨λhc2=>?_,λhc2=>?_⟩;have hd2:=mZ<|hbd.symm.trans hc2;refine rn 8 ?_;exact⟨by rw[uni_b hy1 hy2 hd2];rfl,hF.same⟩;have hd2:=of_decide_eq_false<|hbd.symm.trans hc2;refine rn 3 ?_;refine Ba (v:=I<|(s:Str).drop (6)) (Qf (6) jX (h1:=by rw[zQ]at hy4;omega)) ?_;refine Ia (hasPre_c (s.drop 6) [92,117] _) ?_;rintro w hF -
 refine rn 5 ⟨λhc3=>?_,λhc3=>?_⟩;have hpr:Lib.hasPrefix (s.drop 6) [92,117]=false:=aS hc3
 refine rn 7 ?_;exact⟨by rw[uni_c hy1 hy2 hd2 hpr];rfl,hF.same⟩;have hpr:Lib.hasPrefix (s.drop 6) [92,117]=true:=aS hc3
 refine rn 6 ?_;refine Ba (v:=I<|(s:Str).drop (8)) (Qf (8) jX (h1:=by have:=(MP hpr).1;rw[zQ]at this;omega)) ?_;refine Fc (four_o (s.drop 8) _<|hG.ext hF.same) ?_;rintro _ w ⟨l,j,rfl,hf2,hE⟩;have hF:=hF.ext hE;refine rn 9<|Eb (λσ w=>∃(bd:Bool),(bd=(!j || decide (((l:Nat):Int)<56320\/57344<=((l:Nat):Int))))/\AllEq σ [(4,.int .i32<|((h:Nat):Int)),(6,.int .i32<|((l:Nat):Int)),(50,.bool bd)]/\FR w0 [] [] w) ?_ ?_;refine rn 5 ⟨λhg2=>?_,λhg2=>?_⟩;refine rn 8 ?_;exact Ha ⟨true,wF,Va,hF⟩;refine rn 5 ⟨λhg3=>?_,λhg3=>?_⟩;refine rn 4 ?_;exact Ha ⟨true,wF,Va,hF⟩;refine rn 4 ?_;exact Ha ⟨decide ((57344:Int)<=(((l:Nat):Int):Int)),ST hg2 (by rw[decide_eq_decide];omega),Va,hF⟩;rintro σ w ⟨bd,hbd,hzz,hF⟩;refine Aj hzz 2 ⟨λhc4=>?_,λhc4=>?_⟩;have hx4:=hbd.symm.trans hc4;refine rn 7 ?_;exact⟨by rw[uni_d hy1 hy2 hd2 hpr,uni_e hf2 hx4];rfl,hF.same⟩;have hx4:=hbd.symm.trans hc4;obtain⟨hz1,hz2,hz3,hz4⟩:=hf2.yes hx4;refine rn 5<|Ba (v:=.int .i32<|((h:Nat):Int)-55296) (Ho O O<|Qp Aa Aa)<|Ba (v:=.int .i32<|(((h:Nat):Int)-55296)*1024) (Ro O O<|Qp Aa Aa)<|Ba (v:=.int .i32<|65536+(((h:Nat):Int)-55296)*1024) (Cl O O<|Qp Aa Aa) ?_;refine rn 1<|Ba (v:=.int .i32<|65536+(((h:Nat):Int)-55296)*1024+((l:Nat):Int)) (Cl O O<|Qp Aa Aa)<|Ba (v:=.int .i32<|65536+(((h:Nat):Int)-55296)*1024+((l:Nat):Int)-56320) (Ho O O<|Qp Aa Aa) ?_;refine rn 5 ⟨?_,hF.same⟩;rw[uni_d hy1 hy2 hd2 hpr,hz1];simp only;rw[tQ (show ¬(l<56320\/57344<=l) by omega)];exact two_eq Aa O
def UniC.all(t:Str):UniC t:=λk w hG h0 h1=>ZV (t.drop k) (by obtain⟨h,-⟩:=List.getElem?_eq_some_iff.1 h1;omega) w hG
def Rh:List Str->MapL
  | []=>[]
  | k::r=>Rh r++[(k,.bool true)]
theorem Az(k:Str):∀l:List Str,Ie (Rh l) k=if k∈l then some (.bool true) else none
  | []=>rfl
  | x :: r => by
    rw[Rh,EE,Az k r];by_cases h1:k∈r
    ·rw[uQ h1,uQ<|iZ _ h1];rfl
    rw[tQ h1];by_cases h2:x=k
    ·subst h2;rw[uQ aZ];simp[Ie]
    rw[tQ λh=>(oQ.1 h).elim (λe=>h2 e.symm) h1];simp[Ie,h2]
def hadM_get(k:Str)(l:List Str):(Ie (Rh l) k).getD (.bool false)=.bool (decide (k∈l)):=by
  rw[Az];by_cases h:k∈l
  ·rw[uQ h,gZ h];rfl
  rw[tQ h,fZ h];rfl
def VV{k:Str}{l:List Str}(h:¬k∈l):Ie (Rh l) k=none:=by rw[Az,tQ h]
def Mo(s:Str)(t:Tk):Str:=(Dc ((s.take t.t).drop t.f)).1
def Dx{val:Nat->Nat->Ps->Bool × Ps}{p:Ps}(h:¬p.kind=8):Mb s val (p,had)=(false,p.fail (aL s) 2,had):=by
  unfold Mb;cases hr:p.rest with
  | nil=>simp only[hr]
  | cons t r=>unfold Ps.kind at h;rw[hr]at h;simp only[hr];rw[uQ h]
def F2{val:Nat->Nat->Ps->Bool × Ps}{p:Ps}{t:Tk}(hr:p.rest=t::r)(h8:t.k=8)(h:Mo s t∈had):Mb s val (p,had)=(false,p.fail (aL s) 7,had):=by
  unfold Mb;simp only[hr];rw[tQ λe=>e h8];exact uQ h
def Zm{val:Nat->Nat->Ps->Bool × Ps}{p:Ps}{t:Tk}(hr:p.rest=t::r)(h8:t.k=8)(h:¬Mo s t∈had) :
    Mb s val (p,had)=if p.skip.kind≠7 then (false,p.skip.fail (aL s) 2,Mo s t::had) else ((val t.f t.t p.skip.skip).1,(val t.f t.t p.skip.skip).2,Mo s t::had):=by
  unfold Mb;simp only[hr];rw[tQ λe=>e h8];exact tQ h
def OU(s:Str)(hs:aL s<=65536)(S:Nat->Prop)(pb mb:Nat)(PRE:Ps->Prop)(hsuf:∀p q,q.rest <:+ p.rest->PRE p->PRE q)(hpre:∀p,PRE p->∀t∈p.rest,t.f<=t.t/\t.t<=aL s)(d:Nat)(hd:d<=32)(h:QZ s S pb PRE d)(lv:Int)(hlv:lv=33-(d:Int))(p:Ps)(had:List Str)(exr sm:List (Nat × Obj))(w0:World)(hG:Gl w0)(hlo:∀b∈ids (([(mb,Vc (Rh had))]++exr)++sm),8<=b)(hP:PRE p)(hNP:NP p)(hJ0:Jp S w0 ([(mb,Vc (Rh had))]++exr) sm pb s p):Calls prog 176 #[V pb,J lv,.map (some mb)] w0 (Za λv w'=>v=.bool (Mb s (Wa s d) (p,had)).1/\∃sm',Jp S w' ([(mb,Vc (Rh (Mb s (Wa s d) (p,had)).2.2))]++exr) sm' pb s (Mb s (Wa s d) (p,had)).2.1/\Mc w0 (([(mb,Vc (Rh had))]++exr)++sm) w' (([(mb,Vc (Rh (Mb s (Wa s d) (p,had)).2.2))]++exr)++sm')):=by
 refine Yl func176 O ntmps176 Bf (KZ _ _ _) ?_;have hF:FR w0 (ids<|([(mb,Vc<|Rh had)]++exr)++sm) [] w0:=⟨Same.refl _ _,Da,Da⟩;have hJ:=hJ0;have hM:Mc w0 (([(mb,Vc<|Rh had)]++exr)++sm) w0 (([(mb,Vc<|Rh had)]++exr)++sm):=Mc.ext<|Same.refl _ _;refine rn 9<|Xb (kind_p hJ) (Df en_171 O O) ?_;rintro _ w ⟨rfl,hE⟩;have hF:=hF.ext hE;have hM:=hM.trans<|Mc.ext hE;have hJ:=hJ.ext hE;refine rn 3<|G5 O (λhc0=>?_) λhc0=>?_;refine rn 3<|Xb (Es hJ 2) (Zd JC O O O) ?_;rintro _ w ⟨rfl,sm7,hJ7,hM7⟩;have hM7:=hM.trans hM7;have hF:FR w0 (ids<|([(mb,Vc<|Rh had)]++exr)++sm) [] w:=⟨hM7.same,Da,Da⟩;refine rn 3<|rt1 (v:=.bool false) ?_;rw[Dx hc0];exact⟨O,sm7,hJ7,hM7⟩;refine rn 3 ?_;have h8:p.kind=8:=Decidable.not_not.1 hc0;obtain⟨t,r,hpr⟩:=Hn (show ¬Tc p.kind=0 by rw[h8];decide);have hkt:=Si hpr;have htk:=hpre p hP t (by rw[hpr];exact aZ);have htb:=hNP.tk t (by rw[hpr];exact aZ);obtain⟨A,Ar,c,cr,sl,vals,sb,hF,h1,h2,h3⟩:=hJ.openN hM hJ0.off;have hF:FR w0 (ids<|([(mb,Vc<|Rh had)]++exr)++sm) ([(mb,Vc<|Rh had),(pb,.cells #[I s,.slice Ar (aL p.rest) cr,J<|(p.lf:Nat),J<|(p.lt:Nat),.slice A (aL p.nodes) c,J<|(p.at_:Nat),J p.err] 138)]++(exr++(sl++(sb++[])))) w:=hF;obtain⟨ad,hA,hSa,hk⟩:=h3.tok_head hpr;refine rn 4<|RW (yll isAgg131 hF.F 1) ?_;refine Ba (v:=.pointer<|some<|ad.add<|0*3) (Ca (i:=0) Xi hA (h1:=by rw[hpr];simp only[kQ];omega)) ?_;refine Ba (v:=.pointer<|some<|(ad.add<|0*3).add 1) (Oa (a:=ad.add<|0*3) Fi)<|Ba (Ma (l:=[J<|(t.f:Nat),J<|(t.t:Nat)]) oZ tZ O O<|Sc (hF.cellsE (hJ0.off _ hSa).2 hk) 1 O) ?_;refine X2 hF zeroValue136 tZ O ?_;intro b1 w hb1 hF hE;have hM:=hM.trans<|Mc.ext hE;have hJ:=hJ.ext hE;refine rn 3<|Gb (.of []) (bQ [0,1,2,3,4,5,6,7,8]<|.act 9<|bQ [10,11,12,13,14,15,16] .nil) hF ?_
 intro w hF hE;have hM:=hM.trans<|Mc.ext hE;have hJ:=hJ.ext hE;refine⟨λwq=>FR w0 (ids<|([(mb,Vc<|Rh had)]++exr)++sm) [(b1,.cells #[J<|(t.f:Nat),J<|(t.t:Nat)] 136),(mb,Vc<|Rh had),(pb,.cells #[I s,.slice Ar (aL p.rest) cr,J<|(p.lf:Nat),J<|(p.lt:Nat),.slice A (aL p.nodes) c,J<|(p.at_:Nat),J p.err] 138)] wq,hF.mid 0 3,?_⟩;refine rn 3<|f_Y O (yls sZ O C0 2 O O) ?_;refine rn 1<|f_Y O (yli pZ O C0 0 O O) ?_;refine rn 1<|f_Y O (yli pZ O C0 0 O O)<|Ga O (v:=I<|(s.take t.t).drop t.f) (λw hC=>Eh t.f t.t jX O O O Aa Aa) ?_;refine Nr O (Zy ((s.take t.t).drop t.f) (UniC.all _) (by rw[zQ,jZ];omega) _<|(hG.same hF.same hlo)) (Df ZY O O) ?_;rintro _ w ⟨rfl,hE⟩;have hF:=hF.ext hE;have hM:=hM.trans<|Mc.ext hE;have hJ:=hJ.ext hE;refine⟨hF.mid 0 3,?_⟩;refine rn 14<|Ba (v:=.bool<|decide ((Mo s t)∈had)) (Hq zZ jX zeroValue4 O O (hF.heap (i:=1) O)<|hadM_get _ _) ?_;refine rn 2<|G5 O (λhc1=>?_) λhc1=>?_;refine rn 3<|Xb (Es hJ 7) (Zd JC O O O) ?_;rintro _ w ⟨rfl,sm7,hJ7,hM7⟩;have hM7:=hM.trans hM7;have hF:FR w0 (ids<|([(mb,Vc<|Rh had)]++exr)++sm) [] w:=⟨hM7.same,Da,Da⟩;refine rn 3<|rt1 (v:=.bool false) ?_;rw[F2 hpr (hkt.symm.trans h8) hc1];exact⟨O,sm7,hJ7,hM7⟩;refine rn 6<|Zs 1 (v:=.bool true) hF zZ jX O O O O (VV hc1) ?_;rintro w hF -;have hF:FR w0 (ids<|([(mb,Vc<|Rh had)]++exr)++sm) ([(b1,.cells #[J<|(t.f:Nat),J<|(t.t:Nat)] 136),(mb,Vc<|Rh<|(Mo s t)::had),(pb,.cells #[I s,.slice Ar (aL p.rest) cr,J<|(p.lf:Nat),J<|(p.lt:Nat),.slice A (aL p.nodes) c,J<|(p.at_:Nat),J p.err] 138)]++(exr++(sl++(sb++[])))) w:=hF;refine rn 3 ?_;clear hJ hM;obtain⟨hJ,hM⟩:=Jp.ofFrame (p:=p) (s:=s) (pb:=pb) (S:=S) (ex:=[(b1,.cells #[J<|(t.f:Nat),J<|(t.t:Nat)] 136),(mb,Vc<|Rh<|(Mo s t)::had)]++exr) (sm:=(pb,.cells (Qq s Ar cr p A c).toArray 138)::(sl++sb)) (own:=[]) hF hJ0.off (by simp only[qQ,nZ,sQ];exact List.Perm.append_left [_,_]<|List.perm_append_comm_assoc [_] exr _) ⟨A,Ar,c,cr,_,_,_,rfl,h1,h2,h3.fwdS hF hJ0.off⟩
 obtain⟨sm2,hsm2⟩:∃x,x=(pb,Obj.cells (Qq s Ar cr p A c).toArray 138)::(sl++sb):=⟨_,rfl⟩;rw[<-hsm2]at hJ hM;clear hsm2;have hF:=hJ.toF hM;have hq0r:p.rest≠[]:=by rw[hpr];exact List.cons_ne_nil _ _
 refine rn 2<|Xb (skip_p hJ hq0r) (Df NZ O O) ?_;rintro _ w ⟨rfl,sm3,hJ3,hM3⟩;have hM:=hM.trans hM3;clear hJ hM3;have hJ:=hJ3;clear hJ3;have hF:=hJ.toF hM;refine rn 6<|Xb (V3 hJ 7 Ja) (Zd en_232 O O O) ?_;rintro _ w ⟨rfl,sm4,hJ4,hM4⟩;have hM:=hM.trans hM4;clear hJ hM4;have hJ:=hJ4;clear hJ4;have hF:=hJ.toF hM;refine rn 3<|G5 O (λhc2=>?_) λhc2=>?_;rw[tQ hc2]at hJ;refine rn 3<|Xb (Es hJ 2) (Zd JC O O O) ?_;rintro _ w ⟨rfl,sm7,hJ7,hM7⟩;have hM7:=hM.trans hM7;have hF:FR w0 (ids<|([(mb,Vc<|Rh had)]++exr)++sm) [] w:=⟨hM7.same,Da,Da⟩;refine rn 3<|rt1 (v:=.bool false) ?_;rw[Zm hpr (hkt.symm.trans h8) hc1,uQ hc2];have hJ9:Jp S w ([(mb,Vc<|Rh<|Mo s t::had)]++exr) sm7 pb s (p.skip.fail (aL s) 2):=Jp.drop (own:=[(b1,.cells #[J<|(t.f:Nat),J<|(t.t:Nat)] 136)]) hJ7;have hM9:Mc w0 (([(mb,Vc<|Rh had)]++exr)++sm) w (([(mb,Vc<|Rh<|Mo s t::had)]++exr)++sm7):=Mc.drop (own:=[(b1,.cells #[J<|(t.f:Nat),J<|(t.t:Nat)] 136)]) hM7;exact⟨O,sm7,hJ9,hM9⟩;have hk7:p.skip.kind=7:=Decidable.not_not.1 hc2;rw[uQ hk7]at hJ;refine rn 6<|RW (ylg oZ tZ hF.F 0) ?_;refine Xb (h hd t.f t.t p.skip.skip lv _ sm4 _ hlv htb.1 htb.2 (hG.same hF.same hlo) (hM.low hlo hG.size) (hsuf _ _ (Of _)<|hsuf _ _ (Of _) hP) hNP.skip.skip hJ) (Du IK O O O O) ?_;rintro _ w ⟨rfl,sm5,hJ5,hM5⟩;have hM5:=hM.trans hM5;have hF:FR w0 (ids<|([(mb,Vc<|Rh had)]++exr)++sm) [] w:=⟨hM5.same,Da,Da⟩;refine rn 3<|rt1 (v:=.bool _) ?_;rw[Zm hpr (hkt.symm.trans h8) hc1,tQ λe=>e hk7];have hJ9:Jp S w ([(mb,Vc<|Rh<|Mo s t::had)]++exr) sm5 pb s (Wa s d t.f t.t p.skip.skip).2:=Jp.drop (own:=[(b1,.cells #[J<|(t.f:Nat),J<|(t.t:Nat)] 136)]) hJ5;have hM9:Mc w0 (([(mb,Vc<|Rh had)]++exr)++sm) w (([(mb,Vc<|Rh<|Mo s t::had)]++exr)++sm5):=Mc.drop (own:=[(b1,.cells #[J<|(t.f:Nat),J<|(t.t:Nat)] 136)]) hM5
 exact⟨O,sm5,hJ9,hM9⟩
open Go.RowKit in
def EO{pos:String}{t e:Nat}(ht:P.underlying t=some (.map kt e)) :
    (execOp ρ ⟨dst,.makeMap t none,ty,pos,aft,g⟩).run P w=.ok (.value (.map (some w.heap.size))) (w.alloc (Vc [])):=by
  simp[execOp,Instr.makeMap,run_underlying ht,newObj,Sem.run,Vc,Fb]
def Qm{d kf:Nat}{p q0:Ps}{t:Tk}(hr:p.rest=t::r)(h:¬Tc t.k=0)(h2:¬aL p.nodes=4096)(hq:q0=En p t kf kt) :
    Wa s (d+1) kf kt p=Q9 (aL p.nodes) (if Tc t.k=5 then ((Ec (Xh s d) (aL s) (aL p.nodes) 5 (q0.skip,[])).1,(Ec (Xh s d) (aL s) (aL p.nodes) 5 (q0.skip,[])).2.1) else if Tc t.k=6 then ((Ec (Mb s (Wa s d)) (aL s) (aL p.nodes) 3 (q0.skip,[])).1,(Ec (Mb s (Wa s d)) (aL s) (aL p.nodes) 3 (q0.skip,[])).2.1) else (true,q0.skip)):=by
  subst hq;have e:(En p t kf kt).skip = { p.skip with nodes:=p.nodes++[KG t kf kt] }:=by unfold En Ps.skip;rw[hr]
  rw[Wa,hr];dsimp only;rw[tQ h,tQ h2,e];rfl
def MA{s:Str}{d:Nat}{p q0:Ps}{t:Tk}(hs:aL s<=65536)(hNPq:NP q0.skip)(hnq:aL p.nodes<aL q0.skip.nodes):∀rr:Bool × Ps,rr=(if Tc t.k=5 then ((Ec (Xh s d) (aL s) (aL p.nodes) 5 (q0.skip,[])).1,(Ec (Xh s d) (aL s) (aL p.nodes) 5 (q0.skip,[])).2.1) else if Tc t.k=6 then ((Ec (Mb s (Wa s d)) (aL s) (aL p.nodes) 3 (q0.skip,[])).1,(Ec (Mb s (Wa s d)) (aL s) (aL p.nodes) 3 (q0.skip,[])).2.1) else (true,q0.skip))->aL p.nodes<rr.2.nodes.length:=λrr h=>by
  subst h;split
  ·exact Nat.lt_of_lt_of_le hnq (Cy (G4<|Yf hs d) hs (aL p.nodes) 5 (q0.skip,[]) hNPq hnq).2.2
  split
  ·exact Nat.lt_of_lt_of_le hnq (Cy (Ut s<|Yf hs d) hs (aL p.nodes) 3 (q0.skip,[]) hNPq hnq).2.2
  exact hnq
def value1_c(s:Str)(hs:aL s<=65536)(S:Nat->Prop)(pb:Nat)(PRE:Ps->Prop)(hsuf:∀p q,q.rest <:+ p.rest->PRE p->PRE q)(hpre:∀p,PRE p->∀t∈p.rest,t.f<=t.t/\t.t<=aL s)(mb px hb:Nat)(d:Nat)(hd:d<=32)(h:QZ s S pb PRE d)(lv:Int)(hlv:lv=33-(d:Int))(p:Ps)(had:List Str)(exr sm:List (Nat × Obj))(hpx:(px,.cells #[V pb] 134)∈exr)(hhb:(hb,.cells #[.map (some mb)] 199)∈exr)(w0:World)(hG:Gl w0)(hlo:∀b∈ids (([(mb,Vc (Rh had))]++exr)++sm),8<=b)(hP:PRE p)(hNP:NP p)(hJ0:Jp S w0 ([(mb,Vc (Rh had))]++exr) sm pb s p):Calls prog 175 #[J lv,V px,V hb] w0 (Za λv w'=>v=.bool (Mb s (Wa s d) (p,had)).1/\∃sm',Jp S w' ([(mb,Vc (Rh (Mb s (Wa s d) (p,had)).2.2))]++exr) sm' pb s (Mb s (Wa s d) (p,had)).2.1/\Mc w0 (([(mb,Vc (Rh had))]++exr)++sm) w' (([(mb,Vc (Rh (Mb s (Wa s d) (p,had)).2.2))]++exr)++sm')):=by
 refine Lb func175 ntmps175 O O ?_;have hF:FR w0 (ids<|([(mb,Vc<|Rh had)]++exr)++sm) [] w0:=⟨Same.refl _ _,Da,Da⟩;refine rn 7 ?_;refine Ba (v:=V pb) (Xa isAgg134 (hx:=O) (by rw[Db (hJ0.hh _<|List.mem_append_left _<|kZ _ hpx) 0];rfl)) ?_;refine rn 1 ?_;refine Ba (v:=.map<|some mb) (Xa isAgg199 (hx:=O) (by rw[Db (hJ0.hh _<|List.mem_append_left _<|kZ _ hhb) 0];rfl)) ?_;refine Fc (OU s hs S pb mb PRE hsuf hpre d hd h lv hlv p had exr sm _ hG hlo hP hNP hJ0) ?_;rintro _ w ⟨rfl,sm1,hJ1,hM1⟩;have hF:FR w0 (ids<|([(mb,Vc<|Rh had)]++exr)++sm) [] w:=⟨hM1.same,Da,Da⟩;refine rn 4 ?_;exact⟨O,sm1,hJ1,hM1⟩
def BD(s:Str)(hs:aL s<=65536)(S:Nat->Prop)(pb:Nat)(PRE:Ps->Prop)(hsuf:∀p q,q.rest <:+ p.rest->PRE p->PRE q)(hpre:∀p,PRE p->∀t∈p.rest,t.f<=t.t/\t.t<=aL s)(d1:Nat)(hd1:d1<=32)(ih:∀d<d1,QZ s S pb PRE d)(kf kt:Nat)(hkf:kf<=65536)(hkt_:kt<=65536)(p:Ps)(lv:Int)(hlv:lv=33-(d1:Int))(ex sm:List (Nat × Obj))(w0:World)(hG:Gl w0)(hlo:∀b∈ids (ex++sm),8<=b)(hP:PRE p)(hNP:NP p)(hJ0:Jp S w0 ex sm pb s p):Calls prog 113 #[V pb,J lv,.agg #[J (kf:Nat),J (kt:Nat)]] w0 (Za λv w'=>v=.bool (Wa s d1 kf kt p).1/\∃sm',Jp S w' ex sm' pb s (Wa s d1 kf kt p).2/\Mc w0 (ex++sm) w' (ex++sm')):=by
 refine Lb func113 ntmps113 O O ?_;have hF:FR w0 (ids<|ex++sm) ([]++(ex++(sm++[]))) w0:=FR.open_ (λq hq=>⟨hJ0.hh q (aS hq),List.mem_map_of_mem (aS hq)⟩) (aS hJ0.pw);refine rn 3 ?_;rintro b1 w hb1 hF -;refine rn 1 ?_;rintro b2 w hb2 hF -;refine rn 4 ?_;obtain⟨hJ,hM⟩:=Jp.ofFrame (p:=p) (s:=s) (pb:=pb) (S:=S) (ex:=[(b2,.cells #[J<|(kf:Nat),J<|(kt:Nat)] 136),(b1,.cells #[V pb] 134)]++ex) (sm:=sm) (own:=[]) hF hJ0.off Da (by obtain⟨A,Ar,c,cr,sl,vals,sb,h1,h2,h3,h4⟩:=hJ0.parts;exact⟨A,Ar,c,cr,sl,vals,sb,h1,h2,h3,h4.fwdS hF hJ0.off⟩);refine rn 2<|Ia (kind_p hJ) ?_;intro w hF hE;have hM:=hM.trans<|Mc.ext hE;have hJ:=hJ.ext hE;refine Ia (kindOf_c p.kind _) ?_;intro w hF hE;have hM:=hM.trans<|Mc.ext hE;have hJ:=hJ.ext hE;refine rn 13 ⟨λhc0=>?_,λhc0=>?_⟩;refine rn 3<|Fc (Es hJ 2) ?_;rintro _ w ⟨rfl,sm7,hJ7,hM7⟩;have hM7:=(hM.trans hM7).drop;have hJ7:=hJ7.drop;have hF:FR w0 (ids<|ex++sm) [] w:=⟨hM7.same,Da,Da⟩;refine rn 4 ?_;rw[Tt hc0];exact⟨O,sm7,hJ7,hM7⟩;refine rn 8 ⟨λhc1=>?_,λhc1=>?_⟩;obtain rfl:d1=0:=Aa
 refine rn 3<|Fc (Es hJ 5) ?_;rintro _ w ⟨rfl,sm7,hJ7,hM7⟩;have hM7:=(hM.trans hM7).drop;have hJ7:=hJ7.drop;have hF:FR w0 (ids<|ex++sm) [] w:=⟨hM7.same,Da,Da⟩;refine rn 4 ?_;rw[W2 hc0];exact⟨O,sm7,hJ7,hM7⟩;obtain⟨d,rfl⟩:∃d,d1=d+1:=⟨d1-1,Aa⟩;replace ih:=ih d<|Nat.lt_succ_self d;refine rn 1 ?_;obtain⟨A,Ar,c,cr,sl,vals,sb,hF,h1,h2,h3⟩:=hJ.openN hM hJ0.off;have hF:FR w0 (ids<|ex++sm) ([(b2,.cells #[J<|(kf:Nat),J<|(kt:Nat)] 136),(b1,.cells #[V pb] 134),(pb,.cells #[I s,.slice Ar (aL p.rest) cr,J<|(p.lf:Nat),J<|(p.lt:Nat),.slice A (aL p.nodes) c,J<|(p.at_:Nat),J p.err] 138)]++(ex++(sl++(sb++[])))) w:=hF;refine rn 11 ⟨λhc2=>?_,λhc2=>?_⟩;refine rn 3<|Fc (Es hJ 6) ?_;rintro _ w ⟨rfl,sm7,hJ7,hM7⟩;have hM7:=(hM.trans hM7).drop;have hJ7:=hJ7.drop;have hF:FR w0 (ids<|ex++sm) [] w:=⟨hM7.same,Da,Da⟩;refine rn 4 ?_;rw[Jt hc0 Aa];exact⟨O,sm7,hJ7,hM7⟩;refine rn 14 ?_;obtain⟨t,r,hpr⟩:=Hn hc0;have hkt:=Si hpr;obtain⟨ad,hA,hSa,hk⟩:=h3.tok_head hpr;have hnl:=hNP.nb.1;refine Gb ⟨[19],λwq=>FR w0 (ids<|ex++sm) [(b2,.cells #[J<|(kf:Nat),J<|(kt:Nat)] 136),(b1,.cells #[V pb] 134)] wq,[17]⟩ (bQ [0,1,2,3,4,5,6,7,8,9,10,11,12,13,14]<|.act 15<|.act 16<|.free 17<|.free 18<|.act 19 .nil) hF ?_;rintro w hF -;refine⟨λwq=>FR w0 (ids<|ex++sm) [(b2,.cells #[J<|(kf:Nat),J<|(kt:Nat)] 136),(b1,.cells #[V pb] 134),(pb,.cells #[I s,.slice Ar (aL p.rest) cr,J<|(p.lf:Nat),J<|(p.lt:Nat),.slice A (aL p.nodes) c,J<|(p.at_:Nat),J p.err] 138)] wq,hF.mid 0 3,?_⟩;refine rn 10 ?_;refine Ga O (v:=.pointer<|some<|ad.add<|0*3) (λw hC=>Ca (i:=0) Xi hA (h1:=by rw[hpr];simp only[kQ];omega)) ?_;refine Ga O (v:=.pointer<|some<|(ad.add<|0*3).add 1) (λw hC=>Oa (a:=ad.add<|0*3) Fi)<|Ga O (λw hC=>Ma (l:=[J<|(t.f:Nat),J<|(t.t:Nat)]) oZ tZ O O<|Sc (hC.cellsE (hJ0.off _ hSa).2 hk) 1 O) ?_
 refine rn 1<|Ga O (v:=.agg #[J<|Tc p.kind,J<|(t.f:Nat),J<|(t.t:Nat),J<|(kf:Nat),J<|(kt:Nat),aQ,aQ]) (λw hC=>by kernel_rfl) ?_;refine rn 1 ?_;rintro b3 w hb3 hF -;refine Uv h1 (len':=aL (p.nodes++[KG t kf kt])) (ys:=vals++Ai (KG t kf kt) none 0 none 0) Da (by rw[hkt];rfl) ?_;intro A0 c0 ns_0 w hS0_ns hF hE hnew;refine rn 3 ?_;rintro w hF -;refine rn 3 ?_;have hF:FR w0 (ids<|ex++sm) ([(b3,.cells #[J<|Tc p.kind,J<|(t.f:Nat),J<|(t.t:Nat),J<|(kf:Nat),J<|(kt:Nat),aQ,aQ] 145),(b2,.cells #[J<|(kf:Nat),J<|(kt:Nat)] 136),(b1,.cells #[V pb] 134),(pb,.cells #[I s,.slice Ar (aL p.rest) cr,J<|(p.lf:Nat),J<|(p.lt:Nat),.slice (A0) (aL (p.nodes++[KG t kf kt])) c0,J<|(p.at_:Nat),J p.err] 138)]++(ex++(ns_0++(sb++[])))) w:=hF;obtain⟨q0,hq0⟩:∃q0:Ps,q0=En p t kf kt:=⟨_,rfl⟩;obtain⟨hJ1,hM1⟩:=Jp.ofFrame (p:=q0) (s:=s) (pb:=pb) (S:=S) (ex:=[(b2,.cells #[J<|(kf:Nat),J<|(kt:Nat)] 136),(b1,.cells #[V pb] 134)]++ex) (sm:=(pb,.cells (Qq s Ar cr q0 (A0) c0).toArray 138)::(ns_0++sb)) (own:=[(b3,.cells #[J<|Tc p.kind,J<|(t.f:Nat),J<|(t.t:Nat),J<|(kf:Nat),J<|(kt:Nat),aQ,aQ] 145)]) hF hJ0.off (by rw[hq0];simp only[qQ,sQ];exact List.Perm.append_left [_,_,_]<|List.perm_append_comm_assoc [_] ex _) ⟨A0,Ar,c0,cr,_,_,_,rfl,by rw[hq0];exact hS0_ns,by rw[hq0];show NdsAt 3 136 (p.nodes++[KG t kf kt]) _ _;simpa using h2.app<|.cons (x:=KG t kf kt) (SlB.nil _ _) (SlB.nil _ _) .nil,by rw[hq0];exact h3.fwdS hF hJ0.off⟩;obtain⟨sm2,hsm2⟩:∃x,x=(pb,Obj.cells (Qq s Ar cr q0 (A0) c0).toArray 138)::(ns_0++sb):=⟨_,rfl⟩;rw[<-hsm2]at hJ1 hM1;clear hsm2 hJ hM;have hJ:=hJ1;have hM:=hM1;clear hJ1 hM1;have hF:=hJ.toF hM;have hq0r:q0.rest≠[]:=by rw[hq0];show p.rest≠[];rw[hpr];exact List.cons_ne_nil _ _
 refine rn 2<|Fc (skip_p hJ hq0r) ?_;rintro _ w ⟨rfl,sm3,hJ3,hM3⟩;have hM:=hM.trans hM3;clear hJ hM3;have hJ:=hJ3;clear hJ3;have hF:=hJ.toF hM;refine rn 3 ?_;have hNPq:NP q0.skip:=by rw[hq0];exact QO hNP hpr hkf hkt_ hc2
 have hPq:PRE q0.skip:=hsuf p _ ((Of q0).trans (by rw[hq0];exact List.suffix_refl _)) hP;have hnq:aL p.nodes<aL q0.skip.nodes:=by rw[Jb,hq0];simp[En]
 have hnrr:=@MA s d p q0 t hs hNPq hnq;refine rn 5<|Eb (λσ w=>∃(rr:Bool × Ps),∃(sm5:List (Nat × Obj)),(rr=(if Tc t.k=5 then ((Ec (Xh s d) (aL s) (aL p.nodes) 5 (q0.skip,[])).1,(Ec (Xh s d) (aL s) (aL p.nodes) 5 (q0.skip,[])).2.1) else if Tc t.k=6 then ((Ec (Mb s<|Wa s d) (aL s) (aL p.nodes) 3 (q0.skip,[])).1,(Ec (Mb s<|Wa s d) (aL s) (aL p.nodes) 3 (q0.skip,[])).2.1) else (true,q0.skip)))/\(Jp S w ([(b2,.cells #[J<|(kf:Nat),J<|(kt:Nat)] 136),(b1,.cells #[V pb] 134)]++ex) sm5 pb s rr.2)/\(Mc w0 (ex++sm) w<|([(b2,.cells #[J<|(kf:Nat),J<|(kt:Nat)] 136),(b1,.cells #[V pb] 134)]++ex)++sm5)/\AllEq σ [(3,V b1),(8,J<|(aL p.nodes:Nat)),(9,.bool rr.1)]/\FR w0 (ids<|ex++sm) ([(b2,.cells #[J<|(kf:Nat),J<|(kt:Nat)] 136),(b1,.cells #[V pb] 134)]++(ex++(sm5++[]))) w) ?_ ?_;refine rn 13 ⟨λhc3=>?_,λhc3=>?_⟩;refine rn 5<|Ba (v:=.func (.func 174) #[V pb] #[]) (Fr O) ?_;refine Fc (kids_c 174 #[V pb] #[] (Xh s d) (λ_=>([(b2,.cells #[J<|(kf:Nat),J<|(kt:Nat)] 136),(b1,.cells #[V pb] 134)]++ex)) S pb (aL p.nodes) s hs lv 5 Ja Aa PRE hsuf (G4<|Yf hs d) (My<|Gi s d) en_174 (λw1 sm9 p9 had9 a1 a2 a3 a4 a5=>itemJ_c s S pb PRE d Aa ih (lv+1) Aa p9 _ sm9 w1 a1 a2 a3 a4 a5) q0.skip [] sm3 hNPq hPq hnq _ (hG.same hF.same hlo) (hM.low hlo hG.size) hJ) ?_;rintro _ w ⟨rfl,sm4,hJ4,hM4⟩;have hM:=hM.trans hM4;clear hJ hM4;have hJ:=hJ4;clear hJ4;have hF:=hJ.toF hM;refine rn 3 ?_;exact Ha ⟨((Ec (Xh s d) (aL s) (aL p.nodes) 5 (q0.skip,[])).1,(Ec (Xh s d) (aL s) (aL p.nodes) 5 (q0.skip,[])).2.1),sm4,(uQ (by rw[<-hkt];exact hc3)).symm,hJ,hM,Va,hF⟩;refine rn 7 ⟨λhc4=>?_,λhc4=>?_⟩;refine rn 2<|Wr (v:=λb=>.map<|some b) hF (EO zZ) ?_;intro b4 w hb4 hF hE;have hM:=hM.trans<|Mc.ext hE;have hJ:=hJ.ext hE;refine rn 1 ?_;intro b5 w hb5 hF hE
 have hM:=hM.trans<|Mc.ext hE;have hJ:=hJ.ext hE;refine rn 2 ?_;obtain⟨hJ9,hM9⟩:=Jp.ofFrame (p:=q0.skip) (s:=s) (pb:=pb) (S:=S) (ex:=[(b4,Vc []),(b5,.cells #[.map<|some b4] 199),(b2,.cells #[J<|(kf:Nat),J<|(kt:Nat)] 136),(b1,.cells #[V pb] 134)]++ex) (sm:=sm3) (own:=[]) hF hJ0.off (by simp only[qQ,nZ,sQ];exact List.Perm.swap _ _ _) hJ.parts;clear hJ hM;have hJ:=hJ9;have hM:=hM9;clear hJ9 hM9;have hF:=hJ.toF hM;refine rn 4<|Ba (v:=.func (.func 175) #[] #[V b1,V b5]) (AC O O) ?_;refine Fc (kids_c 175 #[] #[V b1,V b5] (Mb s<|Wa s d) (λhad=>[(b4,Vc<|Rh had),(b5,.cells #[.map<|some b4] 199),(b2,.cells #[J<|(kf:Nat),J<|(kt:Nat)] 136),(b1,.cells #[V pb] 134)]++ex) S pb (aL p.nodes) s hs lv 3 Ja Aa PRE hsuf (Ut s<|Yf hs d) (Tq s<|Gi s d) en_175 (λw1 sm9 p9 had9 a1 a2 a3 a4 a5=>value1_c s hs S pb PRE hsuf hpre b4 b1 b5 d Aa ih (lv+1) Aa p9 had9 _ sm9 Da Da w1 a1 a2 a3 a4 a5) q0.skip [] sm3 hNPq hPq hnq _ (hG.same hF.same hlo) (hM.low hlo hG.size) hJ) ?_;rintro _ w ⟨rfl,sm6,hJ6,hM6⟩;have hM6:=hM.trans hM6;clear hJ hM;have hJ:Jp S w ([(b2,.cells #[J<|(kf:Nat),J<|(kt:Nat)] 136),(b1,.cells #[V pb] 134)]++ex) sm6 pb s (Ec (Mb s<|Wa s d) (aL s) (aL p.nodes) 3 (q0.skip,[])).2.1:=Jp.drop (own:=[_,_]) hJ6;have hM:Mc w0 (ex++sm) w (([(b2,.cells #[J<|(kf:Nat),J<|(kt:Nat)] 136),(b1,.cells #[V pb] 134)]++ex)++sm6):=Mc.drop (own:=[_,_]) hM6;clear hJ6 hM6;have hF:=hJ.toF hM;refine rn 3 ?_;exact Ha ⟨((Ec (Mb s<|Wa s d) (aL s) (aL p.nodes) 3 (q0.skip,[])).1,(Ec (Mb s<|Wa s d) (aL s) (aL p.nodes) 3 (q0.skip,[])).2.1),sm6,((tQ (by rw[<-hkt];exact hc3)).trans (uQ (by rw[<-hkt];exact hc4))).symm,hJ,hM,Va,hF⟩;refine rn 2 ?_;exact Ha ⟨(true,q0.skip),sm3,((tQ (by rw[<-hkt];exact hc3)).trans (tQ (by rw[<-hkt];exact hc4))).symm,hJ,hM,Va,hF⟩
 rintro σ w ⟨rr,sm5,hrr,hJ,hM,hzz,hF⟩;have hnr:aL p.nodes<rr.2.nodes.length:=hnrr rr hrr;refine Aj hzz 2 ?_;obtain⟨Ar5,cr5,gb,c5,v1,v2,junk,K,Q,kc,qc,s1,sk,sq,s2,rfl,hv1,g1,g2,g3,g4,hc5,hm5,hlen5,hT5⟩:=hJ.open_ hnr;have hF5:=hJ.toFrame hM;have hT0:=hT5.backS hF5 hJ0.off;have hF:FR w0 (ids<|ex++sm) ([(b2,.cells #[J<|(kf:Nat),J<|(kt:Nat)] 136),(b1,.cells #[V pb] 134),(pb,.cells #[I s,.slice Ar5 rr.2.rest.length cr5,J<|(rr.2.lf:Nat),J<|(rr.2.lt:Nat),.slice ((some ⟨gb,0,none⟩)) (rr.2.nodes.length) c5,J<|(rr.2.at_:Nat),J rr.2.err] 138),(gb,(.cells (v1++(Ai rr.2.nodes[aL p.nodes] K kc Q qc++(v2++junk))).toArray 145))]++(ex++(s1++(sk++(sq++(s2++[])))))) w:=hF5.perm bY;clear hF5;refine Gb ⟨[13],λwq=>FR w0 (ids<|ex++sm) [(b2,.cells #[J<|(kf:Nat),J<|(kt:Nat)] 136),(b1,.cells #[V pb] 134),(pb,.cells #[I s,.slice Ar5 rr.2.rest.length cr5,J<|(rr.2.lf:Nat),J<|(rr.2.lt:Nat),.slice ((some ⟨gb,0,none⟩)) (rr.2.nodes.length) c5,J<|(rr.2.at_:Nat),J rr.2.err] 138)] wq,[10,11]⟩ (bQ [0,1,2,3,4,5,6,7,8,9,10,11,12]<|.act 13 .nil) hF ?_;rintro w hF -;refine⟨λwq=>FR w0 (ids<|ex++sm) [(b2,.cells #[J<|(kf:Nat),J<|(kt:Nat)] 136),(b1,.cells #[V pb] 134),(pb,.cells #[I s,.slice Ar5 rr.2.rest.length cr5,J<|(rr.2.lf:Nat),J<|(rr.2.lt:Nat),.slice ((some ⟨gb,0,none⟩)) (rr.2.nodes.length) c5,J<|(rr.2.at_:Nat),J rr.2.err] 138),(gb,(.cells (v1++(Ai rr.2.nodes[aL p.nodes] K kc Q qc++(v2++junk))).toArray 145))] wq,hF.mid 0 4,?_⟩;refine rn 10<|Wl O (v:=.pointer<|some ⟨gb,aL p.nodes*7,none⟩) (λw hC=>Kb (i:=(aL p.nodes:Int)) (aL p.nodes*7) Pn O O Aa Aa qR) (λw hC=>Kb (i:=(aL p.nodes:Int)) (aL p.nodes*7) Pn O O Aa Aa qR) ?_
 refine rn 2<|Jj 3 (l:=[J (rr.2.lt:Nat)]) (off:=aL p.nodes*7+2) (cs':=(v1++(Ai { rr.2.nodes[aL p.nodes]with t:=rr.2.lt } K kc Q qc++(v2++junk))).toArray) hF sizeOf3 O (v:=J (rr.2.lt:Nat)) O O Eo O (UA hv1 bW) (O0 hv1 bW O) ?_ O;intro w hF hE;clear hE;have hF:FR w0 (ids<|ex++sm) ([(b2,.cells #[J<|(kf:Nat),J<|(kt:Nat)] 136),(b1,.cells #[V pb] 134),(pb,.cells #[I s,.slice Ar5 rr.2.rest.length cr5,J<|(rr.2.lf:Nat),J<|(rr.2.lt:Nat),.slice ((some ⟨gb,0,none⟩)) (rr.2.nodes.length) c5,J<|(rr.2.at_:Nat),J rr.2.err] 138),(gb,(.cells (v1++(Ai { rr.2.nodes[aL p.nodes]with t:=rr.2.lt } K kc Q qc++(v2++junk))).toArray 145))]++(ex++(s1++(sk++(sq++(s2++[])))))) w:=hF;refine⟨hF.su,?_⟩;refine rn 3 ?_;obtain⟨q6,hq6⟩:∃q6:Ps,q6 = { rr.2 with nodes:=setTo rr.2.nodes (aL p.nodes) rr.2.lt }:=⟨_,rfl⟩;have hclo:=Ss (g:=gb) (junk:=junk) hnr (x:={ rr.2.nodes[aL p.nodes]with t:=rr.2.lt }) hv1 g1 g2 g3 g4 hc5 hm5 (by rw[<-hlen5];simp[Ai]);have hn6e:q6.nodes=rr.2.nodes.set (aL p.nodes) { rr.2.nodes[aL p.nodes]with t:=rr.2.lt }:=by rw[hq6];show setTo _ _ _=_;unfold setTo;rw[List.getElem?_eq_getElem hnr]
 rw[<-hn6e]at hclo;obtain⟨hJ6,hM6⟩:=Jp.ofFrame (p:=q6) (s:=s) (pb:=pb) (S:=S) (ex:=ex) (sm:=(pb,.cells (Qq s Ar5 cr5 rr.2 (some ⟨gb,0,none⟩) c5).toArray 138)::([(gb,(.cells (v1++(Ai { rr.2.nodes[aL p.nodes]with t:=rr.2.lt } K kc Q qc++(v2++junk))).toArray 145))]++(s1++(sk++(sq++s2))))) (own:=[(b2,.cells #[J<|(kf:Nat),J<|(kt:Nat)] 136),(b1,.cells #[V pb] 134)]) hF hJ0.off bY ⟨some ⟨gb,0,none⟩,Ar5,c5,cr5,_,_,_,by rw[hq6];simp only[Qq,P0],hclo.1,hclo.2,by rw[hq6];exact hT0.fwdS hF hJ0.off⟩;refine rn 6 ?_;have hV:Wa s (d+1) kf kt p=Q9 (aL p.nodes) rr:=by rw[Qm hpr (by rw[<-hkt];exact hc0) Aa hq0,hrr]
 rw[hV];refine⟨O,_,?_,hM6⟩;have e6:(Q9 (aL p.nodes) rr).2=q6:=by rw[hq6];rfl
 rw[e6];exact hJ6
def TV(s:Str)(hs:aL s<=65536)(S:Nat->Prop)(pb:Nat)(PRE:Ps->Prop)(hsuf:∀p q,q.rest <:+ p.rest->PRE p->PRE q)(hpre:∀p,PRE p->∀t∈p.rest,t.f<=t.t/\t.t<=aL s)(d:Nat):QZ s S pb PRE d:=by
  induction d using Nat.strongRecOn with
  | _ d ih=>exact λhd kf kt p lv ex sm w0 hlv hkf hkt hG hlo hP hNP hJ=>BD s hs S pb PRE hsuf hpre d hd (λd' h=>ih d' h) kf kt hkf hkt p lv hlv ex sm w0 hG hlo hP hNP hJ
end Go.Scarf
