/- A part of the proof. -/
import Derived.Test.YtidlkjpohhbbcaaGreatDoorQ14
set_option linter.all false
set_option maxHeartbeats 8000000
set_option maxRecDepth 10000
namespace Go.Scarf
open Go.RowKit Go.Proofs Go.Proofs.Tryz
def Vl(c:UInt8):Int:=bits .or .u8 (c.toNat:Int) 32
def ND(n:Nat):Bool :=
  let c:=UInt8.ofNat n
  decide (0<=Vl c)&&(decide (Vl c<256)&&(if Sh c then (decide (48<=n)&&(decide (n<=57)&&decide ((I3 c:Int)=(n:Int)-48))) || (!(decide (48<=n)&&decide (n<=57))&&(decide (97<=Vl c)&&(decide (Vl c<=102)&&decide ((I3 c:Int)=Vl c-87))))
    else !(decide (48<=n)&&decide (n<=57))&&(decide (Vl c<97) || decide (103<=Vl c))))
theorem DD:∀n<256,ND n=true:=by decide +kernel
theorem DP(c:UInt8):0<=Vl c/\Vl c<256:=by
  have h:=DD c.toNat (UInt8.toNat_lt c);simp only[ND,UInt8.ofNat_toNat,Bool.and_eq_true,decide_eq_true_eq]at h;exact⟨h.1,h.2.1⟩
theorem J3{c:UInt8}(hx:Sh c=true):(48<=c.toNat/\c.toNat<=57/\(I3 c:Int)=(c.toNat:Int)-48)\/(¬(48<=c.toNat/\c.toNat<=57)/\97<=Vl c/\Vl c<=102/\(I3 c:Int)=Vl c-87):=by
  have h:=DD c.toNat (UInt8.toNat_lt c);simp only[ND,UInt8.ofNat_toNat,Bool.and_eq_true,decide_eq_true_eq,hx,if_true,Bool.or_eq_true,Bool.not_eq_true',<-Bool.not_eq_true]at h;exact h.2.2
theorem hex_no{c:UInt8}(hx:Sh c=false):¬(48<=c.toNat/\c.toNat<=57)/\(Vl c<97\/103<=Vl c):=by
  have h:=DD c.toNat (UInt8.toNat_lt c);simp only[ND,UInt8.ofNat_toNat,Bool.and_eq_true,decide_eq_true_eq,hx,Bool.false_eq_true,if_false,Bool.or_eq_true,Bool.not_eq_true',<-Bool.not_eq_true]at h;exact h.2.2
theorem BE{c:UInt8}(hx:Sh c=true):I3 c<16:=by
  rcases J3 hx with ⟨h1,h2,h3⟩|⟨h1,h2,h3,h4⟩ <;> omega
def vH(t:Str):Nat:=t.foldl (λa c=>a*16+I3 c) 0
theorem AD{t:Str}{q:Nat}(h:q<t.length):vH (t.take (q+1))=vH (t.take q)*16+I3 t[q]:=by
  unfold vH;rw[iQ h,List.foldl_append];rfl
theorem dg_a{c:UInt8}(h:48<=((c.toNat:Nat):Int)/\((c.toNat:Nat):Int)<=57):(Sh c=true->((c.toNat:Nat):Int)-48=(I3 c:Int))/\(Sh c=false->16<=((c.toNat:Nat):Int)-48)/\0<=((c.toNat:Nat):Int)-48/\((c.toNat:Nat):Int)-48<256:=by
  refine⟨λhx=>?_,λhx=>?_,by omega,by omega⟩
  ·rcases J3 hx with ⟨h1, h2, h3⟩|⟨h1, h2⟩
   ·omega
   exact absurd ⟨by omega,by omega⟩ h1
  exact absurd ⟨by omega,by omega⟩ (hex_no hx).1
theorem dg_b{c:UInt8}(h:¬(48<=((c.toNat:Nat):Int)/\((c.toNat:Nat):Int)<=57))(h2:97<=Vl c/\Vl c<=122):(Sh c=true->Vl c-87=(I3 c:Int))/\(Sh c=false->16<=Vl c-87)/\0<=Vl c-87/\Vl c-87<256:=by
  refine⟨λhx=>?_,λhx=>?_,by omega,by omega⟩
  ·rcases J3 hx with ⟨h1, h2, h3⟩|⟨h1, h2, h3, h4⟩
   ·omega
   omega
  have := (hex_no hx).2;omega
theorem hx_out{c:UInt8}(h:¬(48<=((c.toNat:Nat):Int)/\((c.toNat:Nat):Int)<=57))(h2:¬(97<=Vl c/\Vl c<=122)):Sh c=false:=by
  cases hx:Sh c with
  | false=>rfl
  | true=>rcases J3 hx with ⟨h3,h4,h5⟩|⟨h3,h4,h5,h6⟩ <;> omega
theorem hx_big{c:UInt8}{d:Int}(h:(Sh c=true->d=(I3 c:Int))/\(Sh c=false->16<=d)/\0<=d/\d<256)(hd:16<=d):Sh c=false:=by
  cases hx:Sh c with
  | false=>rfl
  | true=>have:=h.1 hx;have:=BE hx;omega
theorem UW{c:UInt8}{d:Int}(h:(Sh c=true->d=(I3 c:Int))/\(Sh c=false->16<=d)/\0<=d/\d<256)(hd:d<16):Sh c=true:=by
  cases hx:Sh c with
  | true=>rfl
  | false=>have:=h.2.1 hx;omega
theorem vH_lt{t:Str}{q:Nat}(h:q<t.length)(hv:vH (t.take q)<16 ^ q)(hx:Sh t[q]=true):vH (t.take (q+1))<16 ^ (q+1):=by
  have:=BE hx;rw[AD h,Nat.pow_succ];omega
theorem pow4{q:Nat}(h:q<=4):16 ^ q<=65536:=by
  rcases (by omega:q=0\/q=1\/q=2\/q=3\/q=4)with rfl|rfl|rfl|rfl|rfl <;> decide
theorem Vz{s:Str}(h:4<=s.length):Fl s=if (s.take 4).all Sh=true then some (vH (s.take 4)) else none:=by
  match s,h with
  | a :: b :: c :: d :: r, _ =>
    simp only[Fl,List.take_succ_cons,List.take_zero,List.all_cons,List.all_nil,Bool.and_true,vH,List.foldl_cons,List.foldl_nil,Bool.and_assoc];split
    ·congr 1;omega
    rfl
theorem Y1{s:Str}(h:s.length<4):Fl s=none:=by
  match s,h with
  | [],_=>rfl
  | [_],_=>rfl
  | [_,_],_=>rfl
  | [_,_,_],_=>rfl
theorem QM(t:Str)(w:World):∃(b k:Nat)(w':World),(convert 9 121 (I t)).run prog w=.ok (W b t.length k) w'/\Same [] w w'/\∀j (hj:j<t.length),w'.cell? ((⟨b,0,none⟩:Addr).add (j*1))=some (.int .u8 (t[j].toNat:Int)):=by
  refine⟨w.heap.size,_,_,Lib.run_convert_string_bytes (P:=prog) w 9 121 5 (bs t) oX wZ kX,Ys w 5 (bs t),λj hj=>?_⟩;rw[Nat.mul_one,Wf,Nat.zero_add,Lib.bytesWorld_cell w 5 (bs t) j hj];have e:(bs t).data.toList=t:=by show t.toArray.toList=t;simp
  rw[e];simp[List.getD,hj]
theorem Rw{t:Str}{b:Nat}{w w':World}(hE:Same [] w w')(h:∀j (hj:j<t.length),w.cell? ((⟨b,0,none⟩:Addr).add (j*1))=some (.int .u8 (t[j].toNat:Int))):∀j (hj:j<t.length),w'.cell? ((⟨b,0,none⟩:Addr).add (j*1))=some (.int .u8 (t[j].toNat:Int)):=λj hj=>((FR.start w []).ext hE).cell0 (h j hj)
theorem x_shl32{P:Program}{w:World}{ρ:Operand->Value}{dst:Option Nat}{ty:TypeId}{pos:String}{aft:Array Edge}{g:Option (Nat × Bool)}{t t':TypeId}{x y:Operand}{k:IntKind}(hx:ρ x=.int .u64 1)(hy:ρ y=.int k 32) :
    (execOp ρ ⟨dst,.binOp .shl t x y t',ty,pos,aft,g⟩).run P w=.ok (.value (.int .u64 4294967296)) w:=by
  have hg:(eqGuard .shl t x y (.int .u64 1) (.int k 32)).run P w=.ok () w:=by unfold eqGuard;simp
  have hb:(binOp .shl t (.int .u64 1) (.int k 32)).run P w=.ok (.int .u64 4294967296) w:=by
    simp[binOp,Op.shift,IntKind.bits];decide
  simp[execOp,hx,hy,hg,hb]
theorem TC(c:UInt8)(w:World):Calls prog 324 #[.int .u8 (c.toNat:Int)] w (Oc λv w'=>v=.int .u8 (Vl c)/\Same [] w w'):=Nj (internal_strconv_lower (c.toNat:Int) w)
theorem QS(fn s:Str)(a b:Int)(w:World)(hl:s.length<=281474976710656)(hG:Gl w):Calls prog 295 #[I fn,I s,J a,J b,.iface 301 (J 2)] w (Oc λv w'=>∃tp q,v=.iface tp q/\Same [] w w'):=by
  obtain⟨tp,q,e,fz,hh⟩:=hG.syn;refine (strconv_toError_syntax (bs fn) (bs s) a b (.iface tp q) w hl (by rw[Bc hh];rfl) (.inr ⟨tp,q,O⟩)).mono λex w' hx=>?_;obtain⟨N,rfl,-,-,hb⟩:=hx;exact⟨_,O,_,_,O,.of_below hb⟩
theorem x_convV{P:Program}{w w':World}{ρ:Operand->Value}{dst:Option Nat}{ty:TypeId}{pos:String}{aft:Array Edge}{g:Option (Nat × Bool)}{t t':Nat}{x:Operand}{u v:Value}(hx:ρ x=u)(h:(convert t t' u).run P w=.ok v w'):(execOp ρ ⟨dst,.convert t t' x,ty,pos,aft,g⟩).run P w=.ok (.value v) w':=by
  simp[execOp,hx,h]
theorem Ry(t:Str)(h4:t.length=4)(w0:World):Calls prog 314 #[I t,J 16,J 32] w0 (Oc λv w'=>∃(n:Int)(er:Value),v=.tuple #[.int .u64 n,er]/\((t.all Sh=true/\n=(vH t:Int)/\er=.nilIface)\/(t.all Sh=false/\n=0/\er=.iface 301 (J 2)))/\Same [] w0 w'):=by
 refine Ea func314 O ntmps314 Bb (Li _ _ _) ?_;have hF:=FR.start w0 [];refine Da (Ba (Gb O) (Ba (Yr) (Ca (Fa (Da (Ba (Pd O) ?_))))));refine Ia (v:=.bool false) (Id (Ms rfl rfl) (by intro e;rw[e]at h4;cases h4)) ?_;refine Ca (Dr O (Da (Ba (Cb O) (Ia (v:=.bool false) (Id (Sj O O) Oa) (Ba (Kb O) (Ob ?_))))));refine Ba (Pd O) (Ba (Xf O) (Ca (Fa (Sa (Da (Ba (Cb O) (Ia (v:=.bool true) (Me (QO O O) Oa) (Ba (Sc O) (Ba (Cb O) (Ia (v:=.bool true) (Me (QO O O) Oa) (Ba (Fc O O) ?_)))))))))));refine Ba (Kb O) (Ca (Od O (Na (Wa (Ga (Fa (Da (Ba (Cb O) (Ia (v:=.bool false) (Id (Sj O O) Oa) (Ca ?_))))))))));refine Te O (Da (Ba (Cb O) (Ia (v:=.bool false) (Id (Q1 O O) Oa) (Ba (Sc O) (Ba (Cb O) (Ia (v:=.bool false) (Id (RH O O) Oa) (Ba (Pc O O) (Ca (Dr O ?_)))))))));refine Da (Ba (Gb O) (Ca (Fa (Da (Ba (Cb O) (Ca (Sa (Da ?_))))))));refine Ia (v:=.bool false) (Id (Sj O O) Oa) (Ba (Kb O) (Ca (Te O (Da (Ia (v:=.bool true) (Me (Sj O O) Oa) (Ba (Kb O) (Ca (Od O (Ja (Ba (Gb O) ?_))))))))));refine Eb (Wa (Ga (Da (Ba (Cb O) (Ia (v:=.int .u64 32) (Yd gX yZ O Oa) (Ia (v:=.int .u64 4294967296) (x_shl32 O O) (Ia (v:=.int .u64 4294967295) (Ws O O Oa) (Ba (Gb O) (Ob ?_)))))))));refine Ba (Kb O) (Ob (Ba (Gb O) (Ca (Fa (Da (Ba (Pd O) ?_))))));obtain⟨bb,kb,wn,hcv,hE,hB⟩:=QM t w0;refine Ia (w':=wn) (v:=W bb t.length kb) (x_convV O hcv) ?_;have hF:=hF.ext hE;clear hE hcv;refine Ba (Qg wZ O) (Ba (Cb O) (Ca (Sa ?_)));refine Rc (λμ σ w=>∃(q:Nat),μ=4-q/\(q<=4)/\((t.take q).all Sh=true)/\(vH (t.take q)<16 ^ q)/\(∀j (hj:j<t.length),w.cell? ((⟨bb,0,none⟩:Addr).add (j*1))=some (.int .u8 (t[j].toNat:Int)))/\AllEq σ [(1,J 16),(8,.bool false),(9,I t),(10,.int .u64 1152921504606846976),(11,.int .u64 4294967295),(12,.bool false),(13,.int .u64 ((vH (t.take q):Nat))),(99,W bb t.length kb),(100,J ((t.length:Nat))),(101,J ((q:Int)))]/\FR w0 [] [] w) _ ⟨0,O,Aa,La,(by rw[List.take_zero];decide),(hB),⟨O,O,O,O,O,O,O,O,O,O,trivial⟩,hF⟩ ?_
 rintro μ σ w ⟨q,rfl,hq,hal,hv,hB,hs,hF⟩;refine Cg.slots hs ?_;clear hs;intro σ;refine Da (Ba (Dl O O) (Ca (Fa ?_)));refine Lb O O (λhc11=>?_) (λhc11=>?_);refine Na (Ga (Fa (Sa (Fa ?_))));have hql:q<t.length:=by omega
 refine Ja (Ia (v:=.pointer (some ((⟨bb,0,none⟩:Addr).add (q*1)))) (Ra (i:=(q:Int)) sl_121 O O O Aa Aa) (Ia (v:=.int .u8 ((((t[q]' Aa).toNat:Nat):Int))) (Yc isAgg5 O (hB q Aa)) (Ba (Gb O) (Ob (Ba (Gb O) (Ca (Fa ?_)))))));refine Eh (λσ w=>∃(d:Int),((Sh (t[q]' Aa)=true->d=(I3 (t[q]' Aa):Int))/\(Sh (t[q]' Aa)=false->16<=d)/\0<=d/\d<256)/\(∀j (hj:j<t.length),w.cell? ((⟨bb,0,none⟩:Addr).add (j*1))=some (.int .u8 (t[j].toNat:Int)))/\AllEq σ [(1,J 16),(8,.bool false),(9,I t),(10,.int .u64 1152921504606846976),(11,.int .u64 4294967295),(12,.bool false),(13,.int .u64 ((vH (t.take q):Nat))),(16,.int .u8 d),(99,W bb t.length kb),(100,J ((t.length:Nat))),(101,J ((q:Int)))]/\FR w0 [] [] w) ?_ ?_;refine Sa (Fa ?_);refine Eh (λσ w=>(∀j (hj:j<t.length),w.cell? ((⟨bb,0,none⟩:Addr).add (j*1))=some (.int .u8 (t[j].toNat:Int)))/\AllEq σ [(1,J 16),(8,.bool false),(9,I t),(10,.int .u64 1152921504606846976),(11,.int .u64 4294967295),(12,.bool false),(13,.int .u64 ((vH (t.take q):Nat))),(15,.int .u8 ((((t[q]' Aa).toNat:Nat):Int))),(99,W bb t.length kb),(100,J ((t.length:Nat))),(101,J ((q:Int))),(106,.bool false)]/\FR w0 [] [] w) ?_ ?_;refine Ja (Ba (Cb O) (Ba (Xh O O) (Ba (Sc O) ?_)));refine Wb (d:=109) O (λhg0=>?_) (λhg0=>?_);refine Ba (Sc O) (Ba (Fc O O) (Ba (Kb O) (Eb ?_)));exact Qb ⟨(hB),⟨O,O,O,O,O,O,O,O,O,O,O,O,trivial⟩,hF⟩;refine Ha (Ba (Pc O O) (Ba (Kb O) (Eb ?_)));exact Qb ⟨(hB),⟨O,O,O,O,O,O,O,O,O,O,O,O,trivial⟩,hF⟩;rintro σ w ⟨hB,hs,hF⟩;refine Eg.slots hs ?_;clear hs;intro σ;refine Ga (Te O (Fa ?_));refine Eh (λσ w=>∃(bd:Bool),(bd=decide (48<=(((t[q]' Aa).toNat:Nat):Int)/\(((t[q]' Aa).toNat:Nat):Int)<=57))/\(∀j (hj:j<t.length),w.cell? ((⟨bb,0,none⟩:Addr).add (j*1))=some (.int .u8 (t[j].toNat:Int)))/\AllEq σ [(1,J 16),(8,.bool false),(9,I t),(10,.int .u64 1152921504606846976),(11,.int .u64 4294967295),(12,.bool false),(13,.int .u64 ((vH (t.take q):Nat))),(15,.int .u8 ((((t[q]' Aa).toNat:Nat):Int))),(99,W bb t.length kb),(100,J ((t.length:Nat))),(101,J ((q:Int))),(112,.bool (bd))]/\FR w0 [] [] w) ?_ ?_
 refine Ja (Ba (Cb O) (Ba (NM O O) (Ba (Sc O) ?_)));refine Wb (d:=115) O (λhg1=>?_) (λhg1=>?_);refine Ba (Cb O) (Ba (NM O O) (Ba (Fc O O) (Ba (Kb O) (Eb ?_))));exact Qb ⟨(decide (((((t[q]' Aa).toNat:Nat):Int):Int)<=(57:Int))),(by symm;first|(rw[decide_eq_true_iff];omega)|(rw[decide_eq_false_iff_not];omega)|(rw[decide_eq_decide];omega)),(hB),⟨rfl,rfl,rfl,rfl,rfl,rfl,rfl,rfl,rfl,rfl,rfl,rfl,trivial⟩,hF⟩;refine Ha (Ha (Ba (Pc O O) (Ba (Kb O) (Eb ?_))));exact Qb ⟨(false),(by symm;first|(rw[decide_eq_true_iff];omega)|(rw[decide_eq_false_iff_not];omega)|(rw[decide_eq_decide];omega)),(hB),⟨rfl,rfl,rfl,rfl,rfl,rfl,rfl,rfl,rfl,rfl,rfl,rfl,trivial⟩,hF⟩;rintro σ w ⟨bd,hbd,hB,hs,hF⟩;refine Eg.slots hs ?_;clear hs;intro σ;refine Ga (He O O (λhc13=>?_) (λhc13=>?_));have hdg:=of_decide_eq_true (hbd.symm.trans hc13);refine Ja (Ba (Cb O) ?_);refine Ia (v:=.int .u8 ((((t[q]' Aa).toNat:Nat):Int)-48)) (Ws O O (by have:=UInt8.toNat_lt (t[q]' Aa);rw[IntKind.wrap_u8];omega)) ?_;refine Ba (Gb O) (Eb (Wa ?_));exact Qb ⟨((((t[q]' Aa).toNat:Nat):Int)-48),(by first|exact dg_a hdg|exact dg_b hdg hlo),(hB),⟨rfl,rfl,rfl,rfl,rfl,rfl,rfl,rfl,rfl,rfl,rfl,trivial⟩,hF⟩;have hdg:=of_decide_eq_false (hbd.symm.trans hc13);refine Fa (Eh (λσ w=>∃(bd:Bool),(bd=decide (97<=Vl (t[q]' Aa)/\Vl (t[q]' Aa)<=122))/\(∀j (hj:j<t.length),w.cell? ((⟨bb,0,none⟩:Addr).add (j*1))=some (.int .u8 (t[j].toNat:Int)))/\AllEq σ [(1,J 16),(8,.bool false),(9,I t),(10,.int .u64 1152921504606846976),(11,.int .u64 4294967295),(12,.bool false),(13,.int .u64 ((vH (t.take q):Nat))),(15,.int .u8 ((((t[q]' Aa).toNat:Nat):Int))),(99,W bb t.length kb),(100,J ((t.length:Nat))),(101,J ((q:Int))),(121,.bool (bd))]/\FR w0 [] [] w) ?_ ?_);refine Ja (Ba (Cb O) ?_);refine Ta (TC (t[q]' Aa) _) (Ma VL O O) ?_
 rintro _ w ⟨rfl,hE⟩;have hF:=hF.ext hE;have hB:=Rw hE hB;refine Ba (NM O O) (Ba (Sc O) ?_);refine Wb (d:=125) O (λhg2=>?_) (λhg2=>?_);refine Ba (Cb O) (Ta (TC (t[q]' Aa) _) (Ma VL O O) ?_);rintro _ w ⟨rfl,hE⟩;have hF:=hF.ext hE;have hB:=Rw hE hB;refine Ba (NM O O) (Ba (Fc O O) (Ba (Kb O) (Eb ?_)));exact Qb ⟨(decide ((Vl (t[q]' Aa):Int)<=(122:Int))),(by symm;first|(rw[decide_eq_true_iff];omega)|(rw[decide_eq_false_iff_not];omega)|(rw[decide_eq_decide];omega)),(hB),⟨rfl,rfl,rfl,rfl,rfl,rfl,rfl,rfl,rfl,rfl,rfl,rfl,trivial⟩,hF⟩;refine Ha (Ha (Ha (Ba (Pc O O) (Ba (Kb O) (Eb ?_)))));exact Qb ⟨(false),(by symm;first|(rw[decide_eq_true_iff];omega)|(rw[decide_eq_false_iff_not];omega)|(rw[decide_eq_decide];omega)),(hB),⟨rfl,rfl,rfl,rfl,rfl,rfl,rfl,rfl,rfl,rfl,rfl,rfl,trivial⟩,hF⟩;rintro σ w ⟨bd,hbd,hB,hs,hF⟩;refine Eg.slots hs ?_;clear hs;intro σ;refine Ga (He O O (λhc14=>?_) (λhc14=>?_));have hlo:=of_decide_eq_true (hbd.symm.trans hc14);refine Ja (Ba (Cb O) ?_);refine Ta (TC (t[q]' Aa) _) (Ma VL O O) ?_;rintro _ w ⟨rfl,hE⟩;have hF:=hF.ext hE;have hB:=Rw hE hB;refine Ia (v:=.int .u8 (Vl (t[q]' Aa)-97)) (Ws O O (by have:=DP (t[q]' Aa);rw[IntKind.wrap_u8];omega)) ?_;refine Ia (v:=.int .u8 (Vl (t[q]' Aa)-87)) (Kr O O (by have:=DP (t[q]' Aa);rw[IntKind.wrap_u8];omega)) ?_;refine Ba (Gb O) (Eb (Wa ?_));exact Qb ⟨(Vl (t[q]' Aa)-87),(by first|exact dg_a hdg|exact dg_b hdg hlo),(hB),⟨rfl,rfl,rfl,rfl,rfl,rfl,rfl,rfl,rfl,rfl,rfl,trivial⟩,hF⟩;have hlo:=of_decide_eq_false (hbd.symm.trans hc14);refine Da (Ia (w':=w) (v:=.iface 301 (J 2)) Ib ?_);refine Ba (Gb O) (Ba (Yr) (Ca ?_));refine Xa (Va (Ka (Jc (v:=.int .u64 0) (x:=.iface (301) (J 2)) O O O) ?_));exact⟨_,_,O,.inr ⟨Bs (s:=t) (p:=q) Aa (hx_out hdg hlo),O,O⟩,hF.same⟩
 rintro σ w ⟨d,hd,hB,hs,hF⟩;refine Eg.slots hs ?_;clear hs;intro σ;refine Ga (Fa (Da (Ba (Cb O) (Ba (Cb O) (Ia (v:=.int .u8 16) (Yd gX kX O Oa) (Ba (V2 O O) (Ca ?_)))))));refine Lb O O (λhc15=>?_) (λhc15=>?_);refine Da (Ia (w':=w) (v:=.iface 301 (J 2)) Ib ?_);refine Ba (Gb O) (Ba (Yr) (Ca ?_));refine Xa (Va (Ka (Jc (v:=.int .u64 0) (x:=.iface (301) (J 2)) O O O) ?_));exact⟨_,_,O,.inr ⟨Bs (s:=t) (p:=q) Aa (hx_big hd Aa),O,O⟩,hF.same⟩;refine Na (Ga (Fa (Fa ?_)));have hxq:=UW hd Aa;refine Ja (Ba (Cb O) (Ba (Cb O) ?_));refine Ia (v:=.bool false) (Id (x_geq O O) (by have:=pow4 (show q<=4 by omega);omega)) ?_;refine Ca (Dr O (Da (Ba (Cb O) (Ba (Cb O) (Ia (v:=.int .u64 16) (Yd gX fX O Oa) ?_)))));refine Ia (v:=.int .u64 (((vH (t.take q)*16:Nat):Int))) (DA O O (by have:=pow4 (show q<=4 by omega);rw[IntKind.wrap_u64];omega)) ?_;refine Ba (Gb O) (Ob (Ba (Cb O) (Ba (Cb O) ?_)));refine Ia (v:=.int .u64 (((I3 (t[q]' Aa):Nat):Int))) (Yd kX fX O (by have:=BE hxq;have:=hd.1 hxq;rw[IntKind.wrap_u64];omega)) ?_;refine Ia (v:=.int .u64 (((vH (t.take (q+1)):Nat):Int))) (Kr O O (by have:=pow4 (show q<=4 by omega);have:=BE hxq;rw[IntKind.wrap_u64,AD hql];omega)) ?_;refine Ba (Gb O) (Ca (Fa (Da (Ba (Cb O) (Ba (Cb O) ?_)))));refine Ia (v:=.bool false) (Id (Q1 O O) (by have:=AD hql;omega)) ?_;refine Ba (Sc O) (Ba (Cb O) (Ba (Cb O) ?_));refine Ia (v:=.bool false) (Id (RH O O) (by have:=pow4 (show q+1<=4 by omega);have:=vH_lt hql hv hxq;omega)) ?_;refine Ba (Pc O O) (Ca (Dr O (Ja (Ba (Cb O) (Ba (Gb O) (Eb (Wa (Ga (Ja (Ba (Un (((q+1:Nat):Int)) O O) ?_))))))))));refine Ba (Cb O) (Eb ?_);refine Qb ⟨_,?_,q+1,O,Aa,(Kw Aa hal hxq),(vH_lt Aa hv hxq),(hB),⟨O,O,O,O,O,O,O,O,O,O,trivial⟩,hF⟩;omega;refine Ic (Ec O ?_);refine Ga (Fa (Da (Ba (Sc O) (Ba (Sc O) (Ha (Ha (Ha (Ba (Pc O O) (Ca (Te O (Na ?_)))))))))))
 refine Ga (Da (Ba (Cb O) (Ba (Gb O) (Ba (Yr) (Ca ?_)))));refine Xa (Va (Ka (Jc (v:=.int .u64 ((vH (t.take q):Nat))) (x:=.nilIface) O O O) ?_));exact⟨_,_,O,.inl ⟨by rw[<-List.take_of_length_le (show t.length<=q by omega)];exact hal,by rw[List.take_of_length_le (show t.length<=q by omega)],O⟩,hF.same⟩
theorem N4(t:Str)(h4:t.length=4)(ha:t.all Sh=true)(w0:World):Calls prog 314 #[I t,J 16,J 32] w0 (Oc λv w'=>v=.tuple #[.int .u64 (vH t:Int),.nilIface]/\Same [] w0 w') :=
  (Ry t h4 w0).mono λe w' he=>by
    obtain⟨v,e1,n,er,rfl,h,hs⟩:=he;rcases h with ⟨-,rfl,rfl⟩|⟨h,-,-⟩
    ·exact⟨_,e1,O,hs⟩
    rw[ha]at h;cases h
theorem W6(t:Str)(h4:t.length=4)(ha:t.all Sh=false)(w0:World):Calls prog 314 #[I t,J 16,J 32] w0 (Oc λv w'=>v=.tuple #[.int .u64 0,.iface 301 (J 2)]/\Same [] w0 w') :=
  (Ry t h4 w0).mono λe w' he=>by
    obtain⟨v,e1,n,er,rfl,h,hs⟩:=he;rcases h with ⟨h,-,-⟩|⟨-,rfl,rfl⟩
    ·rw[ha]at h;cases h
    exact⟨_,e1,O,hs⟩
theorem X8(t:Str)(h4:t.length=4)(ha:t.all Sh=true)(w0:World)(hG:Gl w0):Calls prog 330 #[I t,J 16,J 32] w0 (Oc λv w'=>v=.tuple #[.int .u64 (vH t:Int),.nilIface]/\Same [] w0 w'):=by
 refine Ea func330 O ntmps330 Bb (Li _ _ _) ?_;have hF:=FR.start w0 [];refine Da (Ba (Gb O) (Ba (Yr) (Ob (Ba (Pd O) (Ba (Cb O) (Ba (Cb O) ?_))))));refine Qa hF (N4 t h4 ha _) (De UV O O O O) ?_;intro w hF;refine Ba (Aj O) (Ba (Nh O O) (Ba (yxu O O) (Ba (Gb O) (Ba (Yr) (Ca (Fa (Da (Ba (Vp) (Ia (v:=.bool false) (KA zZ O O) (Ca ?_))))))))));refine Dr O (Da (Ba (Cb O) (Ba (Gb O) (Ba (Yr) (Ca ?_)))));refine Xa (Va (Ka (Jc (v:=.int .u64 ((vH t:Int))) (x:=.nilIface) O O O) ?_));exact⟨O,hF.same⟩
theorem L8(t:Str)(h4:t.length=4)(ha:t.all Sh=false)(w0:World)(hG:Gl w0):Calls prog 330 #[I t,J 16,J 32] w0 (Oc λv w'=>∃tp q,v=.tuple #[.int .u64 0,.iface tp q]/\Same [] w0 w'):=by
 refine Ea func330 O ntmps330 Bb (Li _ _ _) ?_;have hF:=FR.start w0 [];refine Da (Ba (Gb O) (Ba (Yr) (Ob (Ba (Pd O) (Ba (Cb O) (Ba (Cb O) ?_))))));refine Qa hF (W6 t h4 ha _) (De UV O O O O) ?_;intro w hF;refine Ba (Aj O) (Ba (Nh O O) (Ba (yxu O O) (Ba (Gb O) (Ba (Yr) (Ca (Fa (Da (Ba (Vp) (Ia (v:=.bool true) (M2 zZ O O) (Ca ?_))))))))));refine Od O (Da (Ba (Cb O) (Ba (Pd O) (Ba (Cb O) (Ba (Cb O) (Ba (Vp) ?_))))));refine Ta (QS [80,97,114,115,101,85,105,110,116] t 16 32 _ Aa (hG.ext hF.same)) (Ts en_295 O O O O O O) ?_;rintro _ w ⟨tp,qq,rfl,hE⟩;have hF:=hF.ext hE;refine Ba (Gb O) (Ba (Yr) (Ca ?_));refine Xa (Va (Ka (Jc (v:=.int .u64 0) (x:=(.iface tp qq)) O O O) ?_));exact⟨_,_,O,hF.same⟩
theorem DR{P:Program}{w:World}{ρ:Operand->Value}{dst:Option Nat}{ty:TypeId}{pos:String}{aft:Array Edge}{g:Option (Nat × Bool)}{t t':TypeId}{x:Operand}(ht:P.underlying t=some (.interface (P.methodsAt t)))(hx:ρ x=.nilIface)(hy:ρ (.const .nilIface)=.nilIface):(execOp ρ ⟨dst,.binOp .eql t x (.const .nilIface) t',ty,pos,aft,g⟩).run P w=.ok (.value (.bool true)) w:=by
  have h:=run_eql_nil_nil (P:=P) (w:=w) t ht;have hg:(eqGuard .eql t x (.const .nilIface) .nilIface .nilIface).run P w=.ok () w:=by simp[eqGuard]
  simp only[execOp,hx,hy,Sem.run_bind,hg,Result.andThen_ok,h,Sem.run_pure]
theorem XG{P:Program}{w:World}{ρ:Operand->Value}{dst:Option Nat}{ty:TypeId}{pos:String}{aft:Array Edge}{g:Option (Nat × Bool)}{t t':TypeId}{x:Operand}{tp:TypeId}{p:Value}(ht:P.underlying t=some (.interface (P.methodsAt t)))(hx:ρ x=.iface tp p)(hy:ρ (.const .nilIface)=.nilIface):(execOp ρ ⟨dst,.binOp .eql t x (.const .nilIface) t',ty,pos,aft,g⟩).run P w=.ok (.value (.bool false)) w:=by
  have h:=run_eql_held_nil (P:=P) (w:=w) t tp p ht;have hg:(eqGuard .eql t x (.const .nilIface) (.iface tp p) .nilIface).run P w=.ok () w:=by simp[eqGuard]
  simp only[execOp,hx,hy,Sem.run_bind,hg,Result.andThen_ok,h,Sem.run_pure]
theorem TO{s:Str}(h:4<=s.length)(hc:∃c∈s.take 4,Sh c=false):Fl s=none:=by
  obtain⟨c,hm,hx⟩:=hc;rw[Vz h,if_neg];intro ha;rw[List.all_eq_true.1 ha c hm]at hx;cases hx
theorem vH_lt4{t:Str}(h4:t.length=4)(ha:t.all Sh=true):vH t<65536:=by
  have h:=Ey (s:=t) (h:=vH t) (by rw[Vz Aa,List.take_of_length_le Aa,if_pos ha]);exact h.1
theorem four_c(s:Str)(w0:World)(hG:Gl w0):Calls prog 328 #[I s] w0 (Oc λv w'=>v=.tuple #[.int .i32 (((Fl s).getD 0:Nat):Int),.bool (Fl s).isSome]/\Same [] w0 w'):=by
 refine Ea func328 O ntmps328 Bb (Tb _) ?_;have hF:=FR.start w0 [];refine Da (Ba (Gb O) (Ba (Kb O) (Ca (Fa (Da (Ba (Pd O) (Ba (Rp oX O) (Ba (Dl O O) (Ba (Sc O) ?_)))))))));refine Wb (d:=9) O (λhg0=>?_) (λhg0=>?_);refine Ha (Ha (Ha (Ba (Fc O O) (Ca (Od O (Da (Ba (Gb O) (Ba (Kb O) (Ca ?_)))))))));refine Xa (Va (Ka (Jc (v:=.int .i32 0) (x:=.bool false) O O O) ?_))
 first|(rw[Y1 Aa];exact⟨rfl,hF.same⟩)|(rw[TO Aa (hb (by assumption))];exact⟨rfl,hF.same⟩)
 refine Ba (Pd O) (Ia (v:=I ((s:Str).take (4))) (Kz (4) oX O O Aa) ?_);refine Ta (E4 (s.take 4) (by rw[List.length_take];omega) _) (Ua en_329 O O O) ?_;rintro _ w ⟨b,rfl,hb,hE⟩;have hF:=hF.ext hE;refine Ba (Pc O O) (Ca ?_);refine He O O (λhc0=>?_) (λhc0=>?_);refine Da (Ba (Gb O) (Ba (Kb O) (Ca ?_)));refine Xa (Va (Ka (Jc (v:=.int .i32 0) (x:=.bool false) O O O) ?_))
 first|(rw[Y1 Aa];exact⟨rfl,hF.same⟩)|(rw[TO Aa (hb (by assumption))];exact⟨rfl,hF.same⟩)
 refine Na (Ga (Da (Ba (Pd O) (Ia (v:=I ((s:Str).take (4))) (Kz (4) oX O O Aa) ?_))));rcases Bool.eq_false_or_eq_true ((s.take 4).all Sh)with ha|ha
 refine Qa hF (X8 (s.take 4) (by rw[List.length_take];omega) ha _ (hG.ext hF.same)) (De en_330 O O O O) ?_;intro w hF;refine Ba (Aj O) (Ba (Nh O O) (Ba (yxu O O) (Ba (Gb O) (Ba (Yr) (Ca (Fa ?_))))));refine Be (zs:=.of []) (bQ [0,1,2,3,4,5] .nil) hF ?_;intro w hF;refine Hb O (Cb O) ?_;refine Ab O (v:=.int .i32 ((vH (s.take 4):Int))) (λw hC=>Yd fX cX O (by have:=vH_lt4 (by rw[List.length_take];omega) ha;exact Js Aa Aa)) ?_;refine Hb O (Vp) (Ab O (v:=.bool true) (λw hC=>DR zZ O O) (Hb O (Gb O) (Hb O (Kb O) (d_nil (Ga ?_)))));refine Xa (Va (Ka (Jc (v:=.int .i32 ((vH (s.take 4):Int))) (x:=.bool true) O O O) ?_));rw[Vz Aa]
 first|(rw[if_pos ha];exact⟨rfl,hF.same⟩)|(rw[if_neg (by rw[ha];decide)];exact⟨rfl,hF.same⟩)
 refine Ta (L8 (s.take 4) (by rw[List.length_take];omega) ha _ (hG.ext hF.same)) (De en_330 O O O O) ?_;rintro _ w ⟨tp,qq,rfl,hE⟩;have hF:=hF.ext hE;refine Ba (Aj O) (Ba (Nh O O) (Ba (yxu O O) (Ba (Gb O) (Ba (Yr) (Ca (Fa ?_))))));refine Be (zs:=.of []) (bQ [0,1,2,3,4,5] .nil) hF ?_;intro w hF;refine Hb O (Cb O) (Ab O (v:=.int .i32 0) (λw hC=>Yd fX cX O Oa) (Hb O (Vp) (Ab O (v:=.bool false) (λw hC=>XG zZ O O) (Hb O (Gb O) (Hb O (Kb O) (d_nil (Ga ?_)))))));refine Xa (Va (Ka (Jc (v:=.int .i32 0) (x:=.bool false) O O O) ?_));rw[Vz Aa]
 first|(rw[if_pos ha];exact⟨rfl,hF.same⟩)|(rw[if_neg (by rw[ha];decide)];exact⟨rfl,hF.same⟩)
theorem or_a{b c:Bool}(h:b=true):true=(b || c):=by rw[h];rfl
theorem NR{a b c:Bool}(h:b=false)(h2:c=a):a=(b || c):=by rw[h,h2];rfl
theorem EW(s q:Str)(w:World):Calls prog 291 #[I s,I q] w (Oc λv w'=>v=.bool (Lib.hasPrefix s q)/\Same [] w w'):=Nj (strings_HasPrefix (bs s) (bs q) w)
theorem TQ{l:Str}(h:Lib.hasPrefix l [92,117]=true):2<=l.length/\l.take 2=[92,117]:=by
  match l,h with
  | a :: b :: r, h =>
    simp only[Lib.hasPrefix,List.isPrefixOf,Bool.and_true,Bool.and_eq_true,beq_iff_eq]at h;obtain⟨rfl,rfl⟩:=h;exact⟨by simp,O⟩
  | [a],h=>simp[Lib.hasPrefix,List.isPrefixOf]at h
  | [],h=>simp[Lib.hasPrefix,List.isPrefixOf]at h
theorem pre_not{l:Str}(h:Lib.hasPrefix l [92,117]=false):¬l.take 2=[92,117]:=by
  intro e
  match l,h,e with
  | a :: b :: r, h, e =>
    simp only[List.take_succ_cons,List.take_zero,List.cons.injEq,and_true]at e;obtain⟨rfl,rfl⟩:=e;simp[Lib.hasPrefix,List.isPrefixOf]at h
  | [a],h,e=>cases e
  | [],h,e=>cases e
structure F4 (s:Str) (h:Nat) (i:Bool):Prop where
  y:i=true->Fl s=some h/\h<65536/\4<=s.length
  n:i=false->Fl s=none
theorem four_o(s:Str)(w0:World)(hG:Gl w0):Calls prog 328 #[I s] w0 (Oc λv w'=>∃(h:Nat)(i:Bool),v=.tuple #[.int .i32 (h:Int),.bool i]/\F4 s h i/\Same [] w0 w') :=
  (four_c s w0 hG).mono λe w' he=>by
    obtain⟨v,e1,rfl,hs⟩:=he;refine⟨_,e1,_,_,O,⟨λhi=>?_,λhi=>?_⟩,hs⟩
    ·obtain⟨h, hh⟩ := Option.isSome_iff_exists.1 hi
     rw[hh];exact⟨O,Ey hh⟩
    simpa using hi
theorem F4.yes{s:Str}{h:Nat}{i:Bool}{P:Prop}[Decidable P](hf:F4 s h i)(hb:(!i || decide P)=false):Fl s=some h/\¬P/\h<65536/\4<=s.length:=by
  rw[Bool.or_eq_false_iff]at hb;have:=hf.y (by simpa using hb.1);exact⟨this.1,of_decide_eq_false hb.2,this.2⟩
theorem uni_a{s:Str}{h:Nat}{i:Bool}(hf:F4 (s.drop 2) h i)(hb:(!i || decide (56320<=((h:Nat):Int)/\((h:Nat):Int)<57344))=true):Qf s=(0,0):=by
  unfold Qf;cases i with
  | false=>rw[hf.n rfl]
  | true =>
    rw[(hf.y rfl).1];have:=of_decide_eq_true ((Bool.false_or _).symm.trans hb);simp only;rw[if_pos (show 56320<=h/\h<57344 by omega)]
theorem uni_b{s:Str}{h:Nat}(h1:Fl (s.drop 2)=some h)(h2:¬(56320<=((h:Nat):Int)/\((h:Nat):Int)<57344))(h3:((h:Nat):Int)<55296\/57344<=((h:Nat):Int)):Qf s=(h,6):=by
  unfold Qf;rw[h1];simp only;rw[if_neg (show ¬(56320<=h/\h<57344) by omega),if_pos (show h<55296\/57344<=h by omega)]
theorem uni_c{s:Str}{h:Nat}(h1:Fl (s.drop 2)=some h)(h2:¬(56320<=((h:Nat):Int)/\((h:Nat):Int)<57344))(h3:¬(((h:Nat):Int)<55296\/57344<=((h:Nat):Int)))(hp:Lib.hasPrefix (s.drop 6) [92,117]=false):Qf s=(0,0):=by
  unfold Qf;rw[h1];simp only;rw[if_neg (show ¬(56320<=h/\h<57344) by omega),if_neg (show ¬(h<55296\/57344<=h) by omega),if_neg (pre_not hp)]
theorem uni_d{s:Str}{h:Nat}(h1:Fl (s.drop 2)=some h)(h2:¬(56320<=((h:Nat):Int)/\((h:Nat):Int)<57344))(h3:¬(((h:Nat):Int)<55296\/57344<=((h:Nat):Int)))(hp:Lib.hasPrefix (s.drop 6) [92,117]=true) :
    Qf s=(match Fl (s.drop 8)with|none=>(0,0)|some l=>if l<56320\/57344<=l then (0,0) else (65536+(h-55296)*1024+(l-56320),12)):=by
  unfold Qf;rw[h1];simp only;rw[if_neg (show ¬(56320<=h/\h<57344) by omega),if_neg (show ¬(h<55296\/57344<=h) by omega),if_pos (TQ hp).2];cases Fl (s.drop 8) <;> rfl
theorem uni_e{X:Str}{l h:Nat}{j:Bool}(hf:F4 X l j)(hb:(!j || decide (((l:Nat):Int)<56320\/57344<=((l:Nat):Int)))=true):(match Fl X with|none=>(0,0)|some l=>if l<56320\/57344<=l then (0,0) else (65536+(h-55296)*1024+(l-56320),12))=(0,0):=by
  cases j with
  | false=>rw[hf.n rfl]
  | true =>
    rw[(hf.y rfl).1];have:=of_decide_eq_true ((Bool.false_or _).symm.trans hb);simp only;rw[if_pos (show l<56320\/57344<=l by omega)]
theorem two_eq{a b c d:Int}(h1:a=b)(h2:c=d):Value.tuple #[.int .i32 a,J c]=.tuple #[.int .i32 b,J d]:=by rw[h1,h2]
theorem UT(s:Str)(h2:2<=s.length)(w0:World)(hG:Gl w0):Calls prog 321 #[I s] w0 (Oc λv w'=>v=.tuple #[.int .i32 ((Qf s).1:Nat),J ((Qf s).2:Nat)]/\Same [] w0 w'):=by
 refine Ea func321 O ntmps321 Bb (Tb _) ?_;have hF:=FR.start w0 [];refine Da (Ba (Gb O) (Ba (Gb O) (Ob (Ba (Pd O) (Ia (v:=I ((s:Str).drop (2))) (An (2) oX O O Aa) ?_)))));refine Ta (four_o (s.drop 2) _ (hG.ext hF.same)) (Ma FW O O) ?_;rintro _ w ⟨h,i,rfl,hf,hE⟩;have hF:=hF.ext hE;refine Ba (Aj O) (Ba (Nh O O) (Ba (Xn O O) (Ba (Gb O) (Ba (Kb O) (Ca (Fa (Sa (Fa ?_))))))));refine Eh (λσ w=>∃(bd:Bool),(bd=(!i || decide (56320<=((h:Nat):Int)/\((h:Nat):Int)<57344)))/\AllEq σ [(0,I s),(4,.int .i32 (((h:Nat):Int))),(13,.bool (bd))]/\FR w0 [] [] w) ?_ ?_;refine Da (Ba (Sc O) (Ba (Wi O) (Ba (Kb O) (Ca ?_))));refine He O O (λhc0=>?_) (λhc0=>?_);refine Na ?_;exact Qb ⟨(true),(by first|exact or_a hc0|exact NR hc0 (by rw[decide_eq_true_iff];omega)),Tu,hF⟩;refine Ja (Ba (Cb O) (Ba (V2 O O) (Ba (Sc O) ?_)));refine Wb (d:=18) O (λhg0=>?_) (λhg0=>?_);refine Ba (Cb O) (Ba (Dl O O) (Ba (Fc O O) (Ba (Kb O) (Eb ?_))));exact Qb ⟨(decide ((((h:Nat):Int):Int)<(57344:Int))),(NR hc0 (by rw[decide_eq_decide];omega)),Tu,hF⟩;refine Ha (Ha (Ba (Pc O O) (Ba (Kb O) (Eb ?_))));exact Qb ⟨(false),(NR hc0 (by rw[decide_eq_false_iff_not];omega)),Tu,hF⟩;rintro σ w ⟨bd,hbd,hs,hF⟩;refine Eg.slots hs ?_;clear hs;intro σ;refine Ga (He O O (λhc1=>?_) (λhc1=>?_));have hx1:=hbd.symm.trans hc1;refine Da (Ba (Gb O) (Ba (Gb O) (Ca ?_)));refine Xa (Va (Ka (Jc (v:=.int .i32 0) (x:=J 0) O O O) ?_));exact⟨by rw[uni_a hf hx1];rfl,hF.same⟩;have hx1:=hbd.symm.trans hc1;obtain⟨hy1,hy2,hy3,hy4⟩:=hf.yes hx1;refine Fa (Eh (λσ w=>∃(bd:Bool),(bd=decide (((h:Nat):Int)<55296\/57344<=((h:Nat):Int)))/\AllEq σ [(0,I s),(4,.int .i32 (((h:Nat):Int))),(22,.bool (bd))]/\FR w0 [] [] w) ?_ ?_);refine Ja (Ba (Cb O) (Ba (Dl O O) (Ba (Sc O) ?_)));refine Wb (d:=25) O (λhg1=>?_) (λhg1=>?_);refine Ha (Ha (Ba (Fc O O) (Ba (Kb O) (Eb ?_))))
 exact Qb ⟨(true),(by symm;rw[decide_eq_true_iff];omega),Tu,hF⟩;refine Ba (Cb O) (Ba (V2 O O) (Ba (Pc O O) (Ba (Kb O) (Eb ?_))));exact Qb ⟨(decide ((57344:Int)<=(((h:Nat):Int):Int))),(by symm;rw[decide_eq_decide];omega),Tu,hF⟩;rintro σ w ⟨bd,hbd,hs,hF⟩;refine Eg.slots hs ?_;clear hs;intro σ;refine Ga (He O O (λhc2=>?_) (λhc2=>?_));have hd2:=of_decide_eq_true (hbd.symm.trans hc2);refine Da (Ba (Cb O) (Ba (Gb O) (Ba (Gb O) (Ca ?_))));refine Xa (Va (Ka (Jc (v:=.int .i32 (((h:Nat):Int))) (x:=J 6) O O O) ?_));exact⟨by rw[uni_b hy1 hy2 hd2];rfl,hF.same⟩;have hd2:=of_decide_eq_false (hbd.symm.trans hc2);refine Da (Ba (Pd O) ?_);refine Ia (v:=I ((s:Str).drop (6))) (An (6) oX O O (by rw[List.length_drop]at hy4;omega)) ?_;refine Qa hF (EW (s.drop 6) [92,117] _) (Ua en_291 O O O) ?_;intro w hF;refine Ba (Wi O) (Ba (Kb O) (Ca ?_));refine He O O (λhc3=>?_) (λhc3=>?_);have hpr:Lib.hasPrefix (s.drop 6) [92,117]=false:=by simpa using hc3
 refine Da (Ba (Gb O) (Ba (Gb O) (Ca ?_)));refine Xa (Va (Ka (Jc (v:=.int .i32 0) (x:=J 0) O O O) ?_));exact⟨by rw[uni_c hy1 hy2 hd2 hpr];rfl,hF.same⟩;have hpr:Lib.hasPrefix (s.drop 6) [92,117]=true:=by simpa using hc3
 refine Na (Wa (Ga (Da (Ba (Pd O) ?_))));refine Ia (v:=I ((s:Str).drop (8))) (An (8) oX O O (by have:=(TQ hpr).1;rw[List.length_drop]at this;omega)) ?_;refine Ta (four_o (s.drop 8) _ (hG.ext hF.same)) (Ma FW O O) ?_;rintro _ w ⟨l,j,rfl,hf2,hE⟩;have hF:=hF.ext hE;refine Ba (Aj O) (Ba (Nh O O) (Ba (Xn O O) (Ba (Gb O) (Ba (Kb O) (Ca (Fa (Fa ?_)))))));refine Eh (λσ w=>∃(bd:Bool),(bd=(!j || decide (((l:Nat):Int)<56320\/57344<=((l:Nat):Int))))/\AllEq σ [(4,.int .i32 (((h:Nat):Int))),(6,.int .i32 (((l:Nat):Int))),(50,.bool (bd))]/\FR w0 [] [] w) ?_ ?_;refine Ja (Ba (Sc O) (Ba (Wi O) (Ba (Sc O) ?_)));refine Je (d:=43) O (λhg2=>?_) (λhg2=>?_);refine Ha (Ha (Ba (Fc O O) (Ba (Sc O) (Ha (Ha (Ba (Fc O O) (Eb ?_)))))));exact Qb ⟨(true),(by first|exact or_a hg2|exact NR hg2 (by rw[decide_eq_true_iff];omega)),Tu,hF⟩;refine Ba (Cb O) (Ba (Dl O O) (Ba (Pc O O) (Ba (Sc O) ?_)));refine Wb (d:=47) O (λhg3=>?_) (λhg3=>?_);refine Ha (Ha (Ba (Fc O O) (Eb ?_)));exact Qb ⟨(true),(by first|exact or_a hg2|exact NR hg2 (by rw[decide_eq_true_iff];omega)),Tu,hF⟩;refine Ba (Cb O) (Ba (V2 O O) (Ba (Pc O O) (Eb ?_)));exact Qb ⟨(decide ((57344:Int)<=(((l:Nat):Int):Int))),(NR hg2 (by rw[decide_eq_decide];omega)),Tu,hF⟩;rintro σ w ⟨bd,hbd,hs,hF⟩;refine Eg.slots hs ?_;clear hs;intro σ;refine Ga (He O O (λhc4=>?_) (λhc4=>?_));have hx4:=hbd.symm.trans hc4;refine Da (Ba (Gb O) (Ba (Gb O) (Ca ?_)));refine Xa (Va (Ka (Jc (v:=.int .i32 0) (x:=J 0) O O O) ?_));exact⟨by rw[uni_d hy1 hy2 hd2 hpr,uni_e hf2 hx4];rfl,hF.same⟩;have hx4:=hbd.symm.trans hc4;obtain⟨hz1,hz2,hz3,hz4⟩:=hf2.yes hx4;refine Na (Ga (Da (Ba (Cb O) (Ia (v:=.int .i32 (((h:Nat):Int)-55296)) (Ws O O (Js Aa Aa)) (Ia (v:=.int .i32 ((((h:Nat):Int)-55296)*1024)) (DA O O (Js Aa Aa)) (Ia (v:=.int .i32 (65536+(((h:Nat):Int)-55296)*1024)) (Kr O O (Js Aa Aa)) (Ba (Cb O) (Ia (v:=.int .i32 (65536+(((h:Nat):Int)-55296)*1024+((l:Nat):Int))) (Kr O O (Js Aa Aa)) (Ia (v:=.int .i32 (65536+(((h:Nat):Int)-55296)*1024+((l:Nat):Int)-56320)) (Ws O O (Js Aa Aa)) (Ba (Gb O) (Ba (Gb O) (Eb ?_))))))))))))
 refine Ga (Xa (Va (Ka (Jc (v:=.int .i32 (65536+(((h:Nat):Int)-55296)*1024+((l:Nat):Int)-56320)) (x:=J 12) O O O) ?_)));refine⟨?_,hF.same⟩;rw[uni_d hy1 hy2 hd2 hpr,hz1];simp only;rw[if_neg (show ¬(l<56320\/57344<=l) by omega)];exact two_eq Aa O
theorem UniC.all(t:Str):UniC t:=λk w hG h0 h1=>UT (t.drop k) (by obtain⟨h,-⟩:=List.getElem?_eq_some_iff.1 h1;omega) w hG
end Go.Scarf
