/- A part of the proof. -/
import Derived.Test.YtidlkjpohhbbcaaGreatDoorQ1
import Derived.Scope
import Derived.Laws.Runes
import Derived.Lib.ConvBytes
set_option linter.all false
set_option maxHeartbeats 8000000
set_option maxRecDepth 10000
namespace Go.Scarf
open Go.RowKit Go.Proofs Go.Proofs.Tryz
section
variable {P:Program}{R:Exit->Act->World->Prop}{n:Nat}{k:Kt}{s:Nat->Value}{w:World}
theorem MP{c:Code}(h:Cg P (Exit.noGoto (k.post P R)) n c .done s w):Cg P R n (.scope c) k s w:=by
  unfold Cg at *;exact wp_scope_straight h
theorem D1(h:Eg P R n .ret k s w):(Exit.noGoto (k.post P R)) .ret (Jl n s) w:=by
  unfold Eg at h;exact h
end
theorem NN{P:Program}{w:World}{ρ:Operand->Value}{dst:Option Nat}{ty:TypeId}{pos:String}{aft:Array Edge}{g:Option (Nat × Bool)}{t t':Nat}{x:Operand}{k:IntKind}{r:Int}{d:TypeDesc}{e:Str}(ht:P.underlying t=some d)(ht':P.underlying t'=some .string)(hx:ρ x=.int k r)(he:Utf8.encode r=bs e) :
    (execOp ρ ⟨dst,.convert t t' x,ty,pos,aft,g⟩).run P w=.ok (.value (I e)) w:=by
  have h:=run_convert_int_string (P:=P) w t t' k r (by rw[ht];rfl) ht';rw[he]at h;simp[execOp,hx,h]
theorem GH(r:Int)(w:World):Calls prog 308 #[.int .i32 r] w (Oc λv w'=>v=.bool (Lib.validRune r)/\Same [] w w'):=Nj (utf8_ValidRune r w)
theorem dec3{q:Nat}(h:q<([43,45,95]:Str).length):(Utf8.decode (bs ([43,45,95]:Str)) q).1<128/\(Utf8.decode (bs ([43,45,95]:Str)) q).2=1:=by
  have h3:q<3:=h;rcases (by omega:q=0\/q=1\/q=2)with rfl|rfl|rfl <;> decide +kernel
theorem byte3:∀q (h:q<([43,45,95]:Str).length),(([43,45,95]:Str)[q]' h).toNat<128:=by decide
theorem enc_bs{r:Int}(h:128<=r)(hv:Lib.validRune r=true):∃e:Str,Utf8.encode r=bs e/\1<=e.length/\e.length<=4/\∀h:e.length-1<e.length,128<=(e[e.length-1]' h).toNat:=by
  by_cases hu:Utf8.valid r=true
  ·obtain⟨h1, h2, h3⟩ := encode_facts r hu h
   exact⟨(Utf8.encode r).data.toList,by cases Utf8.encode r;rfl,by show 1<=(Utf8.encode r).size;omega,h2,λhh=>h3 hh⟩
  have e:Utf8.encode r=Utf8.encode 65533:=by
    unfold Utf8.encode;rw[if_neg hu];rfl
  rw[e];exact⟨[239,191,189],by decide +kernel,by decide,by decide,by decide⟩
theorem XV{s:Str}{p:Nat}(h:p<s.length)(hd:(Utf8.decode (bs s) p).1<128):s[p].toNat=(Utf8.decode (bs s) p).1:=by
  have hs:p<(bs s).size:=h;by_cases ha:(s[p]).toNat<128
  ·have hd := decode_ascii (bs s) p hs ha
   rw[hd];rfl
  have := decode_high (bs s) p hs (by show 128 <= (s[p]).toNat;omega);omega
theorem in3:∀r<128,0<=Lib.indexByte ([43,45,95]:Str) (UInt8.ofNat r)->r=43\/r=45\/r=95:=by decide +kernel
theorem hx3:∀c:Nat,(c=43\/c=45\/c=95)->Sh (UInt8.ofNat c)=false:=by rintro c (rfl|rfl|rfl) <;> decide
theorem none3{c:UInt8}(hc:128<=c.toNat)(k:Nat):Lib.indexByte (([43,45,95]:Str).drop k) c<0:=by
  by_cases h:Lib.indexByte (([43,45,95]:Str).drop k) c<0
  ·exact h
  have hm := Mr (Int.not_lt.1 h);rw[List.contains_iff_mem]at hm;have hm:=List.mem_of_mem_drop hm;simp only[oQ,List.not_mem_nil,or_false]at hm;rcases hm with rfl|rfl|rfl <;> simp at hc
theorem WD(r:Int)(h128:128<=r)(w0:World):Calls prog 288 #[I [43,45,95],.int .i32 r] w0 (Oc λv w'=>v=J (-1)/\Same [] w0 w'):=by
 refine Ea func288 O ntmps288 Bb (Nc _ _) ?_;have hF:=FR.start w0 [];refine Da (Ba (Gb O) (Ca (Sa (Da (Ba (Cb O) (Ia (v:=.bool true) (Me (QO O O) Aa) (Ba (Sc O) (Ba (Cb O) (Ia (v:=.bool false) (Id (Q1 O O) Aa) (Ba (Fc O O) ?_))))))))));refine Ba (Kb O) (Ca (Te O (Da (Ba (Cb O) (Ba (Xh O O) (Ba (Kb O) (Ca ?_)))))));refine Lb O O (λhc1=>?_) (λhc1=>?_);refine Fa (Da (Ba (Pd O) ?_));refine Gr (str:=[43,45,95]) hF oX O ?_;rintro b1 w hb1 hF -;refine Ca (Sa ?_);refine Rc (λμ σ w=>∃(q:Nat),μ=3-q/\(q<=3)/\AllEq σ [(175,V b1)]/\FR w0 [] [(b1,.stringIter (bs [43,45,95]) (q))] w) _ ⟨0,O,Aa,ae1,hF⟩ ?_;rintro μ σ w ⟨q,rfl,hq,hs,hF⟩;refine Cg.slots hs ?_;clear hs;intro σ;refine Da ?_;by_cases hn0:(q)<([43,45,95]:Str).length;refine Yv 0 (p:=q) (str:=[43,45,95]) hF O O hn0 ?_;rintro w hF -;refine Ba (Xn O O) (Ca (Fa (Od O (Na (Ga (Sa (Da (Ba (Nh O O) (Ba (Nh O O) (Ba (Gb O) (Ba (Gb O) ?_)))))))))));refine Ob (Ba (Cb O) ?_);refine Ia (v:=.bool false) (Id (Sj O O) (by have:=dec3 (by assumption);omega)) ?_;refine Ca (Te O (Na (Wa ?_)));refine Qb ⟨_,?_,q+(Utf8.decode (bs [43,45,95]) (q)).2,O,(by have:=dec3 (by assumption);have h3:q<3:=(by assumption);omega),ae1,hF⟩;have:=dec3 (by assumption);have h3:q<3:=(by assumption);omega;refine Dm 0 (p:=q) (str:=[43,45,95]) hF O O hn0 (Ba (Xn O O) (Ca (Fa (Te O ?_))));refine Ic (Ec O ?_);refine Ga (Da (Ba (Gb O) (Ca ?_)));refine Lc (v:=J ((-1))) O O ?_;exact⟨O,hF.same⟩;refine Da (Ba (Cb O) ?_);refine Qa hF (GH r _) (Ma en_308 O O) ?_;intro w hF;refine Ba (Wi O) (Ba (Kb O) (Ca ?_));refine He O O (λhc4=>?_) (λhc4=>?_);refine Da (Ba (Gb O) (Ca ?_));refine Lc (v:=J ((-1))) O O ?_;exact⟨O,hF.same⟩;refine MP (Fa ?_);obtain⟨e,he,he1,he4,heh⟩:=enc_bs (r:=r) Aa (by simp_all);refine Ja (Ba (Cb O) (Ia (v:=I e) (NN cX oX O he) (Ba (Xf O) (Ob (Ba (Pd O) (Ba (Rp oX O) (Ba (TZ (((e.length-1:Nat):Int)) O O) (Ba (Gb O) (Ca ?_)))))))))
 refine Da (Ba (Cb O) (Ba (Gb O) (Ob (Ba (Gb O) (Ca (Fa (Sa ?_)))))));refine Rc (λμ σ w=>μ=0/\AllEq σ [(0,I [43,45,95]),(7,I e),(8,J (((e.length-1:Nat):Int))),(9,J (((e.length-1:Nat):Int)))]/\FR w0 [] [] w) _ ⟨O,Ur,hF⟩ ?_;rintro μ σ w ⟨rfl,hs,hF⟩;refine Cg.slots hs ?_;clear hs;intro σ;have h3l:(([43,45,95]:Str).length:Int)=3:=rfl;refine Fa (Da (Ba (Cb O) (Ba (Pd O) (Ba (Rp oX O) (Ba (Dl O O) (Ca ?_))))));refine Lb O O (λhc5=>?_) (λhc5=>?_);refine Na (Ga (Sa ?_));refine MP (Fa (Fa ?_));refine Be (zs:=.of []) (bQ [0,1,2,3,4,5,6] .nil) hF ?_;intro w hF;refine Hb O (Pd O) (Hb O (Cb O) ?_);refine Ab rfl (v:=.int .u8 (((([43,45,95]:Str)[e.length-1]'(by first|assumption|(show e.length-1<3;omega))).toNat:Int))) (λw hC=>Hg (e.length-1) oX rfl rfl (by first|assumption|(show e.length-1<3;omega))) ?_;refine Hb O (Pd O) (Hb O (Cb O) (Ab O (v:=.int .u8 ((((e:Str)[e.length-1]' Aa).toNat:Int))) (λw hC=>Hg (e.length-1) oX O O Aa) ?_));refine Ab O (v:=.bool true) (λw hC=>Me (YH O O) (by have h1:=byte3 (e.length-1) (by show e.length-1<3;omega);have h2:=heh Aa;omega)) ?_;refine d_nil (Ga (Od O (Fa ?_)));refine Be (zs:=.of []) (bQ [0,1,2,3,4,5,6] (.act 7 (.free 8 .nil))) hF ?_;intro w hF;refine Hb O (Pd O) (Hb O (Cb O) (Hb O (Un (((e.length-1+1:Nat):Int)) O O) ?_));refine Ab O (v:=I (([43,45,95]:Str).drop (e.length-1+1))) (λw hC=>An (e.length-1+1) oX O O (by show e.length-1+1<=3;omega)) ?_;refine Hb O (Pd O) (Hb O (Cb O) (Ab O (v:=.int .u8 ((((e:Str)[e.length-1]' Aa).toNat:Int))) (λw hC=>Hg (e.length-1) oX O O Aa) ?_));refine Vd hF (Mn (([43,45,95]:Str).drop (e.length-1+1)) (e[e.length-1]' Aa) _) O (Ua X4 O O O) ?_;intro w hF;refine⟨hF,?_⟩;refine Hb O (Gb O) (d_nil (Ga (Fa (Da (Ba (Cb O) (Ia (v:=.bool true) (Me (Q1 O O) (none3 (heh Aa) _)) (Ca (Od O (Da (Ba (Gb O) ?_))))))))))
 refine Ca (Xa (Va (D1 (Va (D1 (Va (Ka (Hy (v:=J ((-1))) O O) ?_)))))));exact⟨O,hF.same⟩;refine Ic (Ec O ?_);refine Ga (Fa (Da (Ba (Gb O) (Ca ?_))));refine Xa (Va (D1 (Va (Ka (Hy (v:=J ((-1))) O O) ?_))));exact⟨O,hF.same⟩
theorem O8(r:Nat)(w0:World):Calls prog 288 #[I [43,45,95],.int .i32 (r:Int)] w0 (Oc λv w'=>∃i:Int,v=J i/\(0<=i->r=43\/r=45\/r=95)/\Same [] w0 w'):=by
  by_cases h:r<128
  ·refine (Nj (strings_IndexRune_ascii (bs [43, 45, 95]) (r : Int) w0 Aa Aa)).mono λe w' he => ?_
   obtain⟨v,e1,rfl,hs⟩:=he;exact⟨_,e1,_,O,λhi=>in3 r h hi,hs⟩
  refine (WD (r : Int) Aa w0).mono λe w' he => ?_;obtain⟨v,e1,rfl,hs⟩:=he;exact⟨_,e1,_,O,λhi=>by omega,hs⟩
theorem RN(m:Nat)(w0:World):Calls prog 332 #[J (m:Int)] w0 (Oc λv w'=>v=.bool (decide ((8:Int)<(m:Int)))/\Same [] w0 w'):=by
 refine Ea func332 O ntmps332 Bb (Tb _) ?_;have hF:=FR.start w0 [];refine Da (Ba (Kb O) (Ob (Ba (Cb O) (Ba (Yx O O) (Ba (Kb O) (Ca ?_))))));refine Lc (v:=.bool _) O O ?_;exact⟨O,hF.same⟩
theorem PG(s:Str)(hs:s.length<=8)(w0:World):Calls prog 331 #[I s,I [43,45,95]] w0 (Oc λv w'=>∃i:Int,v=J i/\(0<=i->∃c∈s,Sh c=false)/\Same [] w0 w'):=by
 refine Ea func331 O ntmps331 Bb (Nc _ _) ?_;have hF:=FR.start w0 [];refine Da (Ba (Gb O) (Ca (Fa (Da (Ba (Pd O) (Ia (v:=.bool false) (Id (Ms O O) Oa) (Ca (Te O (Na ?_)))))))));refine Ga (Fa (Da (Ba (Pd O) (Ba (Rp oX O) (Ia (v:=.bool false) (Id (Sj O O) Oa) (Ca (Dr O (Fa (Fa ?_)))))))));refine Ja (Ba (Pd O) (Ba (Rp oX O) ?_));refine Qa hF (RN s.length _) (Ma en_332 O O) ?_;intro w hF;refine Ca (Lb O O (λhc3=>?_) (λhc3=>?_));exact absurd hc3 Aa;refine Na (Ga (Fa (Da (Ba (Pd O) ?_))));refine Gr (str:=s) hF oX O ?_;rintro b1 w hb1 hF -;refine Ca (Sa ?_);refine Rc (λμ σ w=>∃(q:Nat),μ=s.length-q/\(q<=s.length)/\AllEq σ [(1,I [43,45,95]),(45,V b1)]/\FR w0 [] [(b1,.stringIter (bs s) (q))] w) _ ⟨0,O,Aa,PC,hF⟩ ?_;rintro μ σ w ⟨q,rfl,hq,hs,hF⟩;refine Cg.slots hs ?_;clear hs;intro σ;refine Da ?_;by_cases hn0:(q)<(s:Str).length;refine Yv 0 (p:=q) (str:=s) hF O O hn0 ?_;rintro w hF -;refine Ba (Xn O O) (Ca (Fa (Od O (Na (Ga (Sa (Da (Ba (Nh O O) (Ba (Nh O O) (Ba (Gb O) (Ba (Gb O) ?_)))))))))));refine Ob (Ba (Pd O) (Ba (Cb O) ?_));refine Ta (O8 (Utf8.decode (bs s) q).1 _) (Ua en_288 O O O) ?_;rintro _ w ⟨i,rfl,hi,hE⟩;have hF:=hF.ext hE;refine Ba (V2 O O) (Ca ?_);refine Lb O O (λhc8=>?_) (λhc8=>?_);refine Da (Ba (Cb O) (Ba (Gb O) (Ca ?_)));refine Lc (v:=J (((q:Nat):Int))) O O ?_;have h3:=hi Aa;have hb:=XV (s:=s) (p:=q) Aa Aa;refine⟨_,O,λ_=>⟨s[q],eQ Aa,?_⟩,hF.same⟩;have h4:=hx3 _ h3;rw[<-hb]at h4;simpa using h4;refine Na (Wa ?_);refine Qb ⟨_,?_,q+(Utf8.decode (bs s) (q)).2,O,(Fs s q Aa),PC,hF⟩;have:=Uf s q;have:=Fs s q Aa;omega;refine Dm 0 (p:=q) (str:=s) hF O O hn0 (Ba (Xn O O) (Ca (Fa (Te O ?_))));refine Ic (Ec O ?_);refine Ga (Da (Ba (Gb O) (Ca ?_)));refine Lc (v:=J ((-1))) O O ?_;exact⟨_,O,λh=>absurd h Oa,hF.same⟩
theorem E4(s:Str)(hs:s.length<=8)(w0:World):Calls prog 329 #[I s,I [43,45,95]] w0 (Oc λv w'=>∃b:Bool,v=.bool b/\(b=true->∃c∈s,Sh c=false)/\Same [] w0 w'):=by
 refine Ea func329 O ntmps329 Bb (Nc _ _) ?_;have hF:=FR.start w0 [];refine Da (Ba (Kb O) (Ob (Ba (Pd O) (Ba (Pd O) ?_))));refine Ta (PG s hs _) (Ua en_331 O O O) ?_;rintro _ w ⟨i,rfl,hi,hE⟩;have hF:=hF.ext hE;refine Ba (V2 O O) (Ba (Kb O) (Ca ?_));refine Lc (v:=.bool _) O O ?_;exact⟨_,O,λh=>hi (of_decide_eq_true h),hF.same⟩
end Go.Scarf
