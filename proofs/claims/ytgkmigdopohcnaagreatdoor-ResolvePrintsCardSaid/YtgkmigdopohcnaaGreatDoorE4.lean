/- A part of the proof. -/
import Derived.Test.YtgkmigdopohcnaaGreatDoorE1
import Derived.Test.YtgkmigdopohcnaaGreatDoorP1
import Derived.Lib.ParseIntBCases
set_option linter.all false
set_option maxHeartbeats 8000000
set_option maxRecDepth 10000
namespace Go.Scarf
open Go.RowKit Go.Proofs Go.Proofs.Tryz
theorem Iv(s:Str):Oh s 45=Lib.hasPrefix s [45]:=PD s 45
theorem MU(s:Str):Oh s 43=Lib.hasPrefix s [43]:=PD s 43
theorem R0(s:Str)(c:UInt8):Lib.trimPrefix s [c]=if Lib.hasPrefix s [c]=true then s.drop 1 else s:=rfl
theorem head_bZ{W:Str}(h:Sh W=true):decide (¬bZ W 0=48)=decide (W.head?≠some 48):=by
  have hp:=List.length_pos_iff.2 (Sg h);rw[<-Zh hp];exact decide_eq_decide.2 (not_congr (Hi hp))
theorem MK{s:Str}{neg:Bool}{whole rest:Str}{minus:Bool}{exp:Str}{ok:Bool}(h:Parts s neg whole rest minus exp ok) :
    ok=(Mb s).2/\(ok=true->neg=(Mb s).1.neg/\whole=(Mb s).1.whole/\rest=(Mb s).1.rest/\minus=(Mb s).1.low/\Lib.trimLeftB exp 48=Lib.trimLeftB (Mb s).1.exp 48/\Sh exp=true/\Sh whole=true/\rest.all Ge=true):=by
  obtain⟨s1,W,Z,R1,f,g,rfl,rfl,hc,hd,rfl,rfl,rfl,rfl,rfl⟩:=h.h;have e1:(if Oh s 45=true then s.drop 1 else s)=Lib.trimPrefix s [45]:=by rw[R0,Iv]
  rw[e1]at hc hd;have h2:(Pa [101,69] (Lib.trimPrefix s [45])).2.1=Z:=by rw[hc]
  have h3:(Pa [101,69] (Lib.trimPrefix s [45])).2.2=f:=by rw[hc]
  have g1:(Pa [46] (Pa [101,69] (Lib.trimPrefix s [45])).1).1=whole:=by rw[hd]
  have g2:(Pa [46] (Pa [101,69] (Lib.trimPrefix s [45])).1).2.1=R1:=by rw[hd]
  have g3:(Pa [46] (Pa [101,69] (Lib.trimPrefix s [45])).1).2.2=g:=by rw[hd]
  have hr:R1=if g=true then R1 else []:=by
    cases g with
    | true=>rfl
    | false=>rw[<-g2];exact Mq [46] _ g3
  have he:∀(neg low:Bool)(e:Str),Re neg low (Pa [101,69] (Lib.trimPrefix s [45])).1 e=(⟨neg,low,whole,R1,e⟩,Sh whole&&(!g || Sh R1)&&(decide (whole=[48]) || decide (whole.head?≠some 48))):=by
    intro neg low e;simp only[Re,g1,g2,g3]
  have hk:∀e:Str,Sh e=true->O0 whole (if g=true then R1 else [48]) e=(Sh whole&&(!g || Sh R1)&&(decide (whole=[48]) || decide (whole.head?≠some 48))):=by
    intro e he;unfold O0;rw[he,Bool.true_and];by_cases hw:Sh whole=true
    ·rw[head_bZ hw, hw, Bool.true_and, Bool.true_and]
     cases g with
     | true=>rfl
     | false =>
       have:Sh [48]=true:=by decide
       simp[this]
    rw[Bool.not_eq_true]at hw;rw[hw];simp
  have hok:∀e:Str,O0 whole (if g=true then R1 else [48]) e=true->Sh e=true/\Sh whole=true/\(if g=true then R1 else []).all Ge=true:=by
    intro e h;unfold O0 at h;simp only[Bool.and_eq_true]at h;refine⟨h.2.2.1,h.1,?_⟩;cases g with
    | true=>exact Bu h.2.1
    | false=>rfl
  have ht:∀e:Str,Sh e=false->O0 whole (if g=true then R1 else [48]) e=false:=by
    intro e h;unfold O0;rw[h];simp
  cases f with
  | true =>
    have hex:Uq true Z=(if Lib.hasPrefix Z [45] then Lib.trimPrefix Z [45] else Lib.trimPrefix (Lib.trimPrefix Z [45]) [43]):=by
      rw[Uq,if_pos rfl,Iv,MU,R0 Z 45];by_cases h1:Lib.hasPrefix Z [45]=true
      ·simp[h1]
      simp only[h1, if_false, false_or];rw[R0];simp
    have er:Mb s=if Sh (Uq true Z)=true then Re (Lib.hasPrefix s [45]) (Lib.hasPrefix Z [45]) (Pa [101,69] (Lib.trimPrefix s [45])).1 (Uq true Z) else (⟨Lib.hasPrefix s [45],Lib.hasPrefix Z [45],[],[],[]⟩,false):=by
      unfold Mb;simp only;rw[if_pos h3,h2,hex]
    by_cases hx:Sh (Uq true Z)=true
    ·rw[if_pos hx, he]at er
     rw[er];refine⟨hk _ hx,λh=>⟨Iv s,O,hr.symm,by rw[Bool.true_and,Iv],O,hok _ h⟩⟩
    rw[if_neg hx]at er;rw[Bool.not_eq_true]at hx;rw[er];refine⟨ht _ hx,λh=>?_⟩;rw[ht _ hx]at h;cases h
  | false =>
    have hz:Z=[]:=by rw[<-h2];exact Mq [101,69] _ h3
    have er:Mb s=Re (Lib.hasPrefix s [45]) false (Pa [101,69] (Lib.trimPrefix s [45])).1 Z:=by
      unfold Mb;simp only;rw[if_neg (by rw[h3];decide),h2]
    have hx:Sh (Uq false Z)=true:=by rw[Uq,if_neg Ab];decide
    rw[he]at er;rw[er];refine⟨hk _ hx,λh=>⟨Iv s,O,hr.symm,O,?_,hok _ h⟩⟩;subst hz;rw[Uq,if_neg Ab];rfl
theorem LS{s:Str}{neg:Bool}{whole rest:Str}{minus:Bool}{exp:Str}{ok:Bool}(h:Parts s neg whole rest minus exp ok):whole.length<=s.length/\rest.length<=s.length/\exp.length<=s.length+1:=by
  obtain⟨s1,W,Z,R1,f,g,rfl,rfl,hc,hd,rfl,rfl,rfl,rfl,rfl⟩:=h.h;have h1:(if Oh s 45=true then s.drop 1 else s).length<=s.length:=by split <;> simp
  have h2:=Uf [101,69] (if Oh s 45=true then s.drop 1 else s);have h3:=Uf [46] (Pa [101,69] (if Oh s 45=true then s.drop 1 else s)).1;rw[hd]at h3;have h4:Z.length<=s.length:=by rw[hc]at h2;exact fQ h2.2 h1
  refine⟨fQ h3.1 (fQ h2.1 h1),?_,?_⟩
  ·split
   ·exact fQ h3.2 (fQ h2.1 h1)
   exact Nat.zero_le _
  unfold Uq;split
  ·split
   ·simp;omega
   omega
  simp
theorem A8(c:UInt8)(s:Str):Lib.trimLeftB (c::s) 48=if c=48 then Lib.trimLeftB s 48 else c::s:=by
  unfold Lib.trimLeftB;rw[List.dropWhile_cons];by_cases h:c=48 <;> simp[h]
theorem Fx{E:Str}(h:0<E.length)(h0:bZ E 0=48):Lib.trimLeftB (E.drop 1) 48=Lib.trimLeftB E 48:=by
  rw[<-Zh h]at h0;cases E with
  | nil=>simp at h
  | cons c s =>
    have:c=48:=Uu.1 h0;rw[A8,if_pos this];rfl
theorem Kx{E:Str}(h:0<E.length)(h0:¬bZ E 0=48):Lib.trimLeftB E 48=E:=by
  rw[<-Zh h]at h0;cases E with
  | nil=>simp at h
  | cons c s =>
    have:¬c=48:=λe=>h0 (Uu.2 e);rw[A8,if_neg this]
theorem TD{E:Str}(h:E.all Ge=true):(E.drop 1).all Ge=true:=by
  rw[List.all_eq_true]at h ⊢;exact λx hx=>h x (List.mem_of_mem_drop hx)
theorem Lw{E:Str}(h:0<E.length)(h1:E.length<=1\/¬bZ E 0=48):Ld E=Ld (Lib.trimLeftB E 48)/\((9:Int)<(E.length:Int)↔9<(Lib.trimLeftB E 48).length):=by
  by_cases h0:bZ E 0=48
  ·have h2 : E.length = 1 := by rcases h1 with h1|h1;omega;exact absurd h0 h1
   rw[<-Fx h h0]
   match E,h2 with
   | [c], _ =>
     rw[<-Zh (s:=[c]) (p:=0) Ma]at h0;have:c=48:=Uu.1 h0;subst this;simp[Lib.trimLeftB,Ld]
  rw[Kx h h0];exact⟨O,by omega⟩
theorem NL(l:Str)(a:UInt8):Lib.trimRightB (l++[a]) 48=if a=48 then Lib.trimRightB l 48 else l++[a]:=by
  unfold Lib.trimRightB;rw[List.reverse_append];simp only[List.reverse_cons,List.reverse_nil,List.nil_append,List.cons_append,List.dropWhile_cons];by_cases h:a=48 <;> simp[h]
theorem Q5{d:Str}{m:Nat}(h1:1<=m)(h2:m<=d.length):Lib.trimRightB (d.take m) 48=if bZ (d.take m) (m-1)=48 then Lib.trimRightB (d.take (m-1)) 48 else d.take m:=by
  have h3:m-1<d.length:=by omega
  have e:d.take m=d.take (m-1)++[d[m-1]]:=by
    have:=iQ h3
    rwa [show m-1+1=m by omega]at this
  have h4:bZ (d.take m) (m-1)=((d[m-1].toNat:Nat):Int):=by
    rw[<-Zh (by simp;omega)];simp
  rw[h4,e,NL];by_cases h:d[m-1]=48
  ·rw[if_pos h,if_pos (Uu.2 h)]
  rw[if_neg h,if_neg (λhh=>h (Uu.1 hh))]
theorem D4{d:Str}{m i:Nat}(h:i<m)(h2:m<=d.length):bZ (d.take m) i=bZ d i:=by
  rw[<-Zh (show i<(d.take m).length by simp;omega),<-Zh (show i<d.length by omega)];simp
theorem UU{s:Str}(h:(Mb s).1.low=true):Dj s = - Ld (Lib.trimLeftB (Mb s).1.exp 48):=by unfold Dj;rw[if_pos h]
theorem IQ{s:Str}(h:(Mb s).1.low=false):Dj s=Ld (Lib.trimLeftB (Mb s).1.exp 48):=by unfold Dj;rw[if_neg (by rw[h];decide)]
theorem Gy{x:Num}(hd:x.digits.all Ge=true)(hp:0<x.digits.length)(hl:x.digits.length<=1000)(h0:¬bZ x.digits 0=48)(h1:¬bZ x.digits (x.digits.length-1)=48):Rc x=(decide (-1000000<=x.exp)&&decide (x.exp<=1000000)):=by
  have hz:¬x=Num.zero:=by rintro rfl;simp[Num.zero]at hp
  rw[<-Zh hp]at h0;rw[<-Zh (show x.digits.length-1<x.digits.length by omega)]at h1;exact Hp hz (by unfold Sh;rw[hd,decide_eq_true (List.length_pos_iff.1 hp)];rfl) Aa hp h0 Aa h1
theorem BZ(s:Str)(hl:s.length<=140737488355327)(w0:World):Calls prog 214 #[I s] w0 (Dd λv w'=>v=.tuple #[Hl (Fc s).1,J (Fc s).2]/\Same [] w0 w'):=by
 refine Ia func214 O ntmps214 Eb (Yb _) ?_;have hF:=FR.start w0 [];refine Ea (Wc (cs:=#[.bool false,I [],J 0]) hF pX O ?_);rintro b1 w hb1 hF -;refine Ba (Gb O) (Rb (Ba (Bc O) ?_));refine Lb (parts_c s Aa _) (Na en_247 O O) ?_;rintro _ w ⟨neg,whole,rest,minus,exp,ok,rfl,hp,hE⟩;obtain⟨hok,hfs⟩:=MK hp;obtain⟨hl1,hl2,hl3⟩:=LS hp;have hF:=hF.ext hE;refine Ba (Qk O) (Ba (Ao O O) (Ba (Iy O O) (Ba (Iy O O) (Ba (Ao O O) (Ba (Iy O O) (Ba (Ao O O) (Ba (Db O) (Ba (Fd O) (Ba (Fd O) (Ba (Db O) (Ba (Fd O) (Ba (Db O) (Ta ?_)))))))))))));refine Fa (Ga (Ea (Ba (Vb O) (Ba (Si O) (Da ?_)))));refine Le O O (λhc0=>?_) (λhc0=>?_);refine Ea (Ka (w':=w) (v:=.agg #[.bool false,I [],J 0]) Ub ?_);refine Ie hF rZ O O Zg ?_;rintro w hF -;refine Ba (Gb O) (Da ?_);refine Va (Ua (Ja (Nc O (l:=[.bool false,I [],J 0]) O iZ rZ O (hF.cellsAll 0 O) (v:=J 2) O) ?_));exact⟨by rw[Tg,if_pos (by rw[<-hok];simp_all)];rfl,hF.same⟩;have hokt:ok=true:=by simp_all
 have hfs:=hfs hokt;have hwr:whole.length=(Mb s).1.whole.length/\rest.length=(Mb s).1.rest.length:=⟨by rw[hfs.2.1],by rw[hfs.2.2.1]⟩;refine La (Fa (Ga (Ea (Ba (Bc O) (Ba (Fj jX O) (Ba (Bc O) (Ba (Fj jX O) (Ba (Ek (((whole.length+rest.length:Nat):Int)) O O) (Ba (Ho O O) (Da ?_))))))))));refine Ib O O (λhc1=>?_) (λhc1=>?_);refine Ea (Ka (w':=w) (v:=.agg #[.bool false,I [],J 0]) Ub ?_);refine Ie hF rZ O O Zg ?_;rintro w hF -;refine Ba (Gb O) (Da ?_);refine Va (Ua (Ja (Nc O (l:=[.bool false,I [],J 0]) O iZ rZ O (hF.cellsAll 0 O) (v:=J 3) O) ?_));exact⟨by rw[Tg,if_neg (by rw[<-hok,hokt];decide),if_pos Aa];rfl,hF.same⟩;refine La (Fa (Ga ?_));refine Bf (λσ w=>∃(E:Str),(Ld E=Ld (Lib.trimLeftB (Mb s).1.exp 48))/\((9:Int)<(E.length:Int)↔9<(Lib.trimLeftB (Mb s).1.exp 48).length)/\(E.all Ge=true)/\(E.length<=s.length+1)/\AllEq σ [(2,V b1),(4,.bool (neg)),(5,I whole),(6,I rest),(7,.bool (minus)),(8,I E)]/\FR w0 [] [(b1,.cells #[.bool false,I [],J 0] 86)] w) ?_ ?_;refine Qa (Jc (λμ σ w=>∃(E:Str),μ=E.length/\(Lib.trimLeftB E 48=(Lib.trimLeftB (Mb s).1.exp 48))/\(0<E.length)/\(E.all Ge=true)/\(E.length<=exp.length)/\AllEq σ [(2,V b1),(4,.bool (neg)),(5,I whole),(6,I rest),(7,.bool (minus)),(8,I E)]/\FR w0 [] [(b1,.cells #[.bool false,I [],J 0] 86)] w) _ ⟨exp,O,(hfs.2.2.2.2.1),(List.length_pos_iff.2 (Sg hfs.2.2.2.2.2.1)),(Bu hfs.2.2.2.2.2.1),(gQ _),U7,hF⟩ ?_);rintro μ σ w ⟨E,rfl,hEt,hE0,hE3,hE4,hs,hF⟩;refine Cg.slots hs ?_;clear hs;intro σ;refine Ga (Ea (Ba (Bc O) (Ba (Fj jX O) (Ba (Ho O O) (Ba (Vb O) ?_)))));refine Ya (d:=35) O (λhg0=>?_) (λhg0=>?_);refine Ba (Bc O) ?_;refine Ka (v:=.int .u8 (bZ (E) 0)) (by rw[<-Zh (s:=E) (p:=0) Aa];exact Oc 0 jX O O Aa) ?_;refine Ba (Qf O O) (Ba (Tb O O) (Da ?_));refine Ib O O (λhc2=>?_) (λhc2=>?_);refine La (Fa (Qa (Ha (Ba (Bc O) (Ka (v:=I ((E:Str).drop (1))) (Pg (1) jX O O Aa) (Ba (Fd O) (Ta (Bb ?_))))))))
 refine Hb ⟨_,?_,E.drop 1,O,(by rw[Fx Aa Aa];exact hEt),(by simp;omega),(TD hE3),(by simp;omega),U7,hF⟩;simp;omega;refine Ec (Ac O ?_);exact Hb ⟨(E),(by rw[<-hEt];exact (Lw hE0 Aa).1),(by rw[<-hEt];exact (Lw hE0 Aa).2),(hE3),Aa,U7,hF⟩;refine Ca (Ca (Ca (Ba (Kb O O) (Da (De O ?_)))));refine Ec (Ac O ?_);exact Hb ⟨(E),(by rw[<-hEt];exact (Lw hE0 Aa).1),(by rw[<-hEt];exact (Lw hE0 Aa).2),(hE3),Aa,U7,hF⟩;rintro σ w ⟨E,hE1,hE2,hE3,hE4,hs,hF⟩;refine Eg.slots hs ?_;clear hs;intro σ;refine Fa (Ga (Ea (Ba (Bc O) (Ba (Fj jX O) (Ba (Ho O O) (Da ?_))))));refine Ib O O (λhc3=>?_) (λhc3=>?_);refine Ea (Ka (w':=w) (v:=.agg #[.bool false,I [],J 0]) Ub ?_);refine Ie hF rZ O O Zg ?_;rintro w hF -;refine Ba (Gb O) (Da ?_);refine Va (Ua (Ja (Nc O (l:=[.bool false,I [],J 0]) O iZ rZ O (hF.cellsAll 0 O) (v:=J 4) O) ?_));exact⟨by rw[Tg,if_neg (by rw[<-hok,hokt];decide),if_neg Aa,if_pos Aa];rfl,hF.same⟩;refine La (Fa (Ea (Ba (Gb O) (Da (Ga (Ea (Ba (Gb O) (Da (Qa ?_)))))))));refine Jc (λμ σ w=>∃(q:Nat),μ=E.length-q/\(q<=E.length)/\AllEq σ [(2,V b1),(4,.bool (neg)),(5,I whole),(6,I rest),(7,.bool (minus)),(8,I E),(10,J (Ld (E.take q))),(11,J ((q:Int)))]/\FR w0 [] [(b1,.cells #[.bool false,I [],J 0] 86)] w) _ ⟨0,O,(Nat.zero_le _),ae8,hF⟩ ?_;rintro μ σ w ⟨q,rfl,hq,hs,hF⟩;refine Cg.slots hs ?_;clear hs;intro σ;refine Ga (Ea (Ba (Za O) (Ba (Bc O) (Ba (Fj jX O) (Ba (Di O O) (Da ?_))))));refine Ib O O (λhc4=>?_) (λhc4=>?_);have hdq:=List.all_eq_true.1 hE3 E[q] (eQ Aa);unfold Ge at hdq;simp only[Bool.and_eq_true,decide_eq_true_eq]at hdq;have hbq:=UInt8.toNat_lt E[q];have hb:=Vv (E.take q) (Fr q hE3) (by rw[List.length_take];omega);refine La (Fa (Ga (Qa (Ha (Ba (Za O) (Ka (v:=J (10*Ld (E.take q))) (F3 O O (Rh Aa Aa)) (Ba (Bc O) (Ba (Za O) (Ka (v:=.int .u8 ((((E:Str)[q]' Aa).toNat:Int))) (Oc (q) jX O O Aa) ?_)))))))))
 refine Ka (v:=.int .u8 (((E[q].toNat:Nat):Int)-48)) (E0 O O (by rw[IntKind.wrap_u8];omega)) ?_;refine Ka (v:=J (((E[q].toNat:Nat):Int)-48)) (Zc fX bX O (Rh Aa Aa)) ?_;refine Ka (v:=J (Ld (E.take (q+1)))) (Rr O O (by rw[Wn _ q Aa];exact Rh Aa Aa)) ?_;refine Ba (Gb O) (Ta (Bb (Fa (Ha (Ba (Za O) (Ba (Ek (((q+1:Nat):Int)) O O) (Ba (Gb O) (Ta ?_))))))));refine Hb ⟨_,?_,q+1,O,Aa,ae8,hF⟩;omega;refine Ec (Ac O ?_);refine Fa ?_;have eT:E.take q=E:=List.take_of_length_le Aa;have hb:=Vv E hE3 Aa;have hE:-1000000000<Dj s/\Dj s<1000000000:=by unfold Dj;rw[<-hE1];split <;> omega
 refine Ga (Bf (λσ w=>AllEq σ [(2,V b1),(4,.bool (neg)),(5,I whole),(6,I rest),(10,J (Dj s))]/\FR w0 [] [(b1,.cells #[.bool false,I [],J 0] 86)] w) ?_ ?_);refine Ea (Ba (Vb O) (Da ?_));refine Le O O (λhc5=>?_) (λhc5=>?_);have eE:- Ld E=Dj s:=by rw[hE1,UU (by rw[<-hfs.2.2.2.1];assumption)]
 rw[eT];refine Ha (Ba (Za O) ?_);refine Ka (v:=J (Dj s)) (L3 O (Vf (by rw[<-eE];omega) Aa Aa)) ?_;refine Ba (Gb O) (Ta ?_);exact Hb ⟨Bp,hF⟩;have eE:Ld E=Dj s:=by rw[hE1,IQ (by rw[<-hfs.2.2.2.1];assumption)]
 rw[eT,eE];refine La ?_;exact Hb ⟨Bp,hF⟩;rintro σ w ⟨hs,hF⟩;refine Eg.slots hs ?_;clear hs;intro σ;refine Fa (Ea (Ba (Za O) (Ba (Bc O) (Ba (Fj jX O) (Ba (P7 O O) (Ba (Gb O) (Rb (Ba (Bc O) (Ba (Bc O) ?_)))))))));refine Ka (v:=I ((whole)++(rest))) (Em O O Aa) (Ba (Fd O) (Da (Ga ?_)));refine Bf (λσ w=>∃(d:Str),(d=(Lib.trimLeftB ((Mb s).1.whole++(Mb s).1.rest) 48))/\(0<d.length->¬bZ d 0=48)/\(d.all Ge=true)/\(d.length<=whole.length+rest.length)/\AllEq σ [(2,V b1),(4,.bool (neg)),(10,J (Dj s-(rest.length:Nat))),(12,I d)]/\FR w0 [] [(b1,.cells #[.bool false,I [],J 0] 86)] w) ?_ ?_;refine Qa ?_;refine Jc (λμ σ w=>∃(D:Str),μ=D.length/\(Lib.trimLeftB D 48=Lib.trimLeftB (whole++rest) 48)/\(D.all Ge=true)/\(D.length<=whole.length+rest.length)/\AllEq σ [(2,V b1),(4,.bool (neg)),(10,J (Dj s-(rest.length:Nat))),(12,I D)]/\FR w0 [] [(b1,.cells #[.bool false,I [],J 0] 86)] w) _ ⟨(whole++rest),O,(O),(by rw[List.all_append,Bu hfs.2.2.2.2.2.2.1,hfs.2.2.2.2.2.2.2];rfl),Ma,Om,hF⟩ ?_;rintro μ σ w ⟨D,rfl,hDt,hDa,hDl,hs,hF⟩;refine Cg.slots hs ?_;clear hs;intro σ;refine Ga (Ea (Ba (Bc O) (Ba (Fj jX O) (Ba (Ho O O) (Ba (Vb O) ?_)))));refine Ya (d:=73) O (λhg1=>?_) (λhg1=>?_);refine Ba (Bc O) ?_;refine Ka (v:=.int .u8 (bZ (D) 0)) (by rw[<-Zh (s:=D) (p:=0) Aa];exact Oc 0 jX O O Aa) ?_;refine Ba (Qf O O) (Ba (Tb O O) (Da ?_));refine Ib O O (λhc6=>?_) (λhc6=>?_);refine La (Fa (Qa (Ha (Ba (Bc O) (Ka (v:=I ((D:Str).drop (1))) (Pg (1) jX O O Aa) (Ba (Fd O) (Ta (Bb ?_))))))));refine Hb ⟨_,?_,D.drop 1,O,(by rw[Fx Aa Aa];exact hDt),(TD hDa),(by simp;omega),Om,hF⟩;simp;omega;refine Ec (Ac O ?_);exact Hb ⟨(D),(by rw[<-hfs.2.1,<-hfs.2.2.1,<-hDt];first|exact (Kx Aa Aa).symm|(have h0:D=[]:=List.eq_nil_of_length_eq_zero Aa;rw[h0];rfl)),(λh=>by omega),(hDa),(hDl),Om,hF⟩;refine Ca (Ca (Ca (Ba (Kb O O) (Da (De O ?_)))))
 refine Ec (Ac O ?_);exact Hb ⟨(D),(by rw[<-hfs.2.1,<-hfs.2.2.1,<-hDt];first|exact (Kx Aa Aa).symm|(have h0:D=[]:=List.eq_nil_of_length_eq_zero Aa;rw[h0];rfl)),(λh=>by omega),(hDa),(hDl),Om,hF⟩;rintro σ w ⟨d,hd,hd0,hda,hdl,hs,hF⟩;refine Eg.slots hs ?_;clear hs;intro σ;refine Fa (Ga (Ea (Ba (Bc O) (Ba (Rw O O) (Da ?_)))));refine Ib O O (λhc7=>?_) (λhc7=>?_);refine Ea (Ka (w':=w) (v:=.agg #[.bool false,I [],J 0]) Ub ?_);refine Ie hF rZ O O Zg ?_;rintro w hF -;refine Ba (Gb O) (Da ?_);refine Va (Ua (Ja (Nc O (l:=[.bool false,I [],J 0]) O iZ rZ O (hF.cellsAll 0 O) (v:=J 0) O) ?_));exact⟨by rw[Tg,if_neg (by rw[<-hok,hokt];decide),if_neg Aa,if_neg Aa,if_pos (by rw[<-hd];assumption)];rfl,hF.same⟩;refine La (Fa (Ga ?_));refine Bf (λσ w=>∃(m:Nat),∃(sh:Str),∃(ee:Int),(ee=Dj s-(rest.length:Nat)+(d.length-m:Nat))/\(sh=(d:Str).take m)/\(1<=m)/\(m<=d.length)/\(Lib.trimRightB d 48=d.take m)/\(¬bZ ((d:Str).take m) (m-1)=48)/\AllEq σ [(2,V b1),(4,.bool (neg)),(10,J ee),(12,I sh)]/\FR w0 [] [(b1,.cells #[.bool false,I [],J 0] 86)] w) ?_ ?_;refine Qa ?_;have hdp:0<d.length:=List.length_pos_iff.2 (by assumption);refine Jc (λμ σ w=>∃(m:Nat),∃(D2:Str),∃(ee:Int),μ=m+1/\(ee=Dj s-(rest.length:Nat)+(d.length-m:Nat))/\(D2=(d:Str).take m)/\(1<=m)/\(m<=d.length)/\(Lib.trimRightB d 48=Lib.trimRightB (d.take m) 48)/\AllEq σ [(2,V b1),(4,.bool (neg)),(10,J ee),(12,I D2)]/\FR w0 [] [(b1,.cells #[.bool false,I [],J 0] 86)] w) _ ⟨d.length,d,Dj s-(rest.length:Nat),O,Aa,(by rw[List.take_length]),(hdp),(gQ _),(by rw[List.take_length]),Om,hF⟩ ?_;rintro μ σ w ⟨m,D2,ee,rfl,hee,hD2,hm1,hm2,hmt,hs,hF⟩;refine Cg.slots hs ?_;clear hs;intro σ;have hml:D2.length=m:=by rw[hD2,List.length_take];omega
 refine Ga (Ea (Ba (Bc O) (Ba (Bc O) (Ba (Fj jX O) (Ba (XQ (((m-1:Nat):Int)) O O) ?_)))));refine Ka (v:=.int .u8 (bZ (D2) (m-1))) (by rw[<-Zh (s:=D2) (p:=(m-1)) Aa];exact Oc (m-1) jX O O Aa) ?_;refine Ba (Qf O O) (Da ?_);refine Ib O O (λhc8=>?_) (λhc8=>?_);refine La (Fa (Qa (Ea (Ba (Bc O) (Ba (Bc O) (Ba (Fj jX O) (Ba (XQ (((m-1:Nat):Int)) O O) (Ka (v:=I ((D2:Str).take (m-1))) (Rp (m-1) jX O O Aa) (Ba (Fd O) (Da (Ha ?_)))))))))));refine Ba (Za O) (Ba (Ek (ee+1) O O) (Ba (Gb O) (Ta (Bb ?_))));refine Hb ⟨_,?_,m-1,D2.take (m-1),ee+1,rfl,Aa,(by rw[hD2,List.take_take,Nat.min_eq_left Aa]),(by have h:=hd0 hdp;rw[<-D4 (m:=m) Aa hm2,<-hD2]at h;rcases Nat.lt_or_ge 1 m with h1|h1;omega;exfalso;have h2:m-1=0:=Aa;have h3:bZ D2 (m-1)=48:=(by assumption);rw[h2]at h3;exact absurd h3 h),Aa,(by rw[hmt,Q5 hm1 hm2,if_pos (by rw[<-hD2];assumption)]),Om,hF⟩;omega;refine Ec (Ac O ?_);exact Hb ⟨(m),(D2),(ee),(hee),(hD2),(hm1),(hm2),(by rw[hmt,Q5 hm1 hm2,if_neg (by rw[<-hD2];assumption)]),(by rw[<-hD2];assumption),Om,hF⟩;rintro σ w ⟨m,sh,ee,hee,hsh,hm1,hm2,hmt,hlast,hs,hF⟩;refine Eg.slots hs ?_;clear hs;intro σ;refine Fa (Ga (Ea (Ba (Za O) (Ba (Di O O) (Ba (Vb O) ?_)))));refine Ya (d:=98) O (λhg2=>?_) (λhg2=>?_);refine Ca (Ca (Ba (Tb O O) (Da (Ad O (Ea ?_)))));refine Ka (w':=w) (v:=.agg #[.bool false,I [],J 0]) Ub (Ie hF rZ O O Zg ?_);rintro w hF -;refine Ba (Gb O) (Da ?_);refine Va (Ua (Ja (Nc O (l:=[.bool false,I [],J 0]) O iZ rZ O (hF.cellsAll 0 O) (v:=J 4) O) ?_));subst hsh;subst hee;have hne:¬d=[]:=List.length_pos_iff.1 Aa;have hrf:=Gy (x:=⟨(Mb s).1.neg,d.take m,Dj s-(rest.length:Nat)+(d.length-m:Nat)⟩) (Fr m hda) (by simp;omega) (by simp;omega) (by rw[D4 Aa hm2];exact hd0 Aa) (by show ¬bZ (d.take m) ((d.take m).length-1)=48;rw[List.length_take,Nat.min_eq_left hm2];exact hlast)
 have hfe:Dj s-(rest.length:Nat)+(d.length-m:Nat)=Dj s-(Mb s).1.rest.length+d.length-(d.take m).length:=by rw[List.length_take,Nat.min_eq_left hm2,<-hwr.2];omega
 refine⟨?_,hF.same⟩;rw[Tg,if_neg (by rw[<-hok,hokt];decide),if_neg Aa,if_neg Aa,<-hd,if_neg hne,hmt,<-hfe,hrf]
 first|(rw[if_pos (by simp;omega)];rfl)|(rw[if_neg (by simp;omega),hfs.1];rfl)
 refine Ba (Za O) (Ba (Ho O O) (Ba (Kb O O) (Da ?_)));refine Ib O O (λhc9=>?_) (λhc9=>?_);refine Ea (Ka (w':=w) (v:=.agg #[.bool false,I [],J 0]) Ub ?_);refine Ie hF rZ O O Zg ?_;rintro w hF -;refine Ba (Gb O) (Da ?_);refine Va (Ua (Ja (Nc O (l:=[.bool false,I [],J 0]) O iZ rZ O (hF.cellsAll 0 O) (v:=J 4) O) ?_));subst hsh;subst hee;have hne:¬d=[]:=List.length_pos_iff.1 Aa;have hrf:=Gy (x:=⟨(Mb s).1.neg,d.take m,Dj s-(rest.length:Nat)+(d.length-m:Nat)⟩) (Fr m hda) (by simp;omega) (by simp;omega) (by rw[D4 Aa hm2];exact hd0 Aa) (by show ¬bZ (d.take m) ((d.take m).length-1)=48;rw[List.length_take,Nat.min_eq_left hm2];exact hlast);have hfe:Dj s-(rest.length:Nat)+(d.length-m:Nat)=Dj s-(Mb s).1.rest.length+d.length-(d.take m).length:=by rw[List.length_take,Nat.min_eq_left hm2,<-hwr.2];omega
 refine⟨?_,hF.same⟩;rw[Tg,if_neg (by rw[<-hok,hokt];decide),if_neg Aa,if_neg Aa,<-hd,if_neg hne,hmt,<-hfe,hrf]
 first|(rw[if_pos (by simp;omega)];rfl)|(rw[if_neg (by simp;omega),hfs.1];rfl)
 refine La (Fa (Ea (Ba (Vb O) (Ba (Bc O) (Ba (Za O) ?_)))));refine Ka (w':=w) (v:=.agg #[.bool (neg),I sh,J ee]) Ub (Ie hF rZ O O Zg ?_);rintro w hF -;refine Ba (Gb O) (Da ?_);refine Va (Ua (Ja (Nc O (l:=[.bool (neg),I sh,J ee]) O iZ rZ O (hF.cellsAll 0 O) (v:=J 0) O) ?_));subst hsh;subst hee;have hne:¬d=[]:=List.length_pos_iff.1 Aa;have hrf:=Gy (x:=⟨(Mb s).1.neg,d.take m,Dj s-(rest.length:Nat)+(d.length-m:Nat)⟩) (Fr m hda) (by simp;omega) (by simp;omega) (by rw[D4 Aa hm2];exact hd0 Aa) (by show ¬bZ (d.take m) ((d.take m).length-1)=48;rw[List.length_take,Nat.min_eq_left hm2];exact hlast);have hfe:Dj s-(rest.length:Nat)+(d.length-m:Nat)=Dj s-(Mb s).1.rest.length+d.length-(d.take m).length:=by rw[List.length_take,Nat.min_eq_left hm2,<-hwr.2];omega
 refine⟨?_,hF.same⟩;rw[Tg,if_neg (by rw[<-hok,hokt];decide),if_neg Aa,if_neg Aa,<-hd,if_neg hne,hmt,<-hfe,hrf]
 first|(rw[if_pos (by simp;omega)];rfl)|(rw[if_neg (by simp;omega),hfs.1];rfl)
theorem H7(s:Str)(hl:s.length<=140737488355327)(w0:World):Calls prog 180 #[I s] w0 (Dd λv w'=>v=.tuple #[Hl (Fc s).1,.bool (Xf s)]/\Same [] w0 w'):=by
 refine Ia func180 O ntmps180 Eb (Yb _) ?_;have hF:=FR.start w0 [];refine Ea (Wc (cs:=#[.bool false,I [],J 0]) hF pX O ?_);rintro b1 w hb1 hF -;refine Ba (Db O) (Rb (Ba (Bc O) ?_));refine Oa hF (BZ s hl _) (Na en_214 O O) ?_;intro w hF;refine Ba (Qk O) (Ba (Iw O O) (Ba (Tj O O) ?_));refine Gg hF pX rZ O ?_;rintro b2 w hb2 hF -;refine Ba (Gb O) (Da (Ga ?_));refine Ke (.of []) (bQ [0,1,2,3,4,6] (.act 5 (.free 7 (.free 8 (.act 9 (.free 10 .nil)))))) hF ?_;rintro w hF -;refine⟨λwq=>FR w0 [] [(b2,.cells #[.bool ((Fc s).1.neg),I ((Fc s).1.digits),J ((Fc s).1.exp)] 86)] wq,hF.sub (.cons_cons _ (.cons _ .slnil)),?_⟩;refine Fg O (Of iZ rZ O C0 0 O O) (Jb O (Za O) (Jb O (Qf O O) (Jb O (Vb O) ?_)));refine Zk (d:=14) O (λhg0=>?_) (λhg0=>?_);refine Fg O (Of iZ rZ O C0 0 O O) (Jb O (Bc O) ?_);refine Ed hF (rtext_c (Fc s).1 (by have:=Ki s;omega) _) O (Na en_215 O O) ?_;intro w hF;refine⟨hF.sub (.cons_cons _ (.cons _ .slnil)),?_⟩;refine Jb O (Rw O O) (Jb O (Tb O O) ?_);refine On O hF rZ O O Js ?_;rintro w hF -;refine⟨hF.sub (.cons_cons _ (.cons _ .slnil)),?_⟩;refine Jb O (Db O) (Hc (Fa ?_));refine Va (Ua (Ja (Nc O (l:=[.bool ((Fc s).1.neg),I ((Fc s).1.digits),J ((Fc s).1.exp)]) O iZ rZ O (hF.cellsAll 1 O) (v:=.bool (decide ((Tf (Fc s).1:Str)=s))) O) ?_));exact⟨by simp_all[Xf,Hl],hF.same⟩;refine Fe O (Fe O ?_);refine HJ O ?_ (hF.sub (.cons_cons _ (.cons _ .slnil)));refine Fe O (Jb O (Kb O O) ?_);refine On O hF rZ O O Js ?_;rintro w hF -;refine⟨hF.sub (.cons_cons _ (.cons _ .slnil)),?_⟩;refine Jb O (Db O) (Hc (Fa ?_));refine Va (Ua (Ja (Nc O (l:=[.bool ((Fc s).1.neg),I ((Fc s).1.digits),J ((Fc s).1.exp)]) O iZ rZ O (hF.cellsAll 1 O) (v:=.bool false) O) ?_));exact⟨by simp_all[Xf,Hl],hF.same⟩
def dgt(s:Str)(i:Nat):Int:=if i<s.length then bZ s i else 48
theorem LU{s:Str}(h:s.all Ge=true)(i:Nat):48<=dgt s i/\dgt s i<=57:=by
  unfold dgt;split
  ·rename_i hi
   have:=List.all_eq_true.1 h s[i] (eQ hi);unfold Ge at this;simp only[Bool.and_eq_true,decide_eq_true_eq]at this;rw[<-Zh hi];omega
  omega
theorem all_cons{c:UInt8}{s:Str}(h:(c::s).all Ge=true):Ge c=true/\s.all Ge=true:=by simpa using h
theorem QF{x:Num}(h:Rc x=true)(hd:x.digits≠[]):x.digits.all Ge=true/\¬bZ x.digits (x.digits.length-1)=48:=by
  have h0:¬x=Num.zero:=by rintro rfl;exact hd rfl
  unfold Rc at h;simp only[Bool.or_eq_true,Bool.and_eq_true,decide_eq_true_eq]at h;rcases h with h|h
  ·exact absurd h h0
  refine⟨Bu h.1.1.1.1.1, ?_⟩;have hl:x.digits.length-1<x.digits.length:=by have:=List.length_pos_iff.2 hd;omega
  intro e;rw[<-Zh hl]at e;exact h.1.1.2 (by rw[getLast?_get hl,Uu.1 e])
theorem N6(a b:Str):Lib.compareBytes b a = - Lib.compareBytes a b:=(Qo a).anti b trivial
def vN(acc:Nat)(l:Str):Nat:=l.foldl (λa c=>a*10+(c.toNat-48)) acc
theorem DD(acc:Nat)(c:UInt8)(l:Str):vN acc (c::l)=vN (acc*10+(c.toNat-48)) l:=by unfold vN;rw[List.foldl_cons]
theorem vN_ge(l:Str):∀acc:Nat,acc<=vN acc l:=by
  induction l with
  | nil=>exact λacc=>gQ _
  | cons c l ih =>
    intro acc;rw[DD];have:=ih (acc*10+(c.toNat-48));omega
theorem Ew{c:UInt8}(h:Ge c=true):48<=c.toNat/\c.toNat<=57:=by
  unfold Ge at h;simpa using h
theorem vN_exp:∀(l:Str)(acc:Nat),l.all Ge=true->((vN acc l:Nat):Int)=l.foldl (λa c=>10*a+((c.toNat:Int)-48)) (acc:Int)
  | [],_,_=>rfl
  | c :: l, acc, h => by
    obtain⟨hc,hl⟩:=all_cons h;have:=Ew hc;rw[DD,vN_exp l _ hl,List.foldl_cons]
    congr 1
    omega
theorem KP{l:Str}(h:l.all Ge=true):((vN 0 l:Nat):Int)=Ld l:=vN_exp l 0 h
theorem uintM:∀(l:Str)(acc:Nat),l.all Ge=true->acc<=18446744073709551615->Lib.parseUintM 18446744073709551615 acc l=if vN acc l<=18446744073709551615 then .ok (vN acc l) else .range
  | [],acc,_,h=>by rw[show vN acc []=acc from rfl,if_pos h];rfl
  | c :: l, acc, h, ha => by
    obtain⟨hc,hl⟩:=all_cons h;have r:=Ew hc;rw[Lib.parseUintM,if_pos r,DD];have hg:=vN_ge l (acc*10+(c.toNat-48));by_cases h1:1844674407370955162<=acc
    ·rw[if_pos h1,if_neg Aa]
    rw[if_neg h1];by_cases h2:18446744073709551615<acc*10+(c.toNat-48)
    ·rw[if_pos h2,if_neg Aa]
    rw[if_neg h2];exact uintM l _ hl Aa
theorem FW{l:Str}(h:l.all Ge=true)(hne:l≠[]):Lib.parseUintB 64 l=if vN 0 l<=18446744073709551615 then .ok (vN 0 l) else .range:=by
  rw[Lib.parseUintB,if_neg hne];exact uintM l 0 h Aa
theorem pI_plain{l:Str}(h:l.all Ge=true)(hne:l≠[]):(pI l).2=decide (Ld l<=9223372036854775807)/\(Ld l<=9223372036854775807->(pI l).1=Ld l):=by
  have hu:=FW h hne;rw[<-KP h]
  match l,hne with
  | c :: r, _ =>
    have hc:=Ew (all_cons h).1;have hp:=Lib.parseIntB_plain 64 c r Aa Aa;rw[hu]at hp;generalize vN 0 (c::r)=n at *;unfold pI;rw[hp];by_cases h1:n<=18446744073709551615
    ·rw[if_pos h1, Lib.signlessC]
     by_cases h2:9223372036854775808<=n
     ·rw[if_pos h2];exact⟨(decide_eq_false Aa).symm,λh=>absurd h Aa⟩
     rw[if_neg h2];exact⟨(decide_eq_true Aa).symm,λ_=>rfl⟩
    rw[if_neg h1];exact⟨(decide_eq_false Aa).symm,λh=>absurd h Aa⟩
theorem OV{l:Str}(h:l.all Ge=true)(hne:l≠[]):(pI (45::l)).2=decide (Ld l<=9223372036854775808)/\(Ld l<=9223372036854775808->(pI (45::l)).1 = - Ld l):=by
  have hu:=FW h hne;rw[<-KP h];have hp:=Lib.parseIntB_minus 64 l;rw[hu]at hp;generalize vN 0 l=n at *;unfold pI;rw[hp];by_cases h1:n<=18446744073709551615
  ·rw[if_pos h1, Lib.signedC]
   by_cases h2:9223372036854775808<n
   ·rw[if_pos h2];exact⟨(decide_eq_false Aa).symm,λh=>absurd h Aa⟩
   rw[if_neg h2];exact⟨(decide_eq_true Aa).symm,λ_=>rfl⟩
  rw[if_neg h1];exact⟨(decide_eq_false Aa).symm,λh=>absurd h Aa⟩
def We(x:Num):Str:=x.digits++Lib.repeatL [48] x.exp.toNat
theorem Mo(x:Num):(We x).length=x.digits.length+x.exp.toNat:=by rw[We,dQ,Qn]
theorem VN:∀n:Nat,(Lib.repeatL [48] n).all Ge=true
  | 0=>rfl
  | n + 1 => by
    have h:=VN n;simp only[Lib.repeatL,List.all_append,h,Bool.and_true];decide
theorem TU:∀n:Nat,(Lib.repeatL [48] n).all (λc=>c==48)=true
  | 0=>rfl
  | n + 1 => by
    have h:=TU n;simp only[Lib.repeatL,List.all_append,h,Bool.and_true];decide
theorem CZ{x:Num}{j:Nat}(h:j<(We x).length):(((We x)[j].toNat:Nat):Int)=dgt x.digits j:=by
  unfold dgt;by_cases hj:j<x.digits.length
  ·rw[if_pos hj, <- Zh hj]
   simp only[We];rw[List.getElem_append_left hj]
  rw[if_neg hj];simp only[We];rw[List.getElem_append_right Aa];have:=List.all_eq_true.1 (TU x.exp.toNat) _ (eQ (show j-x.digits.length<(Lib.repeatL [48] x.exp.toNat).length by rw[Qn];rw[Mo]at h;omega));rw[beq_iff_eq.1 this];rfl
theorem FJ{x:Num}{j:Nat}(h:j<(We x).length):Ld ((We x).take (j+1))=10*Ld ((We x).take j)+(dgt x.digits j-48):=by
  rw[Wn _ j h,CZ h]
theorem UE{s:Str}(hs:s.all Ge=true):∀k,∀j,j+k=s.length->Ld (s.take j)<=Ld s
  | 0,j,h=>by rw[List.take_of_length_le Aa];exact Int.le_refl _
  | k + 1, j, h => by
    have h1:=UE hs k (j+1) Aa;have hj:j<s.length:=by omega
    rw[Wn s j hj]at h1;have h2:=Ew (List.all_eq_true.1 hs s[j] (eQ hj));have h3:=(Oz (s.take j) (Fr j hs)).1;omega
theorem RM(x:Num):Zt x=if x.neg=true then 45::We x else We x:=rfl
theorem Ls{x:Num}(h:Rc x=true):(We x).all Ge=true:=by
  rw[We,List.all_append,VN,Bool.and_true];by_cases hd:x.digits=[]
  ·rw[hd];rfl
  exact (QF h hd).1
theorem KQ{x:Num}(h:Rc x=true)(hn:We x=[]):x.neg=false:=by
  have:x.digits=[]:=by have:=congrArg List.length hn;rw[Mo,List.length_nil]at this;exact List.eq_nil_of_length_eq_zero Aa
  have:=Ss h this;subst this;rfl
theorem VC{x:Num}(h:Rc x=false\/x.exp<0\/19<(x.digits.length:Int)+x.exp):Er x=(0,false):=by rw[Cj,if_pos h]
theorem NO{x:Num}(h:¬(Rc x=false\/x.exp<0\/19<(x.digits.length:Int)+x.exp))(hn:x.neg=true):Er x=if Ld (We x)<=9223372036854775808 then (- Ld (We x),true) else (0,false):=by
  have hr:Rc x=true:=by cases hh:Rc x with|true=>rfl|false=>exact absurd (.inl hh) h
  have hne:We x≠[]:=λe=>by have:=KQ hr e;rw[this]at hn;cases hn
  obtain⟨p1,p2⟩:=OV (Ls hr) hne;have e:Zt x=45::We x:=by rw[RM,if_pos hn]
  rw[Cj,if_neg h,e,if_neg Ma,p1];by_cases hv:Ld (We x)<=9223372036854775808
  ·rw[if_pos hv,if_neg (by rw[decide_eq_true hv];decide),p2 hv]
  rw[if_neg hv,if_pos (by rw[decide_eq_false hv])]
theorem BB{x:Num}(h:¬(Rc x=false\/x.exp<0\/19<(x.digits.length:Int)+x.exp))(hn:x.neg=false):Er x=if Ld (We x)<=9223372036854775807 then (Ld (We x),true) else (0,false):=by
  have hr:Rc x=true:=by cases hh:Rc x with|true=>rfl|false=>exact absurd (.inl hh) h
  have e:Zt x=We x:=by rw[RM,if_neg (by rw[hn];decide)]
  rw[Cj,if_neg h,e];by_cases hne:We x=[]
  ·rw[if_pos hne,hne];rfl
  obtain⟨p1, p2⟩ := pI_plain (Ls hr) hne;rw[if_neg hne,p1];by_cases hv:Ld (We x)<=9223372036854775807
  ·rw[if_pos hv,if_neg (by rw[decide_eq_true hv];decide),p2 hv]
  rw[if_neg hv,if_pos (by rw[decide_eq_false hv])]
theorem UV{x:Num}(h:¬(Rc x=false\/x.exp<0\/19<(x.digits.length:Int)+x.exp)){j:Nat}(hj:j<=(We x).length)(hv:9223372036854775808<Ld ((We x).take j)):Er x=(0,false):=by
  have hr:Rc x=true:=by cases hh:Rc x with|true=>rfl|false=>exact absurd (.inl hh) h
  have:=UE (Ls hr) ((We x).length-j) j Aa;cases hn:x.neg with
  | true=>rw[NO h hn,if_neg Aa]
  | false=>rw[BB h hn,if_neg Aa]
theorem DS(d:Int)(h0:0<=d)(h9:d<=9):(-9223372036854775808+d).tdiv 10 = -((9223372036854775808-d)/10):=by
  rw[show -9223372036854775808+d = -(9223372036854775808-d) by omega,Int.neg_tdiv,Int.tdiv_eq_ediv_of_nonneg Aa]
theorem rint_c(x:Num)(hl:x.digits.length<=140737488355328)(w0:World):Calls prog 182 #[Hl x] w0 (Dd λv w'=>v=.tuple #[J (Er x).1,.bool (Er x).2]/\Same [] w0 w'):=by
 refine Ia func182 O ntmps182 Eb (Yb _) ?_;have hF:=FR.start w0 [];refine Ea (Oe hF O ?_);rintro b1 w hb1 hF -;refine Ba (Gb O) (Ba (Db O) (Rb (Zb (Of iZ rZ O hF.F 0 O O) ?_)));refine Oa hF (MF x hl _) (Na IU O O) ?_;intro w hF;refine Ba (Db O) (Da (Ga (Ea (Ba (Vb O) (Ba (Si O) (Ba (Vb O) ?_))))));refine Lc (d:=12) O (λhg0=>?_) (λhg0=>?_);refine Ca (Ca (Ca (Ba (Tb O O) (Ba (Vb O) (Ca (Ca (Ca (Ca (Ca (Ca (Ca (Ba (Tb O O) (Ta ?_)))))))))))));refine Fa (Ad O (Ea (Ba (Gb O) (Ba (Db O) (Da ?_)))));refine Va (Ua (Ja (Ic (v:=J 0) (x:=.bool false) O O O) ?_));exact⟨by rw[VC (.inl (by simpa using hg0))],hF.same⟩;refine Ba (Ob Qg O) (Zb (Th eZ O hF.F 0 O O) (Ba (Di O O) (Ba (Kb O O) (Ba (Vb O) ?_))));refine Ya (d:=17) O (λhg1=>?_) (λhg1=>?_);refine Ca (Ca (Ca (Ca (Ca (Ca (Ca (Ba (Tb O O) (Da (Ad O (Ea (Ba (Gb O) ?_)))))))))));refine Ba (Db O) (Da ?_);refine Va (Ua (Ja (Ic (v:=J 0) (x:=.bool false) O O O) ?_));exact⟨by rw[VC (.inr (.inl hg1))],hF.same⟩;refine Ba (Ob Eh O) (Zb (Pk jZ O hF.F 0 O O) (Ba (Fj jX O) (Ba (Ob Qg O) (Zb (Th eZ O hF.F 0 O O) ?_))));have hrl:=Vc (x:=x) (by simp_all);refine Ba (Nl O O) (Ba (Ho O O) (Ba (Kb O O) (Da ?_)));refine Ib O O (λhc0=>?_) (λhc0=>?_);refine Ea (Ba (Gb O) (Ba (Db O) (Da ?_)));refine Va (Ua (Ja (Ic (v:=J 0) (x:=.bool false) O O O) ?_));exact⟨by rw[VC (.inr (.inr Aa))],hF.same⟩;refine La (Fa (Ea (Ba (Gb O) (Da (Ga (Ea (Ba (Gb O) (Da (Qa ?_)))))))));have hrt:Rc x=true:=by simp_all
 have hnb:¬(Rc x=false\/x.exp<0\/19<(x.digits.length:Int)+x.exp):=by rw[hrt];simp;omega
 have hwd:=Ls hrt;have hdx:x.digits.all Ge=true:=by rw[We,List.all_append,Bool.and_eq_true]at hwd;exact hwd.1
 have hrl:=Vc hrt;refine Jc (λμ σ w=>∃(j:Nat),∃(v:Int),μ=((x.digits.length:Int)+x.exp-j).toNat/\((j:Int)<=(x.digits.length:Int)+x.exp)/\(v = - Ld ((We x).take j))/\(v<=0)/\(-9223372036854775808<=v)/\AllEq σ [(1,V b1),(5,J v),(6,J ((j:Int)))]/\FR w0 [] [(b1,.cells #[.bool (x.neg),I (x.digits),J (x.exp)] 86)] w) _ ⟨0,0,O,Aa,(O),Aa,Aa,Oq,hF⟩ ?_;rintro μ σ w ⟨j,v,rfl,hj,hv,hv0,hvm,hs,hF⟩;refine Cg.slots hs ?_;clear hs;intro σ;refine Ga (Ea (Ba (Za O) (Ba (Ob Eh O) (Zb (Pk jZ O hF.F 0 O O) (Ba (Fj jX O) (Ba (Ob Qg O) (Zb (Th eZ O hF.F 0 O O) (Ba (Nl O O) (Ba (Di O O) (Da ?_))))))))));refine Ib O O (λhc1=>?_) (λhc1=>?_);refine La (Fa (Ga (Qa (Ea (Ba (Gb O) (Da (Ga ?_)))))));refine Bf (λσ w=>∃(d:Int),(d=dgt x.digits j-48)/\AllEq σ [(1,V b1),(5,J v),(6,J ((j:Int))),(7,J d)]/\FR w0 [] [(b1,.cells #[.bool (x.neg),I (x.digits),J (x.exp)] 86)] w) ?_ ?_;refine Ea (Ba (Za O) (Ba (Ob Eh O) (Zb (Pk jZ O hF.F 0 O O) (Ba (Fj jX O) (Ba (Di O O) (Da ?_))))));refine Ib O O (λhc2=>?_) (λhc2=>?_);refine Ha (Ba (Ob Eh O) (Zb (Pk jZ O hF.F 0 O O) (Ba (Za O) ?_)));refine Ka (v:=.int .u8 (bZ (x.digits) j)) (by rw[<-Zh (s:=x.digits) (p:=j) Aa];exact Oc j jX O O Aa) ?_;refine Ka (v:=.int .u8 (bZ x.digits j-48)) (E0 O O (by have:=LU (s:=x.digits) hdx j;unfold dgt at this;rw[if_pos Aa]at this;rw[IntKind.wrap_u8];omega)) ?_;refine Ka (v:=J (bZ x.digits j-48)) (Zc fX bX O (by have:=Li x.digits j;exact Rh Aa Aa)) ?_;refine Ba (Gb O) (Ta ?_)
 ·exact Hb ⟨(bZ x.digits j-48),(by unfold dgt;first|(rw[if_pos Aa];done)|(rw[if_neg Aa];rfl)),Om,hF⟩
 refine La ?_
 ·exact Hb ⟨(0),(by unfold dgt;first|(rw[if_pos Aa];done)|(rw[if_neg Aa];rfl)),Om,hF⟩
 rintro σ w ⟨d,hd,hs,hF⟩;refine Eg.slots hs ?_;clear hs;intro σ;have hdg:=LU hdx j;have hjw:j<(We x).length:=by rw[Mo];omega
 have hst:=FJ hjw;refine Fa (Ga (Ea (Ba (Za O) (Ba (Za O) (Ba (Nl O O) (Ka (v:=J (-((9223372036854775808-d)/10))) (ZV O O Ab (Vf (DS d Aa Aa) Aa Aa)) (Ba (Di O O) (Da ?_))))))));refine Ib O O (λhc3=>?_) (λhc3=>?_);refine Ea (Ba (Gb O) (Ba (Db O) (Da ?_)));refine Va (Ua (Ja (Ic (v:=J 0) (x:=.bool false) O O O) ?_));exact⟨by rw[UV hnb (j:=j+1) Aa (by rw[hst];omega)],hF.same⟩;refine La (Fa (Ha (Ba (Za O) (Ka (v:=J (10*v)) (F3 O O (Rh Aa Aa)) (Ba (Za O) (Ba (P7 O O) (Ba (Gb O) (Ta (Bb (Fa (Ha (Ba (Za O) (Ba (Ek (((j+1:Nat):Int)) O O) ?_)))))))))))));refine Ba (Gb O) (Ta ?_);refine Hb ⟨_,?_,j+1,10*v-d,O,Aa,(by rw[hst];omega),Aa,Aa,Oq,hF⟩;omega;refine Ec (Ac O ?_);refine Fa (Ga (Ea (Ba (Ob Gz O) (Zb (N3 fZ O hF.F 0 O O) (Da ?_)))));refine Le O O (λhc4=>?_) (λhc4=>?_);refine Ea (Ba (Za O) (Ba (Gb O) (Ba (Db O) (Da ?_))));refine Va (Ua (Ja (Ic (v:=J v) (x:=.bool true) O O O) ?_));have eT:(We x).take j=We x:=List.take_of_length_le (by rw[Mo];omega);rw[eT]at hv;exact⟨by rw[NO hnb (by assumption),if_pos Aa,hv],hF.same⟩;refine La (Fa (Ga (Ea (Ba (Za O) (Ba (Qf O O) (Da ?_))))));refine Ib O O (λhc5=>?_) (λhc5=>?_);refine Ea (Ba (Gb O) (Ba (Db O) (Da ?_)));refine Va (Ua (Ja (Ic (v:=J 0) (x:=.bool false) O O O) ?_));have eT:(We x).take j=We x:=List.take_of_length_le (by rw[Mo];omega);rw[eT]at hv;exact⟨by rw[BB hnb (by assumption),if_neg Aa],hF.same⟩;refine La (Fa (Ea (Ba (Za O) (Ka (v:=J (-v)) (L3 O (Vf Aa Aa Aa)) (Ba (Gb O) (Ba (Db O) (Da ?_)))))));refine Va (Ua (Ja (Ic (v:=J (-v)) (x:=.bool true) O O O) ?_));have eT:(We x).take j=We x:=List.take_of_length_le (by rw[Mo];omega);rw[eT]at hv;exact⟨by rw[BB hnb (by assumption),if_pos Aa,hv,Int.neg_neg],hF.same⟩
end Go.Scarf
