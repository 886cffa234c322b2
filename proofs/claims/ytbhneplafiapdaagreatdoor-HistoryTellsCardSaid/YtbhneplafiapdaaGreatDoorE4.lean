/- A part of the proof. -/
import Derived.Test.YtbhneplafiapdaaGreatDoorE1
import Derived.Test.YtbhneplafiapdaaGreatDoorBd
import Derived.Lib.ParseIntBCases
set_option linter.all false
set_option maxHeartbeats 8000000
set_option maxRecDepth 10000
namespace Go.Scarf
open Go.RowKit Go.Proofs Go.Proofs.Tryz
theorem Up(s:Str):Nf s 45=Lib.hasPrefix s [45]:=A7 s 45
theorem XI(s:Str):Nf s 43=Lib.hasPrefix s [43]:=A7 s 43
theorem Hw(s:Str)(c:UInt8):Lib.trimPrefix s [c]=if Lib.hasPrefix s [c]=true then s.drop 1 else s:=rfl
theorem VQ{W:Str}(h:Bg W=true):decide (¬bZ W 0=48)=decide (W.head?≠some 48):=by
  have hp:=List.length_pos_iff.2 (Bf h);rw[<-Uf hp];exact decide_eq_decide.2 (not_congr (Hg hp))
theorem KB{s:Str}{neg:Bool}{whole rest:Str}{minus:Bool}{exp:Str}{ok:Bool}(h:Parts s neg whole rest minus exp ok) :
    ok=(Cb s).2/\(ok=true->neg=(Cb s).1.neg/\whole=(Cb s).1.whole/\rest=(Cb s).1.rest/\minus=(Cb s).1.low/\Lib.trimLeftB exp 48=Lib.trimLeftB (Cb s).1.exp 48/\Bg exp=true/\Bg whole=true/\rest.all Rd=true):=by
  obtain⟨s1,W,Z,R1,f,g,rfl,rfl,hc,hd,rfl,rfl,rfl,rfl,rfl⟩:=h.h;have e1:(if Nf s 45=true then s.drop 1 else s)=Lib.trimPrefix s [45]:=by rw[Hw,Up]
  rw[e1]at hc hd;have h2:(Oa [101,69] (Lib.trimPrefix s [45])).2.1=Z:=by rw[hc]
  have h3:(Oa [101,69] (Lib.trimPrefix s [45])).2.2=f:=by rw[hc]
  have g1:(Oa [46] (Oa [101,69] (Lib.trimPrefix s [45])).1).1=whole:=by rw[hd]
  have g2:(Oa [46] (Oa [101,69] (Lib.trimPrefix s [45])).1).2.1=R1:=by rw[hd]
  have g3:(Oa [46] (Oa [101,69] (Lib.trimPrefix s [45])).1).2.2=g:=by rw[hd]
  have hr:R1=if g=true then R1 else []:=by
    cases g with
    | true=>rfl
    | false=>rw[<-g2];exact Nm [46] _ g3
  have he:∀(neg low:Bool)(e:Str),Td neg low (Oa [101,69] (Lib.trimPrefix s [45])).1 e=(⟨neg,low,whole,R1,e⟩,Bg whole&&(!g || Bg R1)&&(decide (whole=[48]) || decide (whole.head?≠some 48))):=by
    intro neg low e;simp only[Td,g1,g2,g3]
  have hk:∀e:Str,Bg e=true->Su whole (if g=true then R1 else [48]) e=(Bg whole&&(!g || Bg R1)&&(decide (whole=[48]) || decide (whole.head?≠some 48))):=by
    intro e he;unfold Su;rw[he,Bool.true_and];by_cases hw:Bg whole=true
    ·rw[VQ hw, hw, Bool.true_and, Bool.true_and]
     cases g with
     | true=>rfl
     | false =>
       have:Bg [48]=true:=by decide
       simp[this]
    rw[Bool.not_eq_true]at hw;rw[hw];simp
  have hok:∀e:Str,Su whole (if g=true then R1 else [48]) e=true->Bg e=true/\Bg whole=true/\(if g=true then R1 else []).all Rd=true:=by
    intro e h;unfold Su at h;simp only[Bool.and_eq_true]at h;refine⟨h.2.2.1,h.1,?_⟩;cases g with
    | true=>exact Oq h.2.1
    | false=>rfl
  have ht:∀e:Str,Bg e=false->Su whole (if g=true then R1 else [48]) e=false:=by
    intro e h;unfold Su;rw[h];simp
  cases f with
  | true =>
    have hex:Rm true Z=(if Lib.hasPrefix Z [45] then Lib.trimPrefix Z [45] else Lib.trimPrefix (Lib.trimPrefix Z [45]) [43]):=by
      rw[Rm,if_pos rfl,Up,XI,Hw Z 45];by_cases h1:Lib.hasPrefix Z [45]=true
      ·simp[h1]
      simp only[h1, if_false, false_or];rw[Hw];simp
    have er:Cb s=if Bg (Rm true Z)=true then Td (Lib.hasPrefix s [45]) (Lib.hasPrefix Z [45]) (Oa [101,69] (Lib.trimPrefix s [45])).1 (Rm true Z) else (⟨Lib.hasPrefix s [45],Lib.hasPrefix Z [45],[],[],[]⟩,false):=by
      unfold Cb;simp only;rw[if_pos h3,h2,hex]
    by_cases hx:Bg (Rm true Z)=true
    ·rw[if_pos hx, he]at er
     rw[er];refine⟨hk _ hx,λh=>⟨Up s,O,hr.symm,by rw[Bool.true_and,Up],O,hok _ h⟩⟩
    rw[if_neg hx]at er;rw[Bool.not_eq_true]at hx;rw[er];refine⟨ht _ hx,λh=>?_⟩;rw[ht _ hx]at h;cases h
  | false =>
    have hz:Z=[]:=by rw[<-h2];exact Nm [101,69] _ h3
    have er:Cb s=Td (Lib.hasPrefix s [45]) false (Oa [101,69] (Lib.trimPrefix s [45])).1 Z:=by
      unfold Cb;simp only;rw[if_neg (by rw[h3];decide),h2]
    have hx:Bg (Rm false Z)=true:=by rw[Rm,if_neg Cc];decide
    rw[he]at er;rw[er];refine⟨hk _ hx,λh=>⟨Up s,O,hr.symm,O,?_,hok _ h⟩⟩;subst hz;rw[Rm,if_neg Cc];rfl
theorem UG{s:Str}{neg:Bool}{whole rest:Str}{minus:Bool}{exp:Str}{ok:Bool}(h:Parts s neg whole rest minus exp ok):whole.length<=s.length/\rest.length<=s.length/\exp.length<=s.length+1:=by
  obtain⟨s1,W,Z,R1,f,g,rfl,rfl,hc,hd,rfl,rfl,rfl,rfl,rfl⟩:=h.h;have h1:(if Nf s 45=true then s.drop 1 else s).length<=s.length:=by split <;> simp
  have h2:=Re [101,69] (if Nf s 45=true then s.drop 1 else s);have h3:=Re [46] (Oa [101,69] (if Nf s 45=true then s.drop 1 else s)).1;rw[hd]at h3;have h4:Z.length<=s.length:=by rw[hc]at h2;exact fQ h2.2 h1
  refine⟨fQ h3.1 (fQ h2.1 h1),?_,?_⟩
  ·split
   ·exact fQ h3.2 (fQ h2.1 h1)
   exact Nat.zero_le _
  unfold Rm;split
  ·split
   ·simp;omega
   omega
  simp
theorem O1(c:UInt8)(s:Str):Lib.trimLeftB (c::s) 48=if c=48 then Lib.trimLeftB s 48 else c::s:=by
  unfold Lib.trimLeftB;rw[List.dropWhile_cons];by_cases h:c=48 <;> simp[h]
theorem Gs{E:Str}(h:0<E.length)(h0:bZ E 0=48):Lib.trimLeftB (E.drop 1) 48=Lib.trimLeftB E 48:=by
  rw[<-Uf h]at h0;cases E with
  | nil=>simp at h
  | cons c s =>
    have:c=48:=Mq.1 h0;rw[O1,if_pos this];rfl
theorem Cs{E:Str}(h:0<E.length)(h0:¬bZ E 0=48):Lib.trimLeftB E 48=E:=by
  rw[<-Uf h]at h0;cases E with
  | nil=>simp at h
  | cons c s =>
    have:¬c=48:=λe=>h0 (Mq.2 e);rw[O1,if_neg this]
theorem M8{E:Str}(h:E.all Rd=true):(E.drop 1).all Rd=true:=by
  rw[List.all_eq_true]at h ⊢;exact λx hx=>h x (List.mem_of_mem_drop hx)
theorem Vq{E:Str}(h:0<E.length)(h1:E.length<=1\/¬bZ E 0=48):Yc E=Yc (Lib.trimLeftB E 48)/\((9:Int)<(E.length:Int)↔9<(Lib.trimLeftB E 48).length):=by
  by_cases h0:bZ E 0=48
  ·have h2 : E.length = 1 := by rcases h1 with h1|h1;omega;exact absurd h0 h1
   rw[<-Gs h h0]
   match E,h2 with
   | [c], _ =>
     rw[<-Uf (s:=[c]) (p:=0) Ua]at h0;have:c=48:=Mq.1 h0;subst this;simp[Lib.trimLeftB,Yc]
  rw[Cs h h0];exact⟨O,by omega⟩
theorem EA(l:Str)(a:UInt8):Lib.trimRightB (l++[a]) 48=if a=48 then Lib.trimRightB l 48 else l++[a]:=by
  unfold Lib.trimRightB;rw[List.reverse_append];simp only[List.reverse_cons,List.reverse_nil,List.nil_append,List.cons_append,List.dropWhile_cons];by_cases h:a=48 <;> simp[h]
theorem Wz{d:Str}{m:Nat}(h1:1<=m)(h2:m<=d.length):Lib.trimRightB (d.take m) 48=if bZ (d.take m) (m-1)=48 then Lib.trimRightB (d.take (m-1)) 48 else d.take m:=by
  have h3:m-1<d.length:=by omega
  have e:d.take m=d.take (m-1)++[d[m-1]]:=by
    have:=iQ h3
    rwa [show m-1+1=m by omega]at this
  have h4:bZ (d.take m) (m-1)=((d[m-1].toNat:Nat):Int):=by
    rw[<-Uf (by simp;omega)];simp
  rw[h4,e,EA];by_cases h:d[m-1]=48
  ·rw[if_pos h,if_pos (Mq.2 h)]
  rw[if_neg h,if_neg (λhh=>h (Mq.1 hh))]
theorem Ry{d:Str}{m i:Nat}(h:i<m)(h2:m<=d.length):bZ (d.take m) i=bZ d i:=by
  rw[<-Uf (show i<(d.take m).length by simp;omega),<-Uf (show i<d.length by omega)];simp
theorem FN{s:Str}(h:(Cb s).1.low=true):Bh s = - Yc (Lib.trimLeftB (Cb s).1.exp 48):=by unfold Bh;rw[if_pos h]
theorem XH{s:Str}(h:(Cb s).1.low=false):Bh s=Yc (Lib.trimLeftB (Cb s).1.exp 48):=by unfold Bh;rw[if_neg (by rw[h];decide)]
theorem Vs{x:Num}(hd:x.digits.all Rd=true)(hp:0<x.digits.length)(hl:x.digits.length<=1000)(h0:¬bZ x.digits 0=48)(h1:¬bZ x.digits (x.digits.length-1)=48):Ad x=(decide (-1000000<=x.exp)&&decide (x.exp<=1000000)):=by
  have hz:¬x=Num.zero:=by rintro rfl;simp[Num.zero]at hp
  rw[<-Uf hp]at h0;rw[<-Uf (show x.digits.length-1<x.digits.length by omega)]at h1;exact Nl hz (by unfold Bg;rw[hd,decide_eq_true (List.length_pos_iff.1 hp)];rfl) U hp h0 U h1
theorem IM(s:Str)(hl:s.length<=140737488355327)(w0:World):Calls prog 151 #[I s] w0 (Vd λv w'=>v=.tuple #[Kj (Dd s).1,J (Dd s).2]/\Same [] w0 w'):=by
 refine Ka func151 O ntmps151 Mb (Jc _) ?_;have hF:=FR.start w0 [];refine Ia (Ve (cs:=#[.bool false,I [],J 0]) hF yZ O ?_);rintro b1 w hb1 hF -;refine Ca (Bc O) (Ec (Ca (Ic O) ?_));refine Kc (IQ s U _) (Va UV O O) ?_;rintro _ w ⟨neg,whole,rest,minus,exp,ok,rfl,hp,hE⟩;obtain⟨hok,hfs⟩:=KB hp;obtain⟨hl1,hl2,hl3⟩:=UG hp;have hF:=hF.ext hE;refine Ca (Tq O) (Ca (Qp O O) (Ca (RE O O) (Ca (RE O O) (Ca (Qp O O) (Ca (RE O O) (Ca (Qp O O) (Ca (Eb O) (Ca (Qd O) (Ca (Qd O) (Ca (Eb O) (Ca (Qd O) (Ca (Eb O) (Ra ?_)))))))))))));refine Ga (Ha (Ia (Ca (Xb O) (Ca (Bi O) (Fa ?_)))));refine Je O O (λhc0=>?_) (λhc0=>?_);refine Ia (Ja (w':=w) (v:=.agg #[.bool false,I [],J 0]) Nc ?_);refine Hh hF jZ O O Cj ?_;rintro w hF -;refine Ca (Bc O) (Fa ?_);refine Gb (Fb (Pa (Nd O (l:=[.bool false,I [],J 0]) O aZ jZ O (hF.cellsAll 0 O) (v:=J 2) O) ?_));exact⟨by rw[Df,if_pos (by rw[<-hok];simp_all)];rfl,hF.same⟩;have hokt:ok=true:=by simp_all
 have hfs:=hfs hokt;have hwr:whole.length=(Cb s).1.whole.length/\rest.length=(Cb s).1.rest.length:=⟨by rw[hfs.2.1],by rw[hfs.2.2.1]⟩;refine Ma (Ga (Ha (Ia (Ca (Ic O) (Ca (Bj tZ O) (Ca (Ic O) (Ca (Bj tZ O) (Ca (Uk (((whole.length+rest.length:Nat):Int)) O O) (Ca (Jo O O) (Fa ?_))))))))));refine Wb O O (λhc1=>?_) (λhc1=>?_);refine Ia (Ja (w':=w) (v:=.agg #[.bool false,I [],J 0]) Nc ?_);refine Hh hF jZ O O Cj ?_;rintro w hF -;refine Ca (Bc O) (Fa ?_);refine Gb (Fb (Pa (Nd O (l:=[.bool false,I [],J 0]) O aZ jZ O (hF.cellsAll 0 O) (v:=J 3) O) ?_));exact⟨by rw[Df,if_neg (by rw[<-hok,hokt];decide),if_pos U];rfl,hF.same⟩;refine Ma (Ga (Ha ?_));refine Ce (λσ w=>∃(E:Str),(Yc E=Yc (Lib.trimLeftB (Cb s).1.exp 48))/\((9:Int)<(E.length:Int)↔9<(Lib.trimLeftB (Cb s).1.exp 48).length)/\(E.all Rd=true)/\(E.length<=s.length+1)/\AllEq σ [(2,V b1),(4,.bool (neg)),(5,I whole),(6,I rest),(7,.bool (minus)),(8,I E)]/\FR w0 [] [(b1,.cells #[.bool false,I [],J 0] 73)] w) ?_ ?_;refine Sa (Gc (λμ σ w=>∃(E:Str),μ=E.length/\(Lib.trimLeftB E 48=(Lib.trimLeftB (Cb s).1.exp 48))/\(0<E.length)/\(E.all Rd=true)/\(E.length<=exp.length)/\AllEq σ [(2,V b1),(4,.bool (neg)),(5,I whole),(6,I rest),(7,.bool (minus)),(8,I E)]/\FR w0 [] [(b1,.cells #[.bool false,I [],J 0] 73)] w) _ ⟨exp,O,(hfs.2.2.2.2.1),(List.length_pos_iff.2 (Bf hfs.2.2.2.2.2.1)),(Oq hfs.2.2.2.2.2.1),(gQ _),UA,hF⟩ ?_);rintro μ σ w ⟨E,rfl,hEt,hE0,hE3,hE4,hs,hF⟩;refine Cg.slots hs ?_;clear hs;intro σ;refine Ha (Ia (Ca (Ic O) (Ca (Bj tZ O) (Ca (Jo O O) (Ca (Xb O) ?_)))));refine Xa (d:=35) O (λhg0=>?_) (λhg0=>?_);refine Ca (Ic O) ?_;refine Ja (v:=.int .u8 (bZ (E) 0)) (by rw[<-Uf (s:=E) (p:=0) U];exact Gd 0 tZ O O U) ?_;refine Ca (Jj O O) (Ca (Rb O O) (Fa ?_));refine Wb O O (λhc2=>?_) (λhc2=>?_);refine Ma (Ga (Sa (Ea (Ca (Ic O) (Ja (v:=I ((E:Str).drop (1))) (Lf (1) tZ O O U) (Ca (Qd O) (Ra (Ib ?_))))))))
 refine Za ⟨_,?_,E.drop 1,O,(by rw[Gs U U];exact hEt),(by simp;omega),(M8 hE3),(by simp;omega),UA,hF⟩;simp;omega;refine Zb (Vb O ?_);exact Za ⟨(E),(by rw[<-hEt];exact (Vq hE0 U).1),(by rw[<-hEt];exact (Vq hE0 U).2),(hE3),U,UA,hF⟩;refine Da (Da (Da (Ca (Jb O O) (Fa (If O ?_)))));refine Zb (Vb O ?_);exact Za ⟨(E),(by rw[<-hEt];exact (Vq hE0 U).1),(by rw[<-hEt];exact (Vq hE0 U).2),(hE3),U,UA,hF⟩;rintro σ w ⟨E,hE1,hE2,hE3,hE4,hs,hF⟩;refine Eg.slots hs ?_;clear hs;intro σ;refine Ga (Ha (Ia (Ca (Ic O) (Ca (Bj tZ O) (Ca (Jo O O) (Fa ?_))))));refine Wb O O (λhc3=>?_) (λhc3=>?_);refine Ia (Ja (w':=w) (v:=.agg #[.bool false,I [],J 0]) Nc ?_);refine Hh hF jZ O O Cj ?_;rintro w hF -;refine Ca (Bc O) (Fa ?_);refine Gb (Fb (Pa (Nd O (l:=[.bool false,I [],J 0]) O aZ jZ O (hF.cellsAll 0 O) (v:=J 4) O) ?_));exact⟨by rw[Df,if_neg (by rw[<-hok,hokt];decide),if_neg U,if_pos U];rfl,hF.same⟩;refine Ma (Ga (Ia (Ca (Bc O) (Fa (Ha (Ia (Ca (Bc O) (Fa (Sa ?_)))))))));refine Gc (λμ σ w=>∃(q:Nat),μ=E.length-q/\(q<=E.length)/\AllEq σ [(2,V b1),(4,.bool (neg)),(5,I whole),(6,I rest),(7,.bool (minus)),(8,I E),(10,J (Yc (E.take q))),(11,J ((q:Int)))]/\FR w0 [] [(b1,.cells #[.bool false,I [],J 0] 73)] w) _ ⟨0,O,(Nat.zero_le _),SZ,hF⟩ ?_;rintro μ σ w ⟨q,rfl,hq,hs,hF⟩;refine Cg.slots hs ?_;clear hs;intro σ;refine Ha (Ia (Ca (Db O) (Ca (Ic O) (Ca (Bj tZ O) (Ca (Tg O O) (Fa ?_))))));refine Wb O O (λhc4=>?_) (λhc4=>?_);have hdq:=List.all_eq_true.1 hE3 E[q] (eQ U);unfold Rd at hdq;simp only[Bool.and_eq_true,decide_eq_true_eq]at hdq;have hbq:=UInt8.toNat_lt E[q];have hb:=Uq (E.take q) (Gn q hE3) (by rw[List.length_take];omega);refine Ma (Ga (Ha (Sa (Ea (Ca (Db O) (Ja (v:=J (10*Yc (E.take q))) (DD O O (Mg U U)) (Ca (Ic O) (Ca (Db O) (Ja (v:=.int .u8 ((((E:Str)[q]' U).toNat:Int))) (Gd (q) tZ O O U) ?_)))))))))
 refine Ja (v:=.int .u8 (((E[q].toNat:Nat):Int)-48)) (U3 O O (by rw[IntKind.wrap_u8];omega)) ?_;refine Ja (v:=J (((E[q].toNat:Nat):Int)-48)) (Oe underlying5 rZ O (Mg U U)) ?_;refine Ja (v:=J (Yc (E.take (q+1)))) (Lr O O (by rw[Fk _ q U];exact Mg U U)) ?_;refine Ca (Bc O) (Ra (Ib (Ga (Ea (Ca (Db O) (Ca (Uk (((q+1:Nat):Int)) O O) (Ca (Bc O) (Ra ?_))))))));refine Za ⟨_,?_,q+1,O,U,SZ,hF⟩;omega;refine Zb (Vb O ?_);refine Ga ?_;have eT:E.take q=E:=List.take_of_length_le U;have hb:=Uq E hE3 U;have hE:-1000000000<Bh s/\Bh s<1000000000:=by unfold Bh;rw[<-hE1];split <;> omega
 refine Ha (Ce (λσ w=>AllEq σ [(2,V b1),(4,.bool (neg)),(5,I whole),(6,I rest),(10,J (Bh s))]/\FR w0 [] [(b1,.cells #[.bool false,I [],J 0] 73)] w) ?_ ?_);refine Ia (Ca (Xb O) (Fa ?_));refine Je O O (λhc5=>?_) (λhc5=>?_);have eE:- Yc E=Bh s:=by rw[hE1,FN (by rw[<-hfs.2.2.2.1];assumption)]
 rw[eT];refine Ea (Ca (Db O) ?_);refine Ja (v:=J (Bh s)) (Hz O (Qf (by rw[<-eE];omega) U U)) ?_;refine Ca (Bc O) (Ra ?_);exact Za ⟨Ll,hF⟩;have eE:Yc E=Bh s:=by rw[hE1,XH (by rw[<-hfs.2.2.2.1];assumption)]
 rw[eT,eE];refine Ma ?_;exact Za ⟨Ll,hF⟩;rintro σ w ⟨hs,hF⟩;refine Eg.slots hs ?_;clear hs;intro σ;refine Ga (Ia (Ca (Db O) (Ca (Ic O) (Ca (Bj tZ O) (Ca (D1 O O) (Ca (Bc O) (Ec (Ca (Ic O) (Ca (Ic O) ?_)))))))));refine Ja (v:=I ((whole)++(rest))) (Zj O O U) (Ca (Qd O) (Fa (Ha ?_)));refine Ce (λσ w=>∃(d:Str),(d=(Lib.trimLeftB ((Cb s).1.whole++(Cb s).1.rest) 48))/\(0<d.length->¬bZ d 0=48)/\(d.all Rd=true)/\(d.length<=whole.length+rest.length)/\AllEq σ [(2,V b1),(4,.bool (neg)),(10,J (Bh s-(rest.length:Nat))),(12,I d)]/\FR w0 [] [(b1,.cells #[.bool false,I [],J 0] 73)] w) ?_ ?_;refine Sa ?_;refine Gc (λμ σ w=>∃(D:Str),μ=D.length/\(Lib.trimLeftB D 48=Lib.trimLeftB (whole++rest) 48)/\(D.all Rd=true)/\(D.length<=whole.length+rest.length)/\AllEq σ [(2,V b1),(4,.bool (neg)),(10,J (Bh s-(rest.length:Nat))),(12,I D)]/\FR w0 [] [(b1,.cells #[.bool false,I [],J 0] 73)] w) _ ⟨(whole++rest),O,(O),(by rw[List.all_append,Oq hfs.2.2.2.2.2.2.1,hfs.2.2.2.2.2.2.2];rfl),Ua,Fj,hF⟩ ?_;rintro μ σ w ⟨D,rfl,hDt,hDa,hDl,hs,hF⟩;refine Cg.slots hs ?_;clear hs;intro σ;refine Ha (Ia (Ca (Ic O) (Ca (Bj tZ O) (Ca (Jo O O) (Ca (Xb O) ?_)))));refine Xa (d:=73) O (λhg1=>?_) (λhg1=>?_);refine Ca (Ic O) ?_;refine Ja (v:=.int .u8 (bZ (D) 0)) (by rw[<-Uf (s:=D) (p:=0) U];exact Gd 0 tZ O O U) ?_;refine Ca (Jj O O) (Ca (Rb O O) (Fa ?_));refine Wb O O (λhc6=>?_) (λhc6=>?_);refine Ma (Ga (Sa (Ea (Ca (Ic O) (Ja (v:=I ((D:Str).drop (1))) (Lf (1) tZ O O U) (Ca (Qd O) (Ra (Ib ?_))))))));refine Za ⟨_,?_,D.drop 1,O,(by rw[Gs U U];exact hDt),(M8 hDa),(by simp;omega),Fj,hF⟩;simp;omega;refine Zb (Vb O ?_);exact Za ⟨(D),(by rw[<-hfs.2.1,<-hfs.2.2.1,<-hDt];first|exact (Cs U U).symm|(have h0:D=[]:=List.eq_nil_of_length_eq_zero U;rw[h0];rfl)),(λh=>by omega),(hDa),(hDl),Fj,hF⟩;refine Da (Da (Da (Ca (Jb O O) (Fa (If O ?_)))))
 refine Zb (Vb O ?_);exact Za ⟨(D),(by rw[<-hfs.2.1,<-hfs.2.2.1,<-hDt];first|exact (Cs U U).symm|(have h0:D=[]:=List.eq_nil_of_length_eq_zero U;rw[h0];rfl)),(λh=>by omega),(hDa),(hDl),Fj,hF⟩;rintro σ w ⟨d,hd,hd0,hda,hdl,hs,hF⟩;refine Eg.slots hs ?_;clear hs;intro σ;refine Ga (Ha (Ia (Ca (Ic O) (Ca (Rx O O) (Fa ?_)))));refine Wb O O (λhc7=>?_) (λhc7=>?_);refine Ia (Ja (w':=w) (v:=.agg #[.bool false,I [],J 0]) Nc ?_);refine Hh hF jZ O O Cj ?_;rintro w hF -;refine Ca (Bc O) (Fa ?_);refine Gb (Fb (Pa (Nd O (l:=[.bool false,I [],J 0]) O aZ jZ O (hF.cellsAll 0 O) (v:=J 0) O) ?_));exact⟨by rw[Df,if_neg (by rw[<-hok,hokt];decide),if_neg U,if_neg U,if_pos (by rw[<-hd];assumption)];rfl,hF.same⟩;refine Ma (Ga (Ha ?_));refine Ce (λσ w=>∃(m:Nat),∃(sh:Str),∃(ee:Int),(ee=Bh s-(rest.length:Nat)+(d.length-m:Nat))/\(sh=(d:Str).take m)/\(1<=m)/\(m<=d.length)/\(Lib.trimRightB d 48=d.take m)/\(¬bZ ((d:Str).take m) (m-1)=48)/\AllEq σ [(2,V b1),(4,.bool (neg)),(10,J ee),(12,I sh)]/\FR w0 [] [(b1,.cells #[.bool false,I [],J 0] 73)] w) ?_ ?_;refine Sa ?_;have hdp:0<d.length:=List.length_pos_iff.2 (by assumption);refine Gc (λμ σ w=>∃(m:Nat),∃(D2:Str),∃(ee:Int),μ=m+1/\(ee=Bh s-(rest.length:Nat)+(d.length-m:Nat))/\(D2=(d:Str).take m)/\(1<=m)/\(m<=d.length)/\(Lib.trimRightB d 48=Lib.trimRightB (d.take m) 48)/\AllEq σ [(2,V b1),(4,.bool (neg)),(10,J ee),(12,I D2)]/\FR w0 [] [(b1,.cells #[.bool false,I [],J 0] 73)] w) _ ⟨d.length,d,Bh s-(rest.length:Nat),O,U,(by rw[List.take_length]),(hdp),(gQ _),(by rw[List.take_length]),Fj,hF⟩ ?_;rintro μ σ w ⟨m,D2,ee,rfl,hee,hD2,hm1,hm2,hmt,hs,hF⟩;refine Cg.slots hs ?_;clear hs;intro σ;have hml:D2.length=m:=by rw[hD2,List.length_take];omega
 refine Ha (Ia (Ca (Ic O) (Ca (Ic O) (Ca (Bj tZ O) (Ca (FU (((m-1:Nat):Int)) O O) ?_)))));refine Ja (v:=.int .u8 (bZ (D2) (m-1))) (by rw[<-Uf (s:=D2) (p:=(m-1)) U];exact Gd (m-1) tZ O O U) ?_;refine Ca (Jj O O) (Fa ?_);refine Wb O O (λhc8=>?_) (λhc8=>?_);refine Ma (Ga (Sa (Ia (Ca (Ic O) (Ca (Ic O) (Ca (Bj tZ O) (Ca (FU (((m-1:Nat):Int)) O O) (Ja (v:=I ((D2:Str).take (m-1))) (Bo (m-1) tZ O O U) (Ca (Qd O) (Fa (Ea ?_)))))))))));refine Ca (Db O) (Ca (Uk (ee+1) O O) (Ca (Bc O) (Ra (Ib ?_))));refine Za ⟨_,?_,m-1,D2.take (m-1),ee+1,rfl,U,(by rw[hD2,List.take_take,Nat.min_eq_left U]),(by have h:=hd0 hdp;rw[<-Ry (m:=m) U hm2,<-hD2]at h;rcases Nat.lt_or_ge 1 m with h1|h1;omega;exfalso;have h2:m-1=0:=U;have h3:bZ D2 (m-1)=48:=(by assumption);rw[h2]at h3;exact absurd h3 h),U,(by rw[hmt,Wz hm1 hm2,if_pos (by rw[<-hD2];assumption)]),Fj,hF⟩;omega;refine Zb (Vb O ?_);exact Za ⟨(m),(D2),(ee),(hee),(hD2),(hm1),(hm2),(by rw[hmt,Wz hm1 hm2,if_neg (by rw[<-hD2];assumption)]),(by rw[<-hD2];assumption),Fj,hF⟩;rintro σ w ⟨m,sh,ee,hee,hsh,hm1,hm2,hmt,hlast,hs,hF⟩;refine Eg.slots hs ?_;clear hs;intro σ;refine Ga (Ha (Ia (Ca (Db O) (Ca (Tg O O) (Ca (Xb O) ?_)))));refine Xa (d:=98) O (λhg2=>?_) (λhg2=>?_);refine Da (Da (Ca (Rb O O) (Fa (Od O (Ia ?_)))));refine Ja (w':=w) (v:=.agg #[.bool false,I [],J 0]) Nc (Hh hF jZ O O Cj ?_);rintro w hF -;refine Ca (Bc O) (Fa ?_);refine Gb (Fb (Pa (Nd O (l:=[.bool false,I [],J 0]) O aZ jZ O (hF.cellsAll 0 O) (v:=J 4) O) ?_));subst hsh;subst hee;have hne:¬d=[]:=List.length_pos_iff.1 U;have hrf:=Vs (x:=⟨(Cb s).1.neg,d.take m,Bh s-(rest.length:Nat)+(d.length-m:Nat)⟩) (Gn m hda) (by simp;omega) (by simp;omega) (by rw[Ry U hm2];exact hd0 U) (by show ¬bZ (d.take m) ((d.take m).length-1)=48;rw[List.length_take,Nat.min_eq_left hm2];exact hlast)
 have hfe:Bh s-(rest.length:Nat)+(d.length-m:Nat)=Bh s-(Cb s).1.rest.length+d.length-(d.take m).length:=by rw[List.length_take,Nat.min_eq_left hm2,<-hwr.2];omega
 refine⟨?_,hF.same⟩;rw[Df,if_neg (by rw[<-hok,hokt];decide),if_neg U,if_neg U,<-hd,if_neg hne,hmt,<-hfe,hrf]
 first|(rw[if_pos (by simp;omega)];rfl)|(rw[if_neg (by simp;omega),hfs.1];rfl)
 refine Ca (Db O) (Ca (Jo O O) (Ca (Jb O O) (Fa ?_)));refine Wb O O (λhc9=>?_) (λhc9=>?_);refine Ia (Ja (w':=w) (v:=.agg #[.bool false,I [],J 0]) Nc ?_);refine Hh hF jZ O O Cj ?_;rintro w hF -;refine Ca (Bc O) (Fa ?_);refine Gb (Fb (Pa (Nd O (l:=[.bool false,I [],J 0]) O aZ jZ O (hF.cellsAll 0 O) (v:=J 4) O) ?_));subst hsh;subst hee;have hne:¬d=[]:=List.length_pos_iff.1 U;have hrf:=Vs (x:=⟨(Cb s).1.neg,d.take m,Bh s-(rest.length:Nat)+(d.length-m:Nat)⟩) (Gn m hda) (by simp;omega) (by simp;omega) (by rw[Ry U hm2];exact hd0 U) (by show ¬bZ (d.take m) ((d.take m).length-1)=48;rw[List.length_take,Nat.min_eq_left hm2];exact hlast);have hfe:Bh s-(rest.length:Nat)+(d.length-m:Nat)=Bh s-(Cb s).1.rest.length+d.length-(d.take m).length:=by rw[List.length_take,Nat.min_eq_left hm2,<-hwr.2];omega
 refine⟨?_,hF.same⟩;rw[Df,if_neg (by rw[<-hok,hokt];decide),if_neg U,if_neg U,<-hd,if_neg hne,hmt,<-hfe,hrf]
 first|(rw[if_pos (by simp;omega)];rfl)|(rw[if_neg (by simp;omega),hfs.1];rfl)
 refine Ma (Ga (Ia (Ca (Xb O) (Ca (Ic O) (Ca (Db O) ?_)))));refine Ja (w':=w) (v:=.agg #[.bool (neg),I sh,J ee]) Nc (Hh hF jZ O O Cj ?_);rintro w hF -;refine Ca (Bc O) (Fa ?_);refine Gb (Fb (Pa (Nd O (l:=[.bool (neg),I sh,J ee]) O aZ jZ O (hF.cellsAll 0 O) (v:=J 0) O) ?_));subst hsh;subst hee;have hne:¬d=[]:=List.length_pos_iff.1 U;have hrf:=Vs (x:=⟨(Cb s).1.neg,d.take m,Bh s-(rest.length:Nat)+(d.length-m:Nat)⟩) (Gn m hda) (by simp;omega) (by simp;omega) (by rw[Ry U hm2];exact hd0 U) (by show ¬bZ (d.take m) ((d.take m).length-1)=48;rw[List.length_take,Nat.min_eq_left hm2];exact hlast);have hfe:Bh s-(rest.length:Nat)+(d.length-m:Nat)=Bh s-(Cb s).1.rest.length+d.length-(d.take m).length:=by rw[List.length_take,Nat.min_eq_left hm2,<-hwr.2];omega
 refine⟨?_,hF.same⟩;rw[Df,if_neg (by rw[<-hok,hokt];decide),if_neg U,if_neg U,<-hd,if_neg hne,hmt,<-hfe,hrf]
 first|(rw[if_pos (by simp;omega)];rfl)|(rw[if_neg (by simp;omega),hfs.1];rfl)
theorem L1(s:Str)(hl:s.length<=140737488355327)(w0:World):Calls prog 107 #[I s] w0 (Vd λv w'=>v=.tuple #[Kj (Dd s).1,.bool (Oh s)]/\Same [] w0 w'):=by
 refine Ka func107 O ntmps107 Mb (Jc _) ?_;have hF:=FR.start w0 [];refine Ia (Ve (cs:=#[.bool false,I [],J 0]) hF yZ O ?_);rintro b1 w hb1 hF -;refine Ca (Eb O) (Ec (Ca (Ic O) ?_));refine Ta hF (IM s hl _) (Va HW O O) ?_;intro w hF;refine Ca (Tq O) (Ca (J_ O O) (Ca (Hr O O) ?_));refine Vl hF yZ jZ O ?_;rintro b2 w hb2 hF -;refine Ca (Bc O) (Fa (Ha ?_));refine Rj (.of []) (bQ [0,1,2,3,4,6] (.act 5 (.free 7 (.free 8 (.act 9 (.free 10 .nil)))))) hF ?_;rintro w hF -;refine⟨λwq=>FR w0 [] [(b2,.cells #[.bool ((Dd s).1.neg),I ((Dd s).1.digits),J ((Dd s).1.exp)] 73)] wq,hF.sub (.cons_cons _ (.cons _ .slnil)),?_⟩;refine Cp O (Ej aZ jZ O C0 0 O O) (Zc O (Db O) (Zc O (Jj O O) (Zc O (Xb O) ?_)));refine Hk (d:=14) O (λhg0=>?_) (λhg0=>?_);refine Cp O (Ej aZ jZ O C0 0 O O) (Zc O (Ic O) ?_);refine Wf hF (UP (Dd s).1 (by have:=Ml s;omega) _) O (Va VT O O) ?_;intro w hF;refine⟨hF.sub (.cons_cons _ (.cons _ .slnil)),?_⟩;refine Zc O (Rx O O) (Zc O (Rb O O) ?_);refine Zp O hF jZ O O N4 ?_;rintro w hF -;refine⟨hF.sub (.cons_cons _ (.cons _ .slnil)),?_⟩;refine Zc O (Eb O) (Xd (Ga ?_));refine Gb (Fb (Pa (Nd O (l:=[.bool ((Dd s).1.neg),I ((Dd s).1.digits),J ((Dd s).1.exp)]) O aZ jZ O (hF.cellsAll 1 O) (v:=.bool (decide ((Oi (Dd s).1:Str)=s))) O) ?_));exact⟨by simp_all[Oh,Kj],hF.same⟩;refine Jh O (Jh O ?_);refine UK O ?_ (hF.sub (.cons_cons _ (.cons _ .slnil)));refine Jh O (Zc O (Jb O O) ?_);refine Zp O hF jZ O O N4 ?_;rintro w hF -;refine⟨hF.sub (.cons_cons _ (.cons _ .slnil)),?_⟩;refine Zc O (Eb O) (Xd (Ga ?_));refine Gb (Fb (Pa (Nd O (l:=[.bool ((Dd s).1.neg),I ((Dd s).1.digits),J ((Dd s).1.exp)]) O aZ jZ O (hF.cellsAll 1 O) (v:=.bool false) O) ?_));exact⟨by simp_all[Oh,Kj],hF.same⟩
def WN(s:Str)(i:Nat):Int:=if i<s.length then bZ s i else 48
theorem JI{s:Str}(h:s.all Rd=true)(i:Nat):48<=WN s i/\WN s i<=57:=by
  unfold WN;split
  ·rename_i hi
   have:=List.all_eq_true.1 h s[i] (eQ hi);unfold Rd at this;simp only[Bool.and_eq_true,decide_eq_true_eq]at this;rw[<-Uf hi];omega
  omega
theorem all_cons{c:UInt8}{s:Str}(h:(c::s).all Rd=true):Rd c=true/\s.all Rd=true:=by simpa using h
theorem U8{x:Num}(h:Ad x=true)(hd:x.digits≠[]):x.digits.all Rd=true/\¬bZ x.digits (x.digits.length-1)=48:=by
  have h0:¬x=Num.zero:=by rintro rfl;exact hd rfl
  unfold Ad at h;simp only[Bool.or_eq_true,Bool.and_eq_true,decide_eq_true_eq]at h;rcases h with h|h
  ·exact absurd h h0
  refine⟨Oq h.1.1.1.1.1, ?_⟩;have hl:x.digits.length-1<x.digits.length:=by have:=List.length_pos_iff.2 hd;omega
  intro e;rw[<-Uf hl]at e;exact h.1.1.2 (by rw[getLast?_get hl,Mq.1 e])
def vN(acc:Nat)(l:Str):Nat:=l.foldl (λa c=>a*10+(c.toNat-48)) acc
theorem R6(acc:Nat)(c:UInt8)(l:Str):vN acc (c::l)=vN (acc*10+(c.toNat-48)) l:=by unfold vN;rw[List.foldl_cons]
theorem RY(l:Str):∀acc:Nat,acc<=vN acc l:=by
  induction l with
  | nil=>exact λacc=>gQ _
  | cons c l ih =>
    intro acc;rw[R6];have:=ih (acc*10+(c.toNat-48));omega
theorem Pq{c:UInt8}(h:Rd c=true):48<=c.toNat/\c.toNat<=57:=by
  unfold Rd at h;simpa using h
theorem GJ:∀(l:Str)(acc:Nat),l.all Rd=true->((vN acc l:Nat):Int)=l.foldl (λa c=>10*a+((c.toNat:Int)-48)) (acc:Int)
  | [],_,_=>rfl
  | c :: l, acc, h => by
    obtain⟨hc,hl⟩:=all_cons h;have:=Pq hc;rw[R6,GJ l _ hl,List.foldl_cons]
    congr 1
    omega
theorem NE{l:Str}(h:l.all Rd=true):((vN 0 l:Nat):Int)=Yc l:=GJ l 0 h
theorem BT:∀(l:Str)(acc:Nat),l.all Rd=true->acc<=18446744073709551615->Lib.parseUintM 18446744073709551615 acc l=if vN acc l<=18446744073709551615 then .ok (vN acc l) else .range
  | [],acc,_,h=>by rw[show vN acc []=acc from rfl,if_pos h];rfl
  | c :: l, acc, h, ha => by
    obtain⟨hc,hl⟩:=all_cons h;have r:=Pq hc;rw[Lib.parseUintM,if_pos r,R6];have hg:=RY l (acc*10+(c.toNat-48));by_cases h1:1844674407370955162<=acc
    ·rw[if_pos h1,if_neg U]
    rw[if_neg h1];by_cases h2:18446744073709551615<acc*10+(c.toNat-48)
    ·rw[if_pos h2,if_neg U]
    rw[if_neg h2];exact BT l _ hl U
theorem PJ{l:Str}(h:l.all Rd=true)(hne:l≠[]):Lib.parseUintB 64 l=if vN 0 l<=18446744073709551615 then .ok (vN 0 l) else .range:=by
  rw[Lib.parseUintB,if_neg hne];exact BT l 0 h U
theorem WK{l:Str}(h:l.all Rd=true)(hne:l≠[]):(pI l).2=decide (Yc l<=9223372036854775807)/\(Yc l<=9223372036854775807->(pI l).1=Yc l):=by
  have hu:=PJ h hne;rw[<-NE h]
  match l,hne with
  | c :: r, _ =>
    have hc:=Pq (all_cons h).1;have hp:=Lib.parseIntB_plain 64 c r U U;rw[hu]at hp;generalize vN 0 (c::r)=n at *;unfold pI;rw[hp];by_cases h1:n<=18446744073709551615
    ·rw[if_pos h1, Lib.signlessC]
     by_cases h2:9223372036854775808<=n
     ·rw[if_pos h2];exact⟨(decide_eq_false U).symm,λh=>absurd h U⟩
     rw[if_neg h2];exact⟨(decide_eq_true U).symm,λ_=>rfl⟩
    rw[if_neg h1];exact⟨(decide_eq_false U).symm,λh=>absurd h U⟩
theorem FK{l:Str}(h:l.all Rd=true)(hne:l≠[]):(pI (45::l)).2=decide (Yc l<=9223372036854775808)/\(Yc l<=9223372036854775808->(pI (45::l)).1 = - Yc l):=by
  have hu:=PJ h hne;rw[<-NE h];have hp:=Lib.parseIntB_minus 64 l;rw[hu]at hp;generalize vN 0 l=n at *;unfold pI;rw[hp];by_cases h1:n<=18446744073709551615
  ·rw[if_pos h1, Lib.signedC]
   by_cases h2:9223372036854775808<n
   ·rw[if_pos h2];exact⟨(decide_eq_false U).symm,λh=>absurd h U⟩
   rw[if_neg h2];exact⟨(decide_eq_true U).symm,λ_=>rfl⟩
  rw[if_neg h1];exact⟨(decide_eq_false U).symm,λh=>absurd h U⟩
def Zd(x:Num):Str:=x.digits++Lib.repeatL [48] x.exp.toNat
theorem Il(x:Num):(Zd x).length=x.digits.length+x.exp.toNat:=by rw[Zd,dQ,Ik]
theorem GD:∀n:Nat,(Lib.repeatL [48] n).all Rd=true
  | 0=>rfl
  | n + 1 => by
    have h:=GD n;simp only[Lib.repeatL,List.all_append,h,Bool.and_true];decide
theorem ZI:∀n:Nat,(Lib.repeatL [48] n).all (λc=>c==48)=true
  | 0=>rfl
  | n + 1 => by
    have h:=ZI n;simp only[Lib.repeatL,List.all_append,h,Bool.and_true];decide
theorem UM{x:Num}{j:Nat}(h:j<(Zd x).length):(((Zd x)[j].toNat:Nat):Int)=WN x.digits j:=by
  unfold WN;by_cases hj:j<x.digits.length
  ·rw[if_pos hj, <- Uf hj]
   simp only[Zd];rw[List.getElem_append_left hj]
  rw[if_neg hj];simp only[Zd];rw[List.getElem_append_right U];have:=List.all_eq_true.1 (ZI x.exp.toNat) _ (eQ (show j-x.digits.length<(Lib.repeatL [48] x.exp.toNat).length by rw[Ik];rw[Il]at h;omega));rw[beq_iff_eq.1 this];rfl
theorem IB{x:Num}{j:Nat}(h:j<(Zd x).length):Yc ((Zd x).take (j+1))=10*Yc ((Zd x).take j)+(WN x.digits j-48):=by
  rw[Fk _ j h,UM h]
theorem G7{s:Str}(hs:s.all Rd=true):∀k,∀j,j+k=s.length->Yc (s.take j)<=Yc s
  | 0,j,h=>by rw[List.take_of_length_le U];exact Int.le_refl _
  | k + 1, j, h => by
    have h1:=G7 hs k (j+1) U;have hj:j<s.length:=by omega
    rw[Fk s j hj]at h1;have h2:=Pq (List.all_eq_true.1 hs s[j] (eQ hj));have h3:=(Jt (s.take j) (Gn j hs)).1;omega
theorem LE(x:Num):Gq x=if x.neg=true then 45::Zd x else Zd x:=rfl
theorem Lo{x:Num}(h:Ad x=true):(Zd x).all Rd=true:=by
  rw[Zd,List.all_append,GD,Bool.and_true];by_cases hd:x.digits=[]
  ·rw[hd];rfl
  exact (U8 h hd).1
theorem TF{x:Num}(h:Ad x=true)(hn:Zd x=[]):x.neg=false:=by
  have:x.digits=[]:=by have:=congrArg List.length hn;rw[Il,List.length_nil]at this;exact List.eq_nil_of_length_eq_zero U
  have:=C6 h this;subst this;rfl
theorem G5{x:Num}(h:Ad x=false\/x.exp<0\/19<(x.digits.length:Int)+x.exp):Tp x=(0,false):=by rw[Yg,if_pos h]
theorem VE{x:Num}(h:¬(Ad x=false\/x.exp<0\/19<(x.digits.length:Int)+x.exp))(hn:x.neg=true):Tp x=if Yc (Zd x)<=9223372036854775808 then (- Yc (Zd x),true) else (0,false):=by
  have hr:Ad x=true:=by cases hh:Ad x with|true=>rfl|false=>exact absurd (.inl hh) h
  have hne:Zd x≠[]:=λe=>by have:=TF hr e;rw[this]at hn;cases hn
  obtain⟨p1,p2⟩:=FK (Lo hr) hne;have e:Gq x=45::Zd x:=by rw[LE,if_pos hn]
  rw[Yg,if_neg h,e,if_neg Ua,p1];by_cases hv:Yc (Zd x)<=9223372036854775808
  ·rw[if_pos hv,if_neg (by rw[decide_eq_true hv];decide),p2 hv]
  rw[if_neg hv,if_pos (by rw[decide_eq_false hv])]
theorem S5{x:Num}(h:¬(Ad x=false\/x.exp<0\/19<(x.digits.length:Int)+x.exp))(hn:x.neg=false):Tp x=if Yc (Zd x)<=9223372036854775807 then (Yc (Zd x),true) else (0,false):=by
  have hr:Ad x=true:=by cases hh:Ad x with|true=>rfl|false=>exact absurd (.inl hh) h
  have e:Gq x=Zd x:=by rw[LE,if_neg (by rw[hn];decide)]
  rw[Yg,if_neg h,e];by_cases hne:Zd x=[]
  ·rw[if_pos hne,hne];rfl
  obtain⟨p1, p2⟩ := WK (Lo hr) hne;rw[if_neg hne,p1];by_cases hv:Yc (Zd x)<=9223372036854775807
  ·rw[if_pos hv,if_neg (by rw[decide_eq_true hv];decide),p2 hv]
  rw[if_neg hv,if_pos (by rw[decide_eq_false hv])]
theorem RN{x:Num}(h:¬(Ad x=false\/x.exp<0\/19<(x.digits.length:Int)+x.exp)){j:Nat}(hj:j<=(Zd x).length)(hv:9223372036854775808<Yc ((Zd x).take j)):Tp x=(0,false):=by
  have hr:Ad x=true:=by cases hh:Ad x with|true=>rfl|false=>exact absurd (.inl hh) h
  have:=G7 (Lo hr) ((Zd x).length-j) j U;cases hn:x.neg with
  | true=>rw[VE h hn,if_neg U]
  | false=>rw[S5 h hn,if_neg U]
theorem PF(d:Int)(h0:0<=d)(h9:d<=9):(-9223372036854775808+d).tdiv 10 = -((9223372036854775808-d)/10):=by
  rw[show -9223372036854775808+d = -(9223372036854775808-d) by omega,Int.neg_tdiv,Int.tdiv_eq_ediv_of_nonneg U]
theorem TU(x:Num)(hl:x.digits.length<=140737488355328)(w0:World):Calls prog 109 #[Kj x] w0 (Vd λv w'=>v=.tuple #[J (Tp x).1,.bool (Tp x).2]/\Same [] w0 w'):=by
 refine Ka func109 O ntmps109 Mb (Jc _) ?_;have hF:=FR.start w0 [];refine Ia (Xf hF O ?_);rintro b1 w hb1 hF -;refine Ca (Bc O) (Ca (Eb O) (Ec (Ed (Ej aZ jZ O hF.F 0 O O) ?_)));refine Ta hF (A_ x hl _) (Va QI O O) ?_;intro w hF;refine Ca (Eb O) (Fa (Ha (Ia (Ca (Xb O) (Ca (Bi O) (Ca (Xb O) ?_))))));refine Uc (d:=12) O (λhg0=>?_) (λhg0=>?_);refine Da (Da (Da (Ca (Rb O O) (Ca (Xb O) (Da (Da (Da (Da (Da (Da (Da (Ca (Rb O O) (Ra ?_)))))))))))));refine Ga (Od O (Ia (Ca (Bc O) (Ca (Eb O) (Fa ?_)))));refine Gb (Fb (Pa (Wd (v:=J 0) (x:=.bool false) O O O) ?_));exact⟨by rw[G5 (.inl (by simpa using hg0))],hF.same⟩;refine Ca (Cd Of O) (Ed (Jq yQ O hF.F 0 O O) (Ca (Tg O O) (Ca (Jb O O) (Ca (Xb O) ?_))));refine Xa (d:=17) O (λhg1=>?_) (λhg1=>?_);refine Da (Da (Da (Da (Da (Da (Da (Ca (Rb O O) (Fa (Od O (Ia (Ca (Bc O) ?_)))))))))));refine Ca (Eb O) (Fa ?_);refine Gb (Fb (Pa (Wd (v:=J 0) (x:=.bool false) O O O) ?_));exact⟨by rw[G5 (.inr (.inl hg1))],hF.same⟩;refine Ca (Cd Ih O) (Ed (Em dZ O hF.F 0 O O) (Ca (Bj tZ O) (Ca (Cd Of O) (Ed (Jq yQ O hF.F 0 O O) ?_))));have hrl:=Wc (x:=x) (by simp_all);refine Ca (Lk O O) (Ca (Jo O O) (Ca (Jb O O) (Fa ?_)));refine Wb O O (λhc0=>?_) (λhc0=>?_);refine Ia (Ca (Bc O) (Ca (Eb O) (Fa ?_)));refine Gb (Fb (Pa (Wd (v:=J 0) (x:=.bool false) O O O) ?_));exact⟨by rw[G5 (.inr (.inr U))],hF.same⟩;refine Ma (Ga (Ia (Ca (Bc O) (Fa (Ha (Ia (Ca (Bc O) (Fa (Sa ?_)))))))));have hrt:Ad x=true:=by simp_all
 have hnb:¬(Ad x=false\/x.exp<0\/19<(x.digits.length:Int)+x.exp):=by rw[hrt];simp;omega
 have hwd:=Lo hrt;have hdx:x.digits.all Rd=true:=by rw[Zd,List.all_append,Bool.and_eq_true]at hwd;exact hwd.1
 have hrl:=Wc hrt;refine Gc (λμ σ w=>∃(j:Nat),∃(v:Int),μ=((x.digits.length:Int)+x.exp-j).toNat/\((j:Int)<=(x.digits.length:Int)+x.exp)/\(v = - Yc ((Zd x).take j))/\(v<=0)/\(-9223372036854775808<=v)/\AllEq σ [(1,V b1),(5,J v),(6,J ((j:Int)))]/\FR w0 [] [(b1,.cells #[.bool (x.neg),I (x.digits),J (x.exp)] 73)] w) _ ⟨0,0,O,U,(O),U,U,Mk,hF⟩ ?_;rintro μ σ w ⟨j,v,rfl,hj,hv,hv0,hvm,hs,hF⟩;refine Cg.slots hs ?_;clear hs;intro σ;refine Ha (Ia (Ca (Db O) (Ca (Cd Ih O) (Ed (Em dZ O hF.F 0 O O) (Ca (Bj tZ O) (Ca (Cd Of O) (Ed (Jq yQ O hF.F 0 O O) (Ca (Lk O O) (Ca (Tg O O) (Fa ?_))))))))));refine Wb O O (λhc1=>?_) (λhc1=>?_);refine Ma (Ga (Ha (Sa (Ia (Ca (Bc O) (Fa (Ha ?_)))))));refine Ce (λσ w=>∃(d:Int),(d=WN x.digits j-48)/\AllEq σ [(1,V b1),(5,J v),(6,J ((j:Int))),(7,J d)]/\FR w0 [] [(b1,.cells #[.bool (x.neg),I (x.digits),J (x.exp)] 73)] w) ?_ ?_;refine Ia (Ca (Db O) (Ca (Cd Ih O) (Ed (Em dZ O hF.F 0 O O) (Ca (Bj tZ O) (Ca (Tg O O) (Fa ?_))))));refine Wb O O (λhc2=>?_) (λhc2=>?_);refine Ea (Ca (Cd Ih O) (Ed (Em dZ O hF.F 0 O O) (Ca (Db O) ?_)));refine Ja (v:=.int .u8 (bZ (x.digits) j)) (by rw[<-Uf (s:=x.digits) (p:=j) U];exact Gd j tZ O O U) ?_;refine Ja (v:=.int .u8 (bZ x.digits j-48)) (U3 O O (by have:=JI (s:=x.digits) hdx j;unfold WN at this;rw[if_pos U]at this;rw[IntKind.wrap_u8];omega)) ?_;refine Ja (v:=J (bZ x.digits j-48)) (Oe underlying5 rZ O (by have:=Gg x.digits j;exact Mg U U)) ?_;refine Ca (Bc O) (Ra ?_)
 ·exact Za ⟨(bZ x.digits j-48),(by unfold WN;first|(rw[if_pos U];done)|(rw[if_neg U];rfl)),Fj,hF⟩
 refine Ma ?_
 ·exact Za ⟨(0),(by unfold WN;first|(rw[if_pos U];done)|(rw[if_neg U];rfl)),Fj,hF⟩
 rintro σ w ⟨d,hd,hs,hF⟩;refine Eg.slots hs ?_;clear hs;intro σ;have hdg:=JI hdx j;have hjw:j<(Zd x).length:=by rw[Il];omega
 have hst:=IB hjw;refine Ga (Ha (Ia (Ca (Db O) (Ca (Db O) (Ca (Lk O O) (Ja (v:=J (-((9223372036854775808-d)/10))) (RK O O Cc (Qf (PF d U U) U U)) (Ca (Tg O O) (Fa ?_))))))));refine Wb O O (λhc3=>?_) (λhc3=>?_);refine Ia (Ca (Bc O) (Ca (Eb O) (Fa ?_)));refine Gb (Fb (Pa (Wd (v:=J 0) (x:=.bool false) O O O) ?_));exact⟨by rw[RN hnb (j:=j+1) U (by rw[hst];omega)],hF.same⟩;refine Ma (Ga (Ea (Ca (Db O) (Ja (v:=J (10*v)) (DD O O (Mg U U)) (Ca (Db O) (Ca (D1 O O) (Ca (Bc O) (Ra (Ib (Ga (Ea (Ca (Db O) (Ca (Uk (((j+1:Nat):Int)) O O) ?_)))))))))))));refine Ca (Bc O) (Ra ?_);refine Za ⟨_,?_,j+1,10*v-d,O,U,(by rw[hst];omega),U,U,Mk,hF⟩;omega;refine Zb (Vb O ?_);refine Ga (Ha (Ia (Ca (Cd Fy O) (Ed (XL zQ O hF.F 0 O O) (Fa ?_)))));refine Je O O (λhc4=>?_) (λhc4=>?_);refine Ia (Ca (Db O) (Ca (Bc O) (Ca (Eb O) (Fa ?_))));refine Gb (Fb (Pa (Wd (v:=J v) (x:=.bool true) O O O) ?_));have eT:(Zd x).take j=Zd x:=List.take_of_length_le (by rw[Il];omega);rw[eT]at hv;exact⟨by rw[VE hnb (by assumption),if_pos U,hv],hF.same⟩;refine Ma (Ga (Ha (Ia (Ca (Db O) (Ca (Jj O O) (Fa ?_))))));refine Wb O O (λhc5=>?_) (λhc5=>?_);refine Ia (Ca (Bc O) (Ca (Eb O) (Fa ?_)));refine Gb (Fb (Pa (Wd (v:=J 0) (x:=.bool false) O O O) ?_));have eT:(Zd x).take j=Zd x:=List.take_of_length_le (by rw[Il];omega);rw[eT]at hv;exact⟨by rw[S5 hnb (by assumption),if_neg U],hF.same⟩;refine Ma (Ga (Ia (Ca (Db O) (Ja (v:=J (-v)) (Hz O (Qf U U U)) (Ca (Bc O) (Ca (Eb O) (Fa ?_)))))));refine Gb (Fb (Pa (Wd (v:=J (-v)) (x:=.bool true) O O O) ?_));have eT:(Zd x).take j=Zd x:=List.take_of_length_le (by rw[Il];omega);rw[eT]at hv;exact⟨by rw[S5 hnb (by assumption),if_pos U,hv,Int.neg_neg],hF.same⟩
end Go.Scarf
