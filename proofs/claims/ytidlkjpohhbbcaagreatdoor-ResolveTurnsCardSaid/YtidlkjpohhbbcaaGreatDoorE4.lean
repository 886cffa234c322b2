/- A part of the proof. -/
import Derived.Test.YtidlkjpohhbbcaaGreatDoorE1
import Derived.Lib.ParseIntBCases
set_option linter.all false
set_option maxHeartbeats 8000000
set_option maxRecDepth 10000
namespace Go.Scarf
open Go.RowKit Go.Proofs Go.Proofs.Tryz
theorem Yv(s:Str):Zi s 45=Lib.hasPrefix s [45]:=OL s 45
theorem headI_43(s:Str):Zi s 43=Lib.hasPrefix s [43]:=OL s 43
theorem B2(s:Str)(c:UInt8):Lib.trimPrefix s [c]=if Lib.hasPrefix s [c]=true then s.drop 1 else s:=rfl
theorem head_bZ{W:Str}(h:Gh W=true):decide (¬bZ W 0=48)=decide (W.head?≠some 48):=by
  have hp:=List.length_pos_iff.2 (Il h);rw[<-Xi hp];exact decide_eq_decide.2 (not_congr (IF hp))
theorem BN{s:Str}{neg:Bool}{whole rest:Str}{minus:Bool}{exp:Str}{ok:Bool}(h:Parts s neg whole rest minus exp ok) :
    ok=(Cc s).2/\(ok=true->neg=(Cc s).1.neg/\whole=(Cc s).1.whole/\rest=(Cc s).1.rest/\minus=(Cc s).1.low/\Lib.trimLeftB exp 48=Lib.trimLeftB (Cc s).1.exp 48/\Gh exp=true/\Gh whole=true/\rest.all Pe=true):=by
  obtain⟨s1,W,Z,R1,f,g,rfl,rfl,hc,hd,rfl,rfl,rfl,rfl,rfl⟩:=h.h;have e1:(if Zi s 45=true then s.drop 1 else s)=Lib.trimPrefix s [45]:=by rw[B2,Yv]
  rw[e1]at hc hd;have h2:(Vb [101,69] (Lib.trimPrefix s [45])).2.1=Z:=by rw[hc]
  have h3:(Vb [101,69] (Lib.trimPrefix s [45])).2.2=f:=by rw[hc]
  have g1:(Vb [46] (Vb [101,69] (Lib.trimPrefix s [45])).1).1=whole:=by rw[hd]
  have g2:(Vb [46] (Vb [101,69] (Lib.trimPrefix s [45])).1).2.1=R1:=by rw[hd]
  have g3:(Vb [46] (Vb [101,69] (Lib.trimPrefix s [45])).1).2.2=g:=by rw[hd]
  have hr:R1=if g=true then R1 else []:=by
    cases g with
    | true=>rfl
    | false=>rw[<-g2];exact Xq [46] _ g3
  have he:∀(neg low:Bool)(e:Str),Qk neg low (Vb [101,69] (Lib.trimPrefix s [45])).1 e=(⟨neg,low,whole,R1,e⟩,Gh whole&&(!g || Gh R1)&&(decide (whole=[48]) || decide (whole.head?≠some 48))):=by
    intro neg low e;simp only[Qk,g1,g2,g3]
  have hk:∀e:Str,Gh e=true->GV whole (if g=true then R1 else [48]) e=(Gh whole&&(!g || Gh R1)&&(decide (whole=[48]) || decide (whole.head?≠some 48))):=by
    intro e he;unfold GV;rw[he,Bool.true_and];by_cases hw:Gh whole=true
    ·rw[head_bZ hw, hw, Bool.true_and, Bool.true_and]
     cases g with
     | true=>rfl
     | false =>
       have:Gh [48]=true:=by decide
       simp[this]
    rw[Bool.not_eq_true]at hw;rw[hw];simp
  have hok:∀e:Str,GV whole (if g=true then R1 else [48]) e=true->Gh e=true/\Gh whole=true/\(if g=true then R1 else []).all Pe=true:=by
    intro e h;unfold GV at h;simp only[Bool.and_eq_true]at h;refine⟨h.2.2.1,h.1,?_⟩;cases g with
    | true=>exact Cw h.2.1
    | false=>rfl
  have ht:∀e:Str,Gh e=false->GV whole (if g=true then R1 else [48]) e=false:=by
    intro e h;unfold GV;rw[h];simp
  cases f with
  | true =>
    have hex:Pt true Z=(if Lib.hasPrefix Z [45] then Lib.trimPrefix Z [45] else Lib.trimPrefix (Lib.trimPrefix Z [45]) [43]):=by
      rw[Pt,if_pos rfl,Yv,headI_43,B2 Z 45];by_cases h1:Lib.hasPrefix Z [45]=true
      ·simp[h1]
      simp only[h1, if_false, false_or];rw[B2];simp
    have er:Cc s=if Gh (Pt true Z)=true then Qk (Lib.hasPrefix s [45]) (Lib.hasPrefix Z [45]) (Vb [101,69] (Lib.trimPrefix s [45])).1 (Pt true Z) else (⟨Lib.hasPrefix s [45],Lib.hasPrefix Z [45],[],[],[]⟩,false):=by
      unfold Cc;simp only;rw[if_pos h3,h2,hex]
    by_cases hx:Gh (Pt true Z)=true
    ·rw[if_pos hx, he]at er
     rw[er];refine⟨hk _ hx,λh=>⟨Yv s,O,hr.symm,by rw[Bool.true_and,Yv],O,hok _ h⟩⟩
    rw[if_neg hx]at er;rw[Bool.not_eq_true]at hx;rw[er];refine⟨ht _ hx,λh=>?_⟩;rw[ht _ hx]at h;cases h
  | false =>
    have hz:Z=[]:=by rw[<-h2];exact Xq [101,69] _ h3
    have er:Cc s=Qk (Lib.hasPrefix s [45]) false (Vb [101,69] (Lib.trimPrefix s [45])).1 Z:=by
      unfold Cc;simp only;rw[if_neg (by rw[h3];decide),h2]
    have hx:Gh (Pt false Z)=true:=by rw[Pt,if_neg Ua];decide
    rw[he]at er;rw[er];refine⟨hk _ hx,λh=>⟨Yv s,O,hr.symm,O,?_,hok _ h⟩⟩;subst hz;rw[Pt,if_neg Ua];rfl
theorem NV{s:Str}{neg:Bool}{whole rest:Str}{minus:Bool}{exp:Str}{ok:Bool}(h:Parts s neg whole rest minus exp ok):whole.length<=s.length/\rest.length<=s.length/\exp.length<=s.length+1:=by
  obtain⟨s1,W,Z,R1,f,g,rfl,rfl,hc,hd,rfl,rfl,rfl,rfl,rfl⟩:=h.h;have h1:(if Zi s 45=true then s.drop 1 else s).length<=s.length:=by split <;> simp
  have h2:=Ii [101,69] (if Zi s 45=true then s.drop 1 else s);have h3:=Ii [46] (Vb [101,69] (if Zi s 45=true then s.drop 1 else s)).1;rw[hd]at h3;have h4:Z.length<=s.length:=by rw[hc]at h2;exact fQ h2.2 h1
  refine⟨fQ h3.1 (fQ h2.1 h1),?_,?_⟩
  ·split
   ·exact fQ h3.2 (fQ h2.1 h1)
   exact Nat.zero_le _
  unfold Pt;split
  ·split
   ·simp;omega
   omega
  simp
theorem G_(c:UInt8)(s:Str):Lib.trimLeftB (c::s) 48=if c=48 then Lib.trimLeftB s 48 else c::s:=by
  unfold Lib.trimLeftB;rw[List.dropWhile_cons];by_cases h:c=48 <;> simp[h]
theorem Wy{E:Str}(h:0<E.length)(h0:bZ E 0=48):Lib.trimLeftB (E.drop 1) 48=Lib.trimLeftB E 48:=by
  rw[<-Xi h]at h0;cases E with
  | nil=>simp at h
  | cons c s =>
    have:c=48:=Gv.1 h0;rw[G_,if_pos this];rfl
theorem Ez{E:Str}(h:0<E.length)(h0:¬bZ E 0=48):Lib.trimLeftB E 48=E:=by
  rw[<-Xi h]at h0;cases E with
  | nil=>simp at h
  | cons c s =>
    have:¬c=48:=λe=>h0 (Gv.2 e);rw[G_,if_neg this]
theorem YI{E:Str}(h:E.all Pe=true):(E.drop 1).all Pe=true:=by
  rw[List.all_eq_true]at h ⊢;exact λx hx=>h x (List.mem_of_mem_drop hx)
theorem Lw{E:Str}(h:0<E.length)(h1:E.length<=1\/¬bZ E 0=48):Qd E=Qd (Lib.trimLeftB E 48)/\((9:Int)<(E.length:Int)↔9<(Lib.trimLeftB E 48).length):=by
  by_cases h0:bZ E 0=48
  ·have h2 : E.length = 1 := by rcases h1 with h1|h1;omega;exact absurd h0 h1
   rw[<-Wy h h0]
   match E,h2 with
   | [c], _ =>
     rw[<-Xi (s:=[c]) (p:=0) Oa]at h0;have:c=48:=Gv.1 h0;subst this;simp[Lib.trimLeftB,Qd]
  rw[Ez h h0];exact⟨O,by omega⟩
theorem XQ(l:Str)(a:UInt8):Lib.trimRightB (l++[a]) 48=if a=48 then Lib.trimRightB l 48 else l++[a]:=by
  unfold Lib.trimRightB;rw[List.reverse_append];simp only[List.reverse_cons,List.reverse_nil,List.nil_append,List.cons_append,List.dropWhile_cons];by_cases h:a=48 <;> simp[h]
theorem D9{d:Str}{m:Nat}(h1:1<=m)(h2:m<=d.length):Lib.trimRightB (d.take m) 48=if bZ (d.take m) (m-1)=48 then Lib.trimRightB (d.take (m-1)) 48 else d.take m:=by
  have h3:m-1<d.length:=by omega
  have e:d.take m=d.take (m-1)++[d[m-1]]:=by
    have:=iQ h3
    rwa [show m-1+1=m by omega]at this
  have h4:bZ (d.take m) (m-1)=((d[m-1].toNat:Nat):Int):=by
    rw[<-Xi (by simp;omega)];simp
  rw[h4,e,XQ];by_cases h:d[m-1]=48
  ·rw[if_pos h,if_pos (Gv.2 h)]
  rw[if_neg h,if_neg (λhh=>h (Gv.1 hh))]
theorem H6{d:Str}{m i:Nat}(h:i<m)(h2:m<=d.length):bZ (d.take m) i=bZ d i:=by
  rw[<-Xi (show i<(d.take m).length by simp;omega),<-Xi (show i<d.length by omega)];simp
theorem expE_low{s:Str}(h:(Cc s).1.low=true):Xj s = - Qd (Lib.trimLeftB (Cc s).1.exp 48):=by unfold Xj;rw[if_pos h]
theorem DV{s:Str}(h:(Cc s).1.low=false):Xj s=Qd (Lib.trimLeftB (Cc s).1.exp 48):=by unfold Xj;rw[if_neg (by rw[h];decide)]
theorem Jy{x:Num}(hd:x.digits.all Pe=true)(hp:0<x.digits.length)(hl:x.digits.length<=1000)(h0:¬bZ x.digits 0=48)(h1:¬bZ x.digits (x.digits.length-1)=48):Lc x=(decide (-1000000<=x.exp)&&decide (x.exp<=1000000)):=by
  have hz:¬x=Num.zero:=by rintro rfl;simp[Num.zero]at hp
  rw[<-Xi hp]at h0;rw[<-Xi (show x.digits.length-1<x.digits.length by omega)]at h1;exact Oq hz (by unfold Gh;rw[hd,decide_eq_true (List.length_pos_iff.1 hp)];rfl) Aa hp h0 Aa h1
theorem NJ(s:Str)(hl:s.length<=140737488355327)(w0:World):Calls prog 122 #[I s] w0 (Yc λv w'=>v=.tuple #[Kk (Kc s).1,J (Kc s).2]/\Same [] w0 w'):=by
 refine Fa func122 O ntmps122 Ab (Wb _) ?_;have hF:=FR.start w0 [];refine Ea (Pc (cs:=#[.bool false,I [],J 0]) hF tX O ?_);rintro b1 w hb1 hF -;refine Ba (Fb O) (Lb (Ba (Ad O) ?_));refine Eb (parts_c s Aa _) (Ma en_184 O O) ?_;rintro _ w ⟨neg,whole,rest,minus,exp,ok,rfl,hp,hE⟩;obtain⟨hok,hfs⟩:=BN hp;obtain⟨hl1,hl2,hl3⟩:=NV hp;have hF:=hF.ext hE;refine Ba (Mj O) (Ba (Ym O O) (Ba (Ly O O) (Ba (Ly O O) (Ba (Ym O O) (Ba (Ly O O) (Ba (Ym O O) (Ba (Kb O) (Ba (He O) (Ba (He O) (Ba (Kb O) (Ba (He O) (Ba (Kb O) (Va ?_)))))))))))));refine Ha (Ga (Ea (Ba (Dc O) (Ba (Di O) (Da ?_)))));refine Jd O O (λhc0=>?_) (λhc0=>?_);refine Ea (Ia (w':=w) (v:=.agg #[.bool false,I [],J 0]) Qb ?_);refine Ge hF tZ O O Pi ?_;rintro w hF -;refine Ba (Fb O) (Da ?_);refine Db (Cb (La (Ld O (l:=[.bool false,I [],J 0]) O jZ tZ O (hF.cellsAll 0 O) (v:=J 2) O) ?_));exact⟨by rw[Sh,if_pos (by rw[<-hok];simp_all)];rfl,hF.same⟩;have hokt:ok=true:=by simp_all
 have hfs:=hfs hokt;have hwr:whole.length=(Cc s).1.whole.length/\rest.length=(Cc s).1.rest.length:=⟨by rw[hfs.2.1],by rw[hfs.2.2.1]⟩;refine Ka (Ha (Ga (Ea (Ba (Ad O) (Ba (Sk kX O) (Ba (Ad O) (Ba (Sk kX O) (Ba (Bi (((whole.length+rest.length:Nat):Int)) O O) (Ba (Mo O O) (Da ?_))))))))));refine Jb O O (λhc1=>?_) (λhc1=>?_);refine Ea (Ia (w':=w) (v:=.agg #[.bool false,I [],J 0]) Qb ?_);refine Ge hF tZ O O Pi ?_;rintro w hF -;refine Ba (Fb O) (Da ?_);refine Db (Cb (La (Ld O (l:=[.bool false,I [],J 0]) O jZ tZ O (hF.cellsAll 0 O) (v:=J 3) O) ?_));exact⟨by rw[Sh,if_neg (by rw[<-hok,hokt];decide),if_pos Aa];rfl,hF.same⟩;refine Ka (Ha (Ga ?_));refine Fd (λσ w=>∃(E:Str),(Qd E=Qd (Lib.trimLeftB (Cc s).1.exp 48))/\((9:Int)<(E.length:Int)↔9<(Lib.trimLeftB (Cc s).1.exp 48).length)/\(E.all Pe=true)/\(E.length<=s.length+1)/\AllEq σ [(2,V b1),(4,.bool (neg)),(5,I whole),(6,I rest),(7,.bool (minus)),(8,I E)]/\FR w0 [] [(b1,.cells #[.bool false,I [],J 0] 90)] w) ?_ ?_;refine Qa (Fc (λμ σ w=>∃(E:Str),μ=E.length/\(Lib.trimLeftB E 48=(Lib.trimLeftB (Cc s).1.exp 48))/\(0<E.length)/\(E.all Pe=true)/\(E.length<=exp.length)/\AllEq σ [(2,V b1),(4,.bool (neg)),(5,I whole),(6,I rest),(7,.bool (minus)),(8,I E)]/\FR w0 [] [(b1,.cells #[.bool false,I [],J 0] 90)] w) _ ⟨exp,O,(hfs.2.2.2.2.1),(List.length_pos_iff.2 (Il hfs.2.2.2.2.2.1)),(Cw hfs.2.2.2.2.2.1),(gQ _),Du,hF⟩ ?_);rintro μ σ w ⟨E,rfl,hEt,hE0,hE3,hE4,hs,hF⟩;refine Cg.slots hs ?_;clear hs;intro σ;refine Ga (Ea (Ba (Ad O) (Ba (Sk kX O) (Ba (Mo O O) (Ba (Dc O) ?_)))));refine Bb (d:=35) O (λhg0=>?_) (λhg0=>?_);refine Ba (Ad O) ?_;refine Ia (v:=.int .u8 (bZ (E) 0)) (by rw[<-Xi (s:=E) (p:=0) Aa];exact Td 0 kX O O Aa) ?_;refine Ba (Of O O) (Ba (Rb O O) (Da ?_));refine Jb O O (λhc2=>?_) (λhc2=>?_);refine Ka (Ha (Qa (Ja (Ba (Ad O) (Ia (v:=I ((E:Str).drop (1))) (Dl (1) kX O O Aa) (Ba (He O) (Va (Ya ?_))))))))
 refine Ta ⟨_,?_,E.drop 1,O,(by rw[Wy Aa Aa];exact hEt),(by simp;omega),(YI hE3),(by simp;omega),Du,hF⟩;simp;omega;refine Bc (Yb O ?_);exact Ta ⟨(E),(by rw[<-hEt];exact (Lw hE0 Aa).1),(by rw[<-hEt];exact (Lw hE0 Aa).2),(hE3),Aa,Du,hF⟩;refine Ca (Ca (Ca (Ba (Pb O O) (Da (Zd O ?_)))));refine Bc (Yb O ?_);exact Ta ⟨(E),(by rw[<-hEt];exact (Lw hE0 Aa).1),(by rw[<-hEt];exact (Lw hE0 Aa).2),(hE3),Aa,Du,hF⟩;rintro σ w ⟨E,hE1,hE2,hE3,hE4,hs,hF⟩;refine Eg.slots hs ?_;clear hs;intro σ;refine Ha (Ga (Ea (Ba (Ad O) (Ba (Sk kX O) (Ba (Mo O O) (Da ?_))))));refine Jb O O (λhc3=>?_) (λhc3=>?_);refine Ea (Ia (w':=w) (v:=.agg #[.bool false,I [],J 0]) Qb ?_);refine Ge hF tZ O O Pi ?_;rintro w hF -;refine Ba (Fb O) (Da ?_);refine Db (Cb (La (Ld O (l:=[.bool false,I [],J 0]) O jZ tZ O (hF.cellsAll 0 O) (v:=J 4) O) ?_));exact⟨by rw[Sh,if_neg (by rw[<-hok,hokt];decide),if_neg Aa,if_pos Aa];rfl,hF.same⟩;refine Ka (Ha (Ea (Ba (Fb O) (Da (Ga (Ea (Ba (Fb O) (Da (Qa ?_)))))))));refine Fc (λμ σ w=>∃(q:Nat),μ=E.length-q/\(q<=E.length)/\AllEq σ [(2,V b1),(4,.bool (neg)),(5,I whole),(6,I rest),(7,.bool (minus)),(8,I E),(10,J (Qd (E.take q))),(11,J ((q:Int)))]/\FR w0 [] [(b1,.cells #[.bool false,I [],J 0] 90)] w) _ ⟨0,O,(Nat.zero_le _),ae8,hF⟩ ?_;rintro μ σ w ⟨q,rfl,hq,hs,hF⟩;refine Cg.slots hs ?_;clear hs;intro σ;refine Ga (Ea (Ba (Za O) (Ba (Ad O) (Ba (Sk kX O) (Ba (Pg O O) (Da ?_))))));refine Jb O O (λhc4=>?_) (λhc4=>?_);have hdq:=List.all_eq_true.1 hE3 E[q] (eQ Aa);unfold Pe at hdq;simp only[Bool.and_eq_true,decide_eq_true_eq]at hdq;have hbq:=UInt8.toNat_lt E[q];have hb:=Mw (E.take q) (Ts q hE3) (by rw[List.length_take];omega);refine Ka (Ha (Ga (Qa (Ja (Ba (Za O) (Ia (v:=J (10*Qd (E.take q))) (Q1 O O (Rh Aa Aa)) (Ba (Ad O) (Ba (Za O) (Ia (v:=.int .u8 ((((E:Str)[q]' Aa).toNat:Int))) (Td (q) kX O O Aa) ?_)))))))))
 refine Ia (v:=.int .u8 (((E[q].toNat:Nat):Int)-48)) (Tu O O (by rw[IntKind.wrap_u8];omega)) ?_;refine Ia (v:=J (((E[q].toNat:Nat):Int)-48)) (Be gX bX O (Rh Aa Aa)) ?_;refine Ia (v:=J (Qd (E.take (q+1)))) (Rs O O (by rw[Io _ q Aa];exact Rh Aa Aa)) ?_;refine Ba (Fb O) (Va (Ya (Ha (Ja (Ba (Za O) (Ba (Bi (((q+1:Nat):Int)) O O) (Ba (Fb O) (Va ?_))))))));refine Ta ⟨_,?_,q+1,O,Aa,ae8,hF⟩;omega;refine Bc (Yb O ?_);refine Ha ?_;have eT:E.take q=E:=List.take_of_length_le Aa;have hb:=Mw E hE3 Aa;have hE:-1000000000<Xj s/\Xj s<1000000000:=by unfold Xj;rw[<-hE1];split <;> omega
 refine Ga (Fd (λσ w=>AllEq σ [(2,V b1),(4,.bool (neg)),(5,I whole),(6,I rest),(10,J (Xj s))]/\FR w0 [] [(b1,.cells #[.bool false,I [],J 0] 90)] w) ?_ ?_);refine Ea (Ba (Dc O) (Da ?_));refine Jd O O (λhc5=>?_) (λhc5=>?_);have eE:- Qd E=Xj s:=by rw[hE1,expE_low (by rw[<-hfs.2.2.2.1];assumption)]
 rw[eT];refine Ja (Ba (Za O) ?_);refine Ia (v:=J (Xj s)) (F4 O (Hg (by rw[<-eE];omega) Aa Aa)) ?_;refine Ba (Fb O) (Va ?_);exact Ta ⟨Uq,hF⟩;have eE:Qd E=Xj s:=by rw[hE1,DV (by rw[<-hfs.2.2.2.1];assumption)]
 rw[eT,eE];refine Ka ?_;exact Ta ⟨Uq,hF⟩;rintro σ w ⟨hs,hF⟩;refine Eg.slots hs ?_;clear hs;intro σ;refine Ha (Ea (Ba (Za O) (Ba (Ad O) (Ba (Sk kX O) (Ba (C5 O O) (Ba (Fb O) (Lb (Ba (Ad O) (Ba (Ad O) ?_)))))))));refine Ia (v:=I ((whole)++(rest))) (Hi O O Aa) (Ba (He O) (Da (Ga ?_)));refine Fd (λσ w=>∃(d:Str),(d=(Lib.trimLeftB ((Cc s).1.whole++(Cc s).1.rest) 48))/\(0<d.length->¬bZ d 0=48)/\(d.all Pe=true)/\(d.length<=whole.length+rest.length)/\AllEq σ [(2,V b1),(4,.bool (neg)),(10,J (Xj s-(rest.length:Nat))),(12,I d)]/\FR w0 [] [(b1,.cells #[.bool false,I [],J 0] 90)] w) ?_ ?_;refine Qa ?_;refine Fc (λμ σ w=>∃(D:Str),μ=D.length/\(Lib.trimLeftB D 48=Lib.trimLeftB (whole++rest) 48)/\(D.all Pe=true)/\(D.length<=whole.length+rest.length)/\AllEq σ [(2,V b1),(4,.bool (neg)),(10,J (Xj s-(rest.length:Nat))),(12,I D)]/\FR w0 [] [(b1,.cells #[.bool false,I [],J 0] 90)] w) _ ⟨(whole++rest),O,(O),(by rw[List.all_append,Cw hfs.2.2.2.2.2.2.1,hfs.2.2.2.2.2.2.2];rfl),Oa,Jj,hF⟩ ?_;rintro μ σ w ⟨D,rfl,hDt,hDa,hDl,hs,hF⟩;refine Cg.slots hs ?_;clear hs;intro σ;refine Ga (Ea (Ba (Ad O) (Ba (Sk kX O) (Ba (Mo O O) (Ba (Dc O) ?_)))));refine Bb (d:=73) O (λhg1=>?_) (λhg1=>?_);refine Ba (Ad O) ?_;refine Ia (v:=.int .u8 (bZ (D) 0)) (by rw[<-Xi (s:=D) (p:=0) Aa];exact Td 0 kX O O Aa) ?_;refine Ba (Of O O) (Ba (Rb O O) (Da ?_));refine Jb O O (λhc6=>?_) (λhc6=>?_);refine Ka (Ha (Qa (Ja (Ba (Ad O) (Ia (v:=I ((D:Str).drop (1))) (Dl (1) kX O O Aa) (Ba (He O) (Va (Ya ?_))))))));refine Ta ⟨_,?_,D.drop 1,O,(by rw[Wy Aa Aa];exact hDt),(YI hDa),(by simp;omega),Jj,hF⟩;simp;omega;refine Bc (Yb O ?_);exact Ta ⟨(D),(by rw[<-hfs.2.1,<-hfs.2.2.1,<-hDt];first|exact (Ez Aa Aa).symm|(have h0:D=[]:=List.eq_nil_of_length_eq_zero Aa;rw[h0];rfl)),(λh=>by omega),(hDa),(hDl),Jj,hF⟩;refine Ca (Ca (Ca (Ba (Pb O O) (Da (Zd O ?_)))))
 refine Bc (Yb O ?_);exact Ta ⟨(D),(by rw[<-hfs.2.1,<-hfs.2.2.1,<-hDt];first|exact (Ez Aa Aa).symm|(have h0:D=[]:=List.eq_nil_of_length_eq_zero Aa;rw[h0];rfl)),(λh=>by omega),(hDa),(hDl),Jj,hF⟩;rintro σ w ⟨d,hd,hd0,hda,hdl,hs,hF⟩;refine Eg.slots hs ?_;clear hs;intro σ;refine Ha (Ga (Ea (Ba (Ad O) (Ba (Ry O O) (Da ?_)))));refine Jb O O (λhc7=>?_) (λhc7=>?_);refine Ea (Ia (w':=w) (v:=.agg #[.bool false,I [],J 0]) Qb ?_);refine Ge hF tZ O O Pi ?_;rintro w hF -;refine Ba (Fb O) (Da ?_);refine Db (Cb (La (Ld O (l:=[.bool false,I [],J 0]) O jZ tZ O (hF.cellsAll 0 O) (v:=J 0) O) ?_));exact⟨by rw[Sh,if_neg (by rw[<-hok,hokt];decide),if_neg Aa,if_neg Aa,if_pos (by rw[<-hd];assumption)];rfl,hF.same⟩;refine Ka (Ha (Ga ?_));refine Fd (λσ w=>∃(m:Nat),∃(sh:Str),∃(ee:Int),(ee=Xj s-(rest.length:Nat)+(d.length-m:Nat))/\(sh=(d:Str).take m)/\(1<=m)/\(m<=d.length)/\(Lib.trimRightB d 48=d.take m)/\(¬bZ ((d:Str).take m) (m-1)=48)/\AllEq σ [(2,V b1),(4,.bool (neg)),(10,J ee),(12,I sh)]/\FR w0 [] [(b1,.cells #[.bool false,I [],J 0] 90)] w) ?_ ?_;refine Qa ?_;have hdp:0<d.length:=List.length_pos_iff.2 (by assumption);refine Fc (λμ σ w=>∃(m:Nat),∃(D2:Str),∃(ee:Int),μ=m+1/\(ee=Xj s-(rest.length:Nat)+(d.length-m:Nat))/\(D2=(d:Str).take m)/\(1<=m)/\(m<=d.length)/\(Lib.trimRightB d 48=Lib.trimRightB (d.take m) 48)/\AllEq σ [(2,V b1),(4,.bool (neg)),(10,J ee),(12,I D2)]/\FR w0 [] [(b1,.cells #[.bool false,I [],J 0] 90)] w) _ ⟨d.length,d,Xj s-(rest.length:Nat),O,Aa,(by rw[List.take_length]),(hdp),(gQ _),(by rw[List.take_length]),Jj,hF⟩ ?_;rintro μ σ w ⟨m,D2,ee,rfl,hee,hD2,hm1,hm2,hmt,hs,hF⟩;refine Cg.slots hs ?_;clear hs;intro σ;have hml:D2.length=m:=by rw[hD2,List.length_take];omega
 refine Ga (Ea (Ba (Ad O) (Ba (Ad O) (Ba (Sk kX O) (Ba (UN (((m-1:Nat):Int)) O O) ?_)))));refine Ia (v:=.int .u8 (bZ (D2) (m-1))) (by rw[<-Xi (s:=D2) (p:=(m-1)) Aa];exact Td (m-1) kX O O Aa) ?_;refine Ba (Of O O) (Da ?_);refine Jb O O (λhc8=>?_) (λhc8=>?_);refine Ka (Ha (Qa (Ea (Ba (Ad O) (Ba (Ad O) (Ba (Sk kX O) (Ba (UN (((m-1:Nat):Int)) O O) (Ia (v:=I ((D2:Str).take (m-1))) (Zv (m-1) kX O O Aa) (Ba (He O) (Da (Ja ?_)))))))))));refine Ba (Za O) (Ba (Bi (ee+1) O O) (Ba (Fb O) (Va (Ya ?_))));refine Ta ⟨_,?_,m-1,D2.take (m-1),ee+1,rfl,Aa,(by rw[hD2,List.take_take,Nat.min_eq_left Aa]),(by have h:=hd0 hdp;rw[<-H6 (m:=m) Aa hm2,<-hD2]at h;rcases Nat.lt_or_ge 1 m with h1|h1;omega;exfalso;have h2:m-1=0:=Aa;have h3:bZ D2 (m-1)=48:=(by assumption);rw[h2]at h3;exact absurd h3 h),Aa,(by rw[hmt,D9 hm1 hm2,if_pos (by rw[<-hD2];assumption)]),Jj,hF⟩;omega;refine Bc (Yb O ?_);exact Ta ⟨(m),(D2),(ee),(hee),(hD2),(hm1),(hm2),(by rw[hmt,D9 hm1 hm2,if_neg (by rw[<-hD2];assumption)]),(by rw[<-hD2];assumption),Jj,hF⟩;rintro σ w ⟨m,sh,ee,hee,hsh,hm1,hm2,hmt,hlast,hs,hF⟩;refine Eg.slots hs ?_;clear hs;intro σ;refine Ha (Ga (Ea (Ba (Za O) (Ba (Pg O O) (Ba (Dc O) ?_)))));refine Bb (d:=98) O (λhg2=>?_) (λhg2=>?_);refine Ca (Ca (Ba (Rb O O) (Da (Yd O (Ea ?_)))));refine Ia (w':=w) (v:=.agg #[.bool false,I [],J 0]) Qb (Ge hF tZ O O Pi ?_);rintro w hF -;refine Ba (Fb O) (Da ?_);refine Db (Cb (La (Ld O (l:=[.bool false,I [],J 0]) O jZ tZ O (hF.cellsAll 0 O) (v:=J 4) O) ?_));subst hsh;subst hee;have hne:¬d=[]:=List.length_pos_iff.1 Aa;have hrf:=Jy (x:=⟨(Cc s).1.neg,d.take m,Xj s-(rest.length:Nat)+(d.length-m:Nat)⟩) (Ts m hda) (by simp;omega) (by simp;omega) (by rw[H6 Aa hm2];exact hd0 Aa) (by show ¬bZ (d.take m) ((d.take m).length-1)=48;rw[List.length_take,Nat.min_eq_left hm2];exact hlast)
 have hfe:Xj s-(rest.length:Nat)+(d.length-m:Nat)=Xj s-(Cc s).1.rest.length+d.length-(d.take m).length:=by rw[List.length_take,Nat.min_eq_left hm2,<-hwr.2];omega
 refine⟨?_,hF.same⟩;rw[Sh,if_neg (by rw[<-hok,hokt];decide),if_neg Aa,if_neg Aa,<-hd,if_neg hne,hmt,<-hfe,hrf]
 first|(rw[if_pos (by simp;omega)];rfl)|(rw[if_neg (by simp;omega),hfs.1];rfl)
 refine Ba (Za O) (Ba (Mo O O) (Ba (Pb O O) (Da ?_)));refine Jb O O (λhc9=>?_) (λhc9=>?_);refine Ea (Ia (w':=w) (v:=.agg #[.bool false,I [],J 0]) Qb ?_);refine Ge hF tZ O O Pi ?_;rintro w hF -;refine Ba (Fb O) (Da ?_);refine Db (Cb (La (Ld O (l:=[.bool false,I [],J 0]) O jZ tZ O (hF.cellsAll 0 O) (v:=J 4) O) ?_));subst hsh;subst hee;have hne:¬d=[]:=List.length_pos_iff.1 Aa;have hrf:=Jy (x:=⟨(Cc s).1.neg,d.take m,Xj s-(rest.length:Nat)+(d.length-m:Nat)⟩) (Ts m hda) (by simp;omega) (by simp;omega) (by rw[H6 Aa hm2];exact hd0 Aa) (by show ¬bZ (d.take m) ((d.take m).length-1)=48;rw[List.length_take,Nat.min_eq_left hm2];exact hlast);have hfe:Xj s-(rest.length:Nat)+(d.length-m:Nat)=Xj s-(Cc s).1.rest.length+d.length-(d.take m).length:=by rw[List.length_take,Nat.min_eq_left hm2,<-hwr.2];omega
 refine⟨?_,hF.same⟩;rw[Sh,if_neg (by rw[<-hok,hokt];decide),if_neg Aa,if_neg Aa,<-hd,if_neg hne,hmt,<-hfe,hrf]
 first|(rw[if_pos (by simp;omega)];rfl)|(rw[if_neg (by simp;omega),hfs.1];rfl)
 refine Ka (Ha (Ea (Ba (Dc O) (Ba (Ad O) (Ba (Za O) ?_)))));refine Ia (w':=w) (v:=.agg #[.bool (neg),I sh,J ee]) Qb (Ge hF tZ O O Pi ?_);rintro w hF -;refine Ba (Fb O) (Da ?_);refine Db (Cb (La (Ld O (l:=[.bool (neg),I sh,J ee]) O jZ tZ O (hF.cellsAll 0 O) (v:=J 0) O) ?_));subst hsh;subst hee;have hne:¬d=[]:=List.length_pos_iff.1 Aa;have hrf:=Jy (x:=⟨(Cc s).1.neg,d.take m,Xj s-(rest.length:Nat)+(d.length-m:Nat)⟩) (Ts m hda) (by simp;omega) (by simp;omega) (by rw[H6 Aa hm2];exact hd0 Aa) (by show ¬bZ (d.take m) ((d.take m).length-1)=48;rw[List.length_take,Nat.min_eq_left hm2];exact hlast);have hfe:Xj s-(rest.length:Nat)+(d.length-m:Nat)=Xj s-(Cc s).1.rest.length+d.length-(d.take m).length:=by rw[List.length_take,Nat.min_eq_left hm2,<-hwr.2];omega
 refine⟨?_,hF.same⟩;rw[Sh,if_neg (by rw[<-hok,hokt];decide),if_neg Aa,if_neg Aa,<-hd,if_neg hne,hmt,<-hfe,hrf]
 first|(rw[if_pos (by simp;omega)];rfl)|(rw[if_neg (by simp;omega),hfs.1];rfl)
theorem rof_c(n:Int)(h1:-9223372036854775808<=n)(h2:n<=9223372036854775807)(w0:World):Calls prog 88 #[J n] w0 (Yc λv w'=>v=Kk (Kw n)/\Same [] w0 w'):=by
 refine Fa func88 O ntmps88 Ab (Wb _) ?_;have hF:=FR.start w0 [];refine Ea (Pc (cs:=#[.bool false,I [],J 0]) hF tX O ?_);rintro b1 w hb1 hF -;refine Lb (Ba (Za O) ?_);refine Pa hF (dec_c n h1 h2 _) (Ma F8 O O) ?_;intro w hF;refine Pa hF (NJ (Lib.itoa n) (by have:=Lib.itoa_length_le n h1 h2;omega) _) (Ma OZ O O) ?_;intro w hF;refine Ba (Mj O) (Ba (Gt O O) (Ba (Rj O O) ?_));refine If hF tX tZ O ?_;rintro b2 w hb2 hF -;refine Ba (Fb O) (Lb (Xb (Bf jZ tZ O hF.F 0 O O) ?_));refine Ge hF tZ O O Tr ?_;rintro w hF -;refine Da (Db (Cb (La (Mg O (l:=[.bool ((Kw n).neg),I ((Kw n).digits),J ((Kw n).exp)]) O jZ tZ O (hF.cellsAll 1 O)) ?_)));exact⟨O,hF.same⟩
theorem Qt(s:Str)(hl:s.length<=140737488355327)(w0:World):Calls prog 140 #[I s] w0 (Yc λv w'=>v=.tuple #[Kk (Kc s).1,.bool (Pj s)]/\Same [] w0 w'):=by
 refine Fa func140 O ntmps140 Ab (Wb _) ?_;have hF:=FR.start w0 [];refine Ea (Pc (cs:=#[.bool false,I [],J 0]) hF tX O ?_);rintro b1 w hb1 hF -;refine Ba (Kb O) (Lb (Ba (Ad O) ?_));refine Pa hF (NJ s hl _) (Ma OZ O O) ?_;intro w hF;refine Ba (Mj O) (Ba (Gt O O) (Ba (Rj O O) ?_));refine If hF tX tZ O ?_;rintro b2 w hb2 hF -;refine Ba (Fb O) (Da (Ga ?_));refine Md (.of []) (bQ [0,1,2,3,4,6] (.act 5 (.free 7 (.free 8 (.act 9 (.free 10 .nil)))))) hF ?_;rintro w hF -;refine⟨λwq=>FR w0 [] [(b2,.cells #[.bool ((Kc s).1.neg),I ((Kc s).1.digits),J ((Kc s).1.exp)] 90)] wq,hF.sub (.cons_cons _ (.cons _ .slnil)),?_⟩;refine Ng O (Bf jZ tZ O C0 0 O O) (Ib O (Za O) (Ib O (Of O O) (Ib O (Dc O) ?_)));refine Xp (d:=14) O (λhg0=>?_) (λhg0=>?_);refine Ng O (Bf jZ tZ O C0 0 O O) (Ib O (Ad O) ?_);refine Vd hF (ZR (Kc s).1 (by have:=Ah s;omega) _) O (Ma en_87 O O) ?_;intro w hF;refine⟨hF.sub (.cons_cons _ (.cons _ .slnil)),?_⟩;refine Ib O (Ry O O) (Ib O (Rb O O) ?_);refine Gx O hF tZ O O Tr ?_;rintro w hF -;refine⟨hF.sub (.cons_cons _ (.cons _ .slnil)),?_⟩;refine Ib O (Kb O) (Ic (Ha ?_));refine Db (Cb (La (Ld O (l:=[.bool ((Kc s).1.neg),I ((Kc s).1.digits),J ((Kc s).1.exp)]) O jZ tZ O (hF.cellsAll 1 O) (v:=.bool (decide ((Rg (Kc s).1:Str)=s))) O) ?_));exact⟨by simp_all[Pj,Kk],hF.same⟩;refine Ub O (Ub O ?_);refine K2 O ?_ (hF.sub (.cons_cons _ (.cons _ .slnil)));refine Ub O (Ib O (Pb O O) ?_);refine Gx O hF tZ O O Tr ?_;rintro w hF -;refine⟨hF.sub (.cons_cons _ (.cons _ .slnil)),?_⟩;refine Ib O (Kb O) (Ic (Ha ?_));refine Db (Cb (La (Ld O (l:=[.bool ((Kc s).1.neg),I ((Kc s).1.digits),J ((Kc s).1.exp)]) O jZ tZ O (hF.cellsAll 1 O) (v:=.bool false) O) ?_));exact⟨by simp_all[Pj,Kk],hF.same⟩
def Fu(s:Str)(i:Nat):Int:=if i<s.length then bZ s i else 48
theorem TR(c:UInt8)(s:Str)(i:Nat):bZ (c::s) (i+1)=if i<s.length then bZ s i else bZ (c::s) (i+1):=by
  split
  ·rename_i h
   rw[<-Xi (show i+1<(c::s).length by simp;omega),<-Xi h];rfl
  rfl
theorem Xr(c:UInt8)(s:Str)(i:Nat):Fu (c::s) (i+1)=Fu s i:=by
  unfold Fu;rw[TR];simp only[kQ];by_cases h:i<s.length
  ·rw[if_pos Aa,if_pos h,if_pos h]
  rw[if_neg Aa,if_neg h]
theorem Ss(c:UInt8)(s:Str):Fu (c::s) 0=(c.toNat:Int):=by
  unfold Fu;rw[if_pos Oa,<-Xi Oa];rfl
theorem I8{s:Str}(h:s.all Pe=true)(i:Nat):48<=Fu s i/\Fu s i<=57:=by
  unfold Fu;split
  ·rename_i hi
   have:=List.all_eq_true.1 h s[i] (eQ hi);unfold Pe at this;simp only[Bool.and_eq_true,decide_eq_true_eq]at this;rw[<-Xi hi];omega
  omega
theorem all_cons{c:UInt8}{s:Str}(h:(c::s).all Pe=true):Pe c=true/\s.all Pe=true:=by simpa using h
theorem BG:∀(a b:Str)(j:Nat),a.all Pe=true->b.all Pe=true->(∀i,i<j->Fu a i=Fu b i)->Fu a j<Fu b j->Lib.compareBytes a b = -1
  | [],[],j,_,_,_,h=>by exfalso;simp[Fu]at h
  | [],_::_,_,_,_,_,_=>rfl
  | c :: a, [], j, ha, _, _, h => by
    exfalso;have:=I8 ha j;have e:Fu [] j=48:=by simp[Fu]
    omega
  | c :: a, d :: b, 0, _, _, _, h => by
    rw[Ss,Ss]at h;have:c<d:=UInt8.lt_iff_toNat_lt.2 Aa;rw[Lib.compareBytes,if_pos this]
  | c :: a, d :: b, j + 1, ha, hb, he, h => by
    have h0:=he 0 Aa;rw[Ss,Ss]at h0;have:c=d:=UInt8.toNat.inj Aa;subst this;rw[Xr,Xr]at h;have hlt:¬c<c:=by rw[UInt8.lt_iff_toNat_lt];omega
    rw[Lib.compareBytes,if_neg hlt,if_neg hlt];refine BG a b j (all_cons ha).2 (all_cons hb).2 (λi hi=>?_) h;have:=he (i+1) Aa
    rwa [Xr,Xr]at this
theorem BZ:∀{s:Str},s≠[]->(∀i,Fu s i=48)->bZ s (s.length-1)=48:=by
  intro s hs h;have h1:=h (s.length-1);have:=List.length_pos_iff.2 hs;unfold Fu at h1
  rwa [if_pos Aa]at h1
theorem RJ:∀(a b:Str),a.all Pe=true->b.all Pe=true->(a≠[]->¬bZ a (a.length-1)=48)->(b≠[]->¬bZ b (b.length-1)=48)->(∀i,Fu a i=Fu b i)->Lib.compareBytes a b=0
  | [],[],_,_,_,_,_=>rfl
  | [],d::b,_,_,_,h,he=>absurd (BZ Oa λi=>by rw[<-he i];simp[Fu]) (h Oa)
  | c::a,[],_,_,h,_,he=>absurd (BZ Oa λi=>by rw[he i];simp[Fu]) (h Oa)
  | c :: a, d :: b, ha, hb, hla, hlb, he => by
    have h0:=he 0;rw[Ss,Ss]at h0;have:c=d:=UInt8.toNat.inj Aa;subst this;have hlt:¬c<c:=by rw[UInt8.lt_iff_toNat_lt];omega
    rw[Lib.compareBytes,if_neg hlt,if_neg hlt];have last:∀s:Str,((c::s)≠[]->¬bZ (c::s) ((c::s).length-1)=48)->s≠[]->¬bZ s (s.length-1)=48:=by
      intro s h hs;have hp:=List.length_pos_iff.2 hs;have h2:=h Oa;rw[kQ,show s.length+1-1=(s.length-1)+1 by omega,TR,if_pos Aa]at h2;exact h2
    refine RJ a b (all_cons ha).2 (all_cons hb).2 (last a hla) (last b hlb) λi=>?_;have:=he (i+1)
    rwa [Xr,Xr]at this
theorem Bv{x:Num}(h:Lc x=true)(hd:x.digits≠[]):x.digits.all Pe=true/\¬bZ x.digits (x.digits.length-1)=48:=by
  have h0:¬x=Num.zero:=by rintro rfl;exact hd rfl
  unfold Lc at h;simp only[Bool.or_eq_true,Bool.and_eq_true,decide_eq_true_eq]at h;rcases h with h|h
  ·exact absurd h h0
  refine⟨Cw h.1.1.1.1.1, ?_⟩;have hl:x.digits.length-1<x.digits.length:=by have:=List.length_pos_iff.2 hd;omega
  intro e;rw[<-Xi hl]at e;exact h.1.1.2 (by rw[getLast?_get hl,Gv.1 e])
theorem Hy(a b:Str):Lib.compareBytes b a = - Lib.compareBytes a b:=(P1 a).anti b trivial
def F0(x y:Num):Int:=if x.digits=[]\/y.digits=[] then (min (x.digits.length:Int) 1)-(min (y.digits.length:Int) 1) else Au x y
theorem Vs{x y:Num}(hx:¬x.digits=[])(hy:¬y.digits=[]):F0 x y=Au x y:=by rw[F0,if_neg (by simp[hx,hy])]
theorem cmpI_lt{a b:Int}(h:a<b):Lib.compareInt a b = -1:=by rw[Lib.compareInt,if_pos h]
theorem cmpI_gt{a b:Int}(h:b<a):Lib.compareInt a b=1:=by rw[Lib.compareInt,if_neg Aa,if_pos h]
theorem cmpI_eq{a b:Int}(h:a=b):Lib.compareInt a b=0:=by rw[Lib.compareInt,if_neg Aa,if_neg Aa]
theorem far_lt{x y:Num}(h:(x.digits.length:Int)+x.exp<(y.digits.length:Int)+y.exp):Au x y = -1:=by rw[C8,cmpI_lt h];rfl
theorem far_gt{x y:Num}(h:(y.digits.length:Int)+y.exp<(x.digits.length:Int)+x.exp):Au x y=1:=by rw[C8,cmpI_gt h];rfl
theorem C3{x y:Num}(h:(x.digits.length:Int)+x.exp=(y.digits.length:Int)+y.exp):Au x y=Lib.compareBytes x.digits y.digits:=by rw[C8,cmpI_eq h];rfl
theorem VS(x y:Num)(rx:Lc x=true)(ry:Lc y=true)(w0:World):Calls prog 204 #[Kk x,Kk y] w0 (Yc λv w'=>v=J (F0 x y)/\Same [] w0 w'):=by
 have hx:=Wc rx;have hy:=Wc ry;refine Fa func204 O ntmps204 Ab (Uc _ _) ?_;have hF:=FR.start w0 [];refine Ea (Ce hF O ?_);rintro b1 w hb1 hF -;refine Ce hF O ?_;rintro b2 w hb2 hF -;refine Ba (Fb O) (Da (Ga (Ga ?_)));refine Fd (λσ w=>∃(bd:Bool),(bd=decide (x.digits=[]\/y.digits=[]))/\AllEq σ [(2,V b1),(3,V b2),(17,.bool (bd))]/\FR w0 [] [(b2,.cells #[.bool (y.neg),I (y.digits),J (y.exp)] 90),(b1,.cells #[.bool (x.neg),I (x.digits),J (x.exp)] 90)] w) ?_ ?_;refine Ja (Ba (Mb Se O) (Xb (Ej iZ O hF.F 1 O O) (Ba (Ry O O) (Ba (Dc O) ?_))));refine Bb (d:=13) O (λhg0=>?_) (λhg0=>?_);refine Ca (Ca (Ca (Ba (Rb O O) (Va ?_))));exact Ta ⟨(true),(by clear hF;simp_all),Oi,hF⟩;refine Ba (Mb Se O) (Xb (Ej iZ O hF.F 0 O O) (Ba (Ry O O) (Ba (Pb O O) (Va ?_))));exact Ta ⟨(decide ((y.digits:Str)=[])),(by clear hF;simp_all),Oi,hF⟩;rintro σ w ⟨bd,hbd,hs,hF⟩;refine Eg.slots hs ?_;clear hs;intro σ;refine Ha (Jd O O (λhc0=>?_) (λhc0=>?_));have hd0:=of_decide_eq_true (hbd.symm.trans hc0);refine Ea (Ba (Mb Se O) (Xb (Ej iZ O hF.F 1 O O) (Ba (Sk kX O) (Ia (v:=J (min ((((x.digits):Str).length:Int):Int) (1:Int))) (x_min O O) (Ba (Mb Se O) (Xb (Ej iZ O hF.F 0 O O) (Ba (Sk kX O) (Ia (v:=J (min ((((y.digits):Str).length:Int):Int) (1:Int))) (x_min O O) (Ba (C5 O O) (Ba (Fb O) (Da ?_)))))))))));refine Db (Cb (La (Gq (v:=J ((min ((x.digits.length:Nat):Int) 1)-(min ((y.digits.length:Nat):Int) 1))) O O) ?_));exact⟨by rw[F0,if_pos hd0],hF.same⟩;have hd0:=of_decide_eq_false (hbd.symm.trans hc0);refine Ka (Ha (Ea (Ba (Mb Se O) (Xb (Ej iZ O hF.F 1 O O) (Ba (Sk kX O) (Ba (Mb Yg O) (Xb (Zg xQ O hF.F 1 O O) (Ba (Cl O O) (Ba (Fb O) (Da (Ga ?_)))))))))));refine Ja (Ba (Mb Se O) (Xb (Ej iZ O hF.F 0 O O) (Ba (Sk kX O) (Ba (Mb Yg O) (Xb (Zg xQ O hF.F 0 O O) (Ba (Cl O O) (Ba (Fb O) (Da (Ga (Ea (Ba (Za O) ?_)))))))))))
 refine Ba (Za O) (Ba (Wm O O) (Da ?_));refine Jb O O (λhc1=>?_) (λhc1=>?_);refine Ga (Ea (Ba (Za O) (Ba (Za O) (Ba (Pg O O) (Da ?_)))));refine Jb O O (λhc2=>?_) (λhc2=>?_);refine Ea (Ba (Fb O) (Da ?_));refine Gc (v:=J ((-1))) O O ?_;exact⟨by rw[Vs (λe=>hd0 (.inl e)) (λe=>hd0 (.inr e)),far_lt Aa],hF.same⟩;refine Ka (Ha (Ea (Ba (Fb O) (Da ?_))));refine Gc (v:=J 1) O O ?_;exact⟨by rw[Vs (λe=>hd0 (.inl e)) (λe=>hd0 (.inr e)),far_gt Aa],hF.same⟩;refine Ka (Ha (Ga (Ea (Ba (Fb O) (Da (Qa ?_))))));have hnx:¬x.digits=[]:=λe=>hd0 (.inl e);have hny:¬y.digits=[]:=λe=>hd0 (.inr e);obtain⟨hdx,hlx⟩:=Bv rx hnx;obtain⟨hdy,hly⟩:=Bv ry hny;have hxy:(x.digits.length:Int)+x.exp=(y.digits.length:Int)+y.exp:=by omega
 refine Fc (λμ σ w=>∃(j:Nat),μ=x.digits.length+y.digits.length-j/\(j<=x.digits.length\/j<=y.digits.length)/\(∀i,i<j->Fu x.digits i=Fu y.digits i)/\AllEq σ [(2,V b1),(3,V b2),(7,J ((j:Int)))]/\FR w0 [] [(b2,.cells #[.bool (y.neg),I (y.digits),J (y.exp)] 90),(b1,.cells #[.bool (x.neg),I (x.digits),J (x.exp)] 90)] w) _ ⟨0,O,(.inl (Nat.zero_le _)),(λi hi=>absurd hi Aa),Oi,hF⟩ ?_;rintro μ σ w ⟨j,rfl,hj,he,hs,hF⟩;refine Cg.slots hs ?_;clear hs;intro σ;refine Ga (Ga ?_);refine Fd (λσ w=>∃(bd:Bool),(bd=decide ((j:Int)<x.digits.length\/(j:Int)<y.digits.length))/\AllEq σ [(2,V b1),(3,V b2),(7,J ((j:Int))),(56,.bool (bd))]/\FR w0 [] [(b2,.cells #[.bool (y.neg),I (y.digits),J (y.exp)] 90),(b1,.cells #[.bool (x.neg),I (x.digits),J (x.exp)] 90)] w) ?_ ?_;refine Ja (Ba (Za O) (Ba (Mb Se O) (Xb (Ej iZ O hF.F 1 O O) (Ba (Sk kX O) (Ba (Pg O O) (Ba (Dc O) ?_))))));refine Bb (d:=50) O (λhg1=>?_) (λhg1=>?_);refine Ca (Ca (Ca (Ca (Ca (Ba (Rb O O) (Va ?_))))));exact Ta ⟨(true),(by symm;first|(rw[decide_eq_true_iff];omega)|(rw[decide_eq_false_iff_not];omega)|(rw[decide_eq_decide];omega)),Jj,hF⟩;refine Ba (Za O) (Ba (Mb Se O) (Xb (Ej iZ O hF.F 0 O O) (Ba (Sk kX O) (Ba (Pg O O) (Ba (Pb O O) (Va ?_))))));exact Ta ⟨(decide (((j:Int):Int)<((((y.digits):Str).length:Int):Int))),(by symm;first|(rw[decide_eq_true_iff];omega)|(rw[decide_eq_false_iff_not];omega)|(rw[decide_eq_decide];omega)),Jj,hF⟩;rintro σ w ⟨bd,hbd,hs,hF⟩;refine Eg.slots hs ?_;clear hs;intro σ;refine Ha (Jd O O (λhc3=>?_) (λhc3=>?_));have hd3:=of_decide_eq_true (hbd.symm.trans hc3);refine Ka (Ha (Ga (Qa (Ea (Ba (Fb O) (Lb (Ba (Fb O) (Da ?_))))))));refine Ga (Fd (λσ w=>∃(c:Int),(c=Fu x.digits j-48)/\AllEq σ [(2,V b1),(3,V b2),(7,J ((j:Int))),(8,J c),(9,J 0)]/\FR w0 [] [(b2,.cells #[.bool (y.neg),I (y.digits),J (y.exp)] 90),(b1,.cells #[.bool (x.neg),I (x.digits),J (x.exp)] 90)] w) ?_ ?_)
 refine Ea (Ba (Za O) (Ba (Mb Se O) (Xb (Ej iZ O hF.F 1 O O) (Ba (Sk kX O) (Ba (Pg O O) (Da ?_))))));refine Jb O O (λhc4=>?_) (λhc4=>?_);refine Ja (Ba (Mb Se O) (Xb (Ej iZ O hF.F 1 O O) (Ba (Za O) ?_)));refine Ia (v:=.int .u8 (bZ (x.digits) j)) (by rw[<-Xi (s:=x.digits) (p:=j) Aa];exact Td j kX O O Aa) ?_;refine Ia (v:=.int .u8 (bZ x.digits j-48)) (Tu rfl rfl (by have:=I8 (s:=x.digits) (by first|exact hdx|exact hdy) j;unfold Fu at this;rw[if_pos Aa]at this;rw[IntKind.wrap_u8];omega)) ?_;refine Ia (v:=J (bZ x.digits j-48)) (Be gX bX O (by have:=Gi x.digits j;exact Rh Aa Aa)) ?_;refine Ba (Fb O) (Va ?_)
 ·exact Ta ⟨(bZ x.digits j-48),(by unfold Fu;first|(rw[if_pos Aa];done)|(rw[if_neg Aa];rfl)),Uq,hF⟩
 refine Ka ?_
 ·exact Ta ⟨(0),(by unfold Fu;first|(rw[if_pos Aa];done)|(rw[if_neg Aa];rfl)),Uq,hF⟩
 rintro σ w ⟨c,hc,hs,hF⟩;refine Eg.slots hs ?_;clear hs;intro σ;refine Ha (Ga ?_);refine Fd (λσ w=>∃(d:Int),(d=Fu y.digits j-48)/\AllEq σ [(2,V b1),(3,V b2),(7,J ((j:Int))),(8,J c),(9,J d)]/\FR w0 [] [(b2,.cells #[.bool (y.neg),I (y.digits),J (y.exp)] 90),(b1,.cells #[.bool (x.neg),I (x.digits),J (x.exp)] 90)] w) ?_ ?_;refine Ea (Ba (Za O) (Ba (Mb Se O) (Xb (Ej iZ O hF.F 0 O O) (Ba (Sk kX O) (Ba (Pg O O) (Da ?_))))));refine Jb O O (λhc5=>?_) (λhc5=>?_);refine Ja (Ba (Mb Se O) (Xb (Ej iZ O hF.F 0 O O) (Ba (Za O) ?_)));refine Ia (v:=.int .u8 (bZ (y.digits) j)) (by rw[<-Xi (s:=y.digits) (p:=j) Aa];exact Td j kX O O Aa) ?_;refine Ia (v:=.int .u8 (bZ y.digits j-48)) (Tu rfl rfl (by have:=I8 (s:=y.digits) (by first|exact hdx|exact hdy) j;unfold Fu at this;rw[if_pos Aa]at this;rw[IntKind.wrap_u8];omega)) ?_;refine Ia (v:=J (bZ y.digits j-48)) (Be gX bX O (by have:=Gi y.digits j;exact Rh Aa Aa)) ?_;refine Ba (Fb O) (Va ?_)
 ·exact Ta ⟨(bZ y.digits j-48),(by unfold Fu;first|(rw[if_pos Aa];done)|(rw[if_neg Aa];rfl)),Uq,hF⟩
 refine Ka ?_
 ·exact Ta ⟨(0),(by unfold Fu;first|(rw[if_pos Aa];done)|(rw[if_neg Aa];rfl)),Uq,hF⟩
 rintro σ w ⟨d,hd,hs,hF⟩;refine Eg.slots hs ?_;clear hs;intro σ;refine Ha (Ga (Ea (Ba (Za O) (Ba (Za O) (Ba (Pg O O) (Da ?_))))));refine Jb O O (λhc6=>?_) (λhc6=>?_);refine Ea (Ba (Fb O) (Da ?_));refine Gc (v:=J ((-1))) O O ?_;exact⟨by rw[Vs hnx hny,C3 hxy,BG _ _ j hdx hdy he Aa],hF.same⟩;refine Ka (Ha (Ea (Ba (Za O) (Ba (Za O) (Ba (Mo O O) (Da ?_))))));refine Jb O O (λhc7=>?_) (λhc7=>?_);refine Ea (Ba (Fb O) (Da ?_));refine Gc (v:=J 1) O O ?_;exact⟨by rw[Vs hnx hny,C3 hxy,Hy,BG _ _ j hdy hdx (λi hi=>(he i hi).symm) Aa];rfl,hF.same⟩;refine Ka (Ya (Ha (Ja (Ba (Za O) (Ba (Bi (((j+1:Nat):Int)) O O) (Ba (Fb O) (Va ?_)))))));refine Ta ⟨_,?_,j+1,rfl,Aa,(λi hi=>by rcases Nat.lt_or_ge i j with h|h;exact he i h;obtain rfl:i=j:=Aa;omega),Oi,hF⟩;omega;have hd3:=of_decide_eq_false (hbd.symm.trans hc3);refine Bc (Yb O ?_);refine Ha (Ea (Ba (Fb O) (Da ?_)));refine Gc (v:=J 0) O O ?_;exact⟨by rw[Vs hnx hny,C3 hxy,RJ _ _ hdx hdy (λ_=>hlx) (λ_=>hly) (λi=>by rcases Nat.lt_or_ge i j with h|h;exact he i h;unfold Fu;rw[if_neg Aa,if_neg Aa])],hF.same⟩
theorem Fm{x y:Num}(hx:Lc x=true)(hy:Lc y=true)(hn:x.neg≠y.neg):So x y=if x.neg=true then -1 else 1:=by
  rw[Az hx hy];unfold Sf;by_cases h1:x.digits=[]
  ·have := Ol hx h1
   subst this;have h2:y.neg=true:=by cases h:y.neg with|true=>rfl|false=>rw[h]at hn;exact absurd rfl hn
   have h3:¬y.digits=[]:=λe=>by have:=Ol hy e;subst this;cases h2
   simp[Num.zero,h2,h3,Lib.compareInt]
  by_cases h2 : y.digits = []
  ·have := Ol hy h2
   subst this;have h3:x.neg=true:=by cases h:x.neg with|true=>rfl|false=>rw[h]at hn;exact absurd rfl hn
   simp[Num.zero,h1,h3,Lib.compareInt]
  cases h3 : x.neg with
  | true =>
    have h4:y.neg=false:=by cases h:y.neg with|false=>rfl|true=>rw[h,h3]at hn;exact absurd rfl hn
    simp[h1,h2,h4,Lib.compareInt]
  | false =>
    have h4:y.neg=true:=by cases h:y.neg with|true=>rfl|false=>rw[h,h3]at hn;exact absurd rfl hn
    simp[h1,h2,h4,Lib.compareInt]
theorem Yn{x y:Num}(hx:Lc x=true)(hy:Lc y=true)(h1:x.neg=false)(h2:y.neg=false):So x y=F0 x y:=by
  rw[Az hx hy];unfold Sf F0;by_cases h3:x.digits=[]
  ·by_cases h4 : y.digits = []
   ·simp[h3,h4]
   have : 1 <= (y.digits.length : Int) := by have := List.length_pos_iff.2 h4;omega
   rw[Int.min_eq_right this];simp[h3,h4,h2,Lib.compareInt];decide
  have hl : 1 <= (x.digits.length : Int) := by have := List.length_pos_iff.2 h3;omega
  by_cases h4:y.digits=[]
  ·rw[Int.min_eq_right hl]
   simp[h3,h4,h1,Lib.compareInt];decide
  simp[h3,h4,h1,h2]
theorem Zn{x y:Num}(hx:Lc x=true)(hy:Lc y=true)(h1:x.neg=true)(h2:y.neg=true):So x y=F0 y x:=by
  have h3:¬x.digits=[]:=λe=>by have:=Ol hx e;subst this;cases h1
  have h4:¬y.digits=[]:=λe=>by have:=Ol hy e;subst this;cases h2
  rw[Az hx hy,Vs h4 h3,DZ x y];unfold Sf;simp[h3,h4,h1,h2]
theorem YO(x y:Num)(hlx:x.digits.length<=140737488355328)(hly:y.digits.length<=140737488355328)(w0:World):Calls prog 141 #[Kk x,Kk y] w0 (Yc λv w'=>v=J (So x y)/\Same [] w0 w'):=by
 refine Fa func141 O ntmps141 Ab (Uc _ _) ?_;have hF:=FR.start w0 [];refine Ea (Ce hF O ?_);rintro b1 w hb1 hF -;refine Ce hF O ?_;rintro b2 w hb2 hF -;refine Ba (Fb O) (Lb (Xb (Bf jZ tZ O hF.F 1 O O) ?_));refine Pa hF (N0 x Aa _) (Ma YE O O) ?_;intro w hF;refine Ba (Kb O) (Lb (Xb (Bf jZ tZ O hF.F 0 O O) ?_));refine Pa hF (N0 y Aa _) (Ma YE O O) ?_;intro w hF;refine Ba (Kb O) (Da (Ga (Ea (Ba (Dc O) (Ba (Di O) (Ba (Dc O) ?_))))));refine Sc (d:=13) O (λhg0=>?_) (λhg0=>?_);refine Ca (Ca (Ba (Rb O O) (Da (Yd O (Ga (Ea (Ba (Dc O) (Da ?_))))))));refine Jd O O (λhc1=>?_) (λhc1=>?_);refine Ea (Ba (Fb O) (Da ?_));refine Gc (v:=J 1) O O ⟨congrArg (Value.int .i64) ?_,hF.same⟩
 ·first|(unfold So;simp_all;done)|(rw[Fm (by simp_all) (by simp_all) (by simp_all)];simp_all;done)|(exact (Yn (by simp_all) (by simp_all) (by simp_all) (by simp_all)).symm)|(exact (Zn (by simp_all) (by simp_all) (by simp_all) (by simp_all)).symm)
 refine Ka (Ha (Ga (Ea (Ba (Dc O) (Da ?_)))));refine Jd O O (λhc2=>?_) (λhc2=>?_);refine Ea (Ba (Fb O) (Da ?_));refine Gc (v:=J ((-1))) O O ⟨congrArg (Value.int .i64) ?_,hF.same⟩
 ·first|(unfold So;simp_all;done)|(rw[Fm (by simp_all) (by simp_all) (by simp_all)];simp_all;done)|(exact (Yn (by simp_all) (by simp_all) (by simp_all) (by simp_all)).symm)|(exact (Zn (by simp_all) (by simp_all) (by simp_all) (by simp_all)).symm)
 refine Ka (Ha (Ea (Ba (Fb O) (Da ?_))));refine Gc (v:=J 0) O O ⟨congrArg (Value.int .i64) ?_,hF.same⟩
 ·first|(unfold So;simp_all;done)|(rw[Fm (by simp_all) (by simp_all) (by simp_all)];simp_all;done)|(exact (Yn (by simp_all) (by simp_all) (by simp_all) (by simp_all)).symm)|(exact (Zn (by simp_all) (by simp_all) (by simp_all) (by simp_all)).symm)
 refine Ba (Dc O) (Ba (Di O) (Ba (Pb O O) (Da ?_)));refine Jd O O (λhc0=>?_) (λhc0=>?_);refine Ga (Ea (Ba (Dc O) (Da ?_)));refine Jd O O (λhc1=>?_) (λhc1=>?_);refine Ea (Ba (Fb O) (Da ?_));refine Gc (v:=J 1) O O ⟨congrArg (Value.int .i64) ?_,hF.same⟩
 ·first|(unfold So;simp_all;done)|(rw[Fm (by simp_all) (by simp_all) (by simp_all)];simp_all;done)|(exact (Yn (by simp_all) (by simp_all) (by simp_all) (by simp_all)).symm)|(exact (Zn (by simp_all) (by simp_all) (by simp_all) (by simp_all)).symm)
 refine Ka (Ha (Ga (Ea (Ba (Dc O) (Da ?_)))));refine Jd O O (λhc2=>?_) (λhc2=>?_);refine Ea (Ba (Fb O) (Da ?_));refine Gc (v:=J ((-1))) O O ⟨congrArg (Value.int .i64) ?_,hF.same⟩
 ·first|(unfold So;simp_all;done)|(rw[Fm (by simp_all) (by simp_all) (by simp_all)];simp_all;done)|(exact (Yn (by simp_all) (by simp_all) (by simp_all) (by simp_all)).symm)|(exact (Zn (by simp_all) (by simp_all) (by simp_all) (by simp_all)).symm)
 refine Ka (Ha (Ea (Ba (Fb O) (Da ?_))));refine Gc (v:=J 0) O O ⟨congrArg (Value.int .i64) ?_,hF.same⟩
 ·first|(unfold So;simp_all;done)|(rw[Fm (by simp_all) (by simp_all) (by simp_all)];simp_all;done)|(exact (Yn (by simp_all) (by simp_all) (by simp_all) (by simp_all)).symm)|(exact (Zn (by simp_all) (by simp_all) (by simp_all) (by simp_all)).symm)
 refine Ka (Ha (Ga (Ea (Ba (Mb Wo O) (Xb (X3 dZ O hF.F 1 O O) (Ba (Mb Wo O) (Xb (X3 dZ O hF.F 0 O O) (Ia (v:=.bool (x.neg != y.neg)) (x_neqb fX O O) (Da ?_)))))))));refine Jd O O (λhc3=>?_) (λhc3=>?_);refine Ga (Ea (Ba (Mb Wo O) (Xb (X3 dZ O hF.F 1 O O) (Da ?_))));refine Jd O O (λhc4=>?_) (λhc4=>?_);refine Ea (Ba (Fb O) (Da ?_));refine Gc (v:=J ((-1))) O O ⟨congrArg (Value.int .i64) ?_,hF.same⟩
 ·first|(unfold So;simp_all;done)|(rw[Fm (by simp_all) (by simp_all) (by simp_all)];simp_all;done)|(exact (Yn (by simp_all) (by simp_all) (by simp_all) (by simp_all)).symm)|(exact (Zn (by simp_all) (by simp_all) (by simp_all) (by simp_all)).symm)
 refine Ka (Ha (Ea (Ba (Fb O) (Da ?_))));refine Gc (v:=J 1) O O ⟨congrArg (Value.int .i64) ?_,hF.same⟩
 ·first|(unfold So;simp_all;done)|(rw[Fm (by simp_all) (by simp_all) (by simp_all)];simp_all;done)|(exact (Yn (by simp_all) (by simp_all) (by simp_all) (by simp_all)).symm)|(exact (Zn (by simp_all) (by simp_all) (by simp_all) (by simp_all)).symm)
 refine Ka (Ha (Ga (Ea (Ba (Mb Wo O) (Xb (X3 dZ O hF.F 1 O O) (Da ?_))))));refine Jd O O (λhc5=>?_) (λhc5=>?_);refine Ea (Xb (Bf jZ tZ O hF.F 0 O O) (Xb (Bf jZ tZ O hF.F 1 O O) ?_));refine Pa hF (VS y x (by simp_all) (by simp_all) _) (Xa en_204 O O O) ?_;intro w hF;refine Ba (Fb O) (Da ?_);refine Gc (v:=J (F0 y x)) O O ⟨congrArg (Value.int .i64) ?_,hF.same⟩
 ·first|(unfold So;simp_all;done)|(rw[Fm (by simp_all) (by simp_all) (by simp_all)];simp_all;done)|(exact (Yn (by simp_all) (by simp_all) (by simp_all) (by simp_all)).symm)|(exact (Zn (by simp_all) (by simp_all) (by simp_all) (by simp_all)).symm)
 refine Ka (Ha (Ea (Xb (Bf jZ tZ O hF.F 1 O O) (Xb (Bf jZ tZ O hF.F 0 O O) ?_))));refine Pa hF (VS x y (by simp_all) (by simp_all) _) (Xa en_204 O O O) ?_;intro w hF;refine Ba (Fb O) (Da ?_);refine Gc (v:=J (F0 x y)) O O ⟨congrArg (Value.int .i64) ?_,hF.same⟩
 ·first|(unfold So;simp_all;done)|(rw[Fm (by simp_all) (by simp_all) (by simp_all)];simp_all;done)|(exact (Yn (by simp_all) (by simp_all) (by simp_all) (by simp_all)).symm)|(exact (Zn (by simp_all) (by simp_all) (by simp_all) (by simp_all)).symm)
def vN(acc:Nat)(l:Str):Nat:=l.foldl (λa c=>a*10+(c.toNat-48)) acc
theorem HE(acc:Nat)(c:UInt8)(l:Str):vN acc (c::l)=vN (acc*10+(c.toNat-48)) l:=by unfold vN;rw[List.foldl_cons]
theorem vN_ge(l:Str):∀acc:Nat,acc<=vN acc l:=by
  induction l with
  | nil=>exact λacc=>gQ _
  | cons c l ih =>
    intro acc;rw[HE];have:=ih (acc*10+(c.toNat-48));omega
theorem Bx{c:UInt8}(h:Pe c=true):48<=c.toNat/\c.toNat<=57:=by
  unfold Pe at h;simpa using h
theorem KZ:∀(l:Str)(acc:Nat),l.all Pe=true->((vN acc l:Nat):Int)=l.foldl (λa c=>10*a+((c.toNat:Int)-48)) (acc:Int)
  | [],_,_=>rfl
  | c :: l, acc, h => by
    obtain⟨hc,hl⟩:=all_cons h;have:=Bx hc;rw[HE,KZ l _ hl,List.foldl_cons]
    congr 1
    omega
theorem IR{l:Str}(h:l.all Pe=true):((vN 0 l:Nat):Int)=Qd l:=KZ l 0 h
theorem uintM:∀(l:Str)(acc:Nat),l.all Pe=true->acc<=18446744073709551615->Lib.parseUintM 18446744073709551615 acc l=if vN acc l<=18446744073709551615 then .ok (vN acc l) else .range
  | [],acc,_,h=>by rw[show vN acc []=acc from rfl,if_pos h];rfl
  | c :: l, acc, h, ha => by
    obtain⟨hc,hl⟩:=all_cons h;have r:=Bx hc;rw[Lib.parseUintM,if_pos r,HE];have hg:=vN_ge l (acc*10+(c.toNat-48));by_cases h1:1844674407370955162<=acc
    ·rw[if_pos h1,if_neg Aa]
    rw[if_neg h1];by_cases h2:18446744073709551615<acc*10+(c.toNat-48)
    ·rw[if_pos h2,if_neg Aa]
    rw[if_neg h2];exact uintM l _ hl Aa
theorem uint64{l:Str}(h:l.all Pe=true)(hne:l≠[]):Lib.parseUintB 64 l=if vN 0 l<=18446744073709551615 then .ok (vN 0 l) else .range:=by
  rw[Lib.parseUintB,if_neg hne];exact uintM l 0 h Aa
theorem pI_plain{l:Str}(h:l.all Pe=true)(hne:l≠[]):(pI l).2=decide (Qd l<=9223372036854775807)/\(Qd l<=9223372036854775807->(pI l).1=Qd l):=by
  have hu:=uint64 h hne;rw[<-IR h]
  match l,hne with
  | c :: r, _ =>
    have hc:=Bx (all_cons h).1;have hp:=Lib.parseIntB_plain 64 c r Aa Aa;rw[hu]at hp;generalize vN 0 (c::r)=n at *;unfold pI;rw[hp];by_cases h1:n<=18446744073709551615
    ·rw[if_pos h1, Lib.signlessC]
     by_cases h2:9223372036854775808<=n
     ·rw[if_pos h2];exact⟨(decide_eq_false Aa).symm,λh=>absurd h Aa⟩
     rw[if_neg h2];exact⟨(decide_eq_true Aa).symm,λ_=>rfl⟩
    rw[if_neg h1];exact⟨(decide_eq_false Aa).symm,λh=>absurd h Aa⟩
theorem pI_minus{l:Str}(h:l.all Pe=true)(hne:l≠[]):(pI (45::l)).2=decide (Qd l<=9223372036854775808)/\(Qd l<=9223372036854775808->(pI (45::l)).1 = - Qd l):=by
  have hu:=uint64 h hne;rw[<-IR h];have hp:=Lib.parseIntB_minus 64 l;rw[hu]at hp;generalize vN 0 l=n at *;unfold pI;rw[hp];by_cases h1:n<=18446744073709551615
  ·rw[if_pos h1, Lib.signedC]
   by_cases h2:9223372036854775808<n
   ·rw[if_pos h2];exact⟨(decide_eq_false Aa).symm,λh=>absurd h Aa⟩
   rw[if_neg h2];exact⟨(decide_eq_true Aa).symm,λ_=>rfl⟩
  rw[if_neg h1];exact⟨(decide_eq_false Aa).symm,λh=>absurd h Aa⟩
def Df(x:Num):Str:=x.digits++Lib.repeatL [48] x.exp.toNat
theorem Dp(x:Num):(Df x).length=x.digits.length+x.exp.toNat:=by rw[Df,dQ,Eo]
theorem AS:∀n:Nat,(Lib.repeatL [48] n).all Pe=true
  | 0=>rfl
  | n + 1 => by
    have h:=AS n;simp only[Lib.repeatL,List.all_append,h,Bool.and_true];decide
theorem rep_48:∀n:Nat,(Lib.repeatL [48] n).all (λc=>c==48)=true
  | 0=>rfl
  | n + 1 => by
    have h:=rep_48 n;simp only[Lib.repeatL,List.all_append,h,Bool.and_true];decide
theorem whole_at{x:Num}{j:Nat}(h:j<(Df x).length):(((Df x)[j].toNat:Nat):Int)=Fu x.digits j:=by
  unfold Fu;by_cases hj:j<x.digits.length
  ·rw[if_pos hj, <- Xi hj]
   simp only[Df];rw[List.getElem_append_left hj]
  rw[if_neg hj];simp only[Df];rw[List.getElem_append_right Aa];have:=List.all_eq_true.1 (rep_48 x.exp.toNat) _ (eQ (show j-x.digits.length<(Lib.repeatL [48] x.exp.toNat).length by rw[Eo];rw[Dp]at h;omega));rw[beq_iff_eq.1 this];rfl
theorem VP{x:Num}{j:Nat}(h:j<(Df x).length):Qd ((Df x).take (j+1))=10*Qd ((Df x).take j)+(Fu x.digits j-48):=by
  rw[Io _ j h,whole_at h]
theorem EL{s:Str}(hs:s.all Pe=true):∀k,∀j,j+k=s.length->Qd (s.take j)<=Qd s
  | 0,j,h=>by rw[List.take_of_length_le Aa];exact Int.le_refl _
  | k + 1, j, h => by
    have h1:=EL hs k (j+1) Aa;have hj:j<s.length:=by omega
    rw[Io s j hj]at h1;have h2:=Bx (List.all_eq_true.1 hs s[j] (eQ hj));have h3:=(F1 (s.take j) (Ts j hs)).1;omega
theorem IU(x:Num):Wu x=if x.neg=true then 45::Df x else Df x:=rfl
theorem St{x:Num}(h:Lc x=true):(Df x).all Pe=true:=by
  rw[Df,List.all_append,AS,Bool.and_true];by_cases hd:x.digits=[]
  ·rw[hd];rfl
  exact (Bv h hd).1
theorem AY{x:Num}(h:Lc x=true)(hn:Df x=[]):x.neg=false:=by
  have:x.digits=[]:=by have:=congrArg List.length hn;rw[Dp,List.length_nil]at this;exact List.eq_nil_of_length_eq_zero Aa
  have:=Ol h this;subst this;rfl
theorem DE{x:Num}(h:Lc x=false\/x.exp<0\/19<(x.digits.length:Int)+x.exp):Vr x=(0,false):=by rw[Uj,if_pos h]
theorem NU{x:Num}(h:¬(Lc x=false\/x.exp<0\/19<(x.digits.length:Int)+x.exp))(hn:x.neg=true):Vr x=if Qd (Df x)<=9223372036854775808 then (- Qd (Df x),true) else (0,false):=by
  have hr:Lc x=true:=by cases hh:Lc x with|true=>rfl|false=>exact absurd (.inl hh) h
  have hne:Df x≠[]:=λe=>by have:=AY hr e;rw[this]at hn;cases hn
  obtain⟨p1,p2⟩:=pI_minus (St hr) hne;have e:Wu x=45::Df x:=by rw[IU,if_pos hn]
  rw[Uj,if_neg h,e,if_neg Oa,p1];by_cases hv:Qd (Df x)<=9223372036854775808
  ·rw[if_pos hv,if_neg (by rw[decide_eq_true hv];decide),p2 hv]
  rw[if_neg hv,if_pos (by rw[decide_eq_false hv])]
theorem XC{x:Num}(h:¬(Lc x=false\/x.exp<0\/19<(x.digits.length:Int)+x.exp))(hn:x.neg=false):Vr x=if Qd (Df x)<=9223372036854775807 then (Qd (Df x),true) else (0,false):=by
  have hr:Lc x=true:=by cases hh:Lc x with|true=>rfl|false=>exact absurd (.inl hh) h
  have e:Wu x=Df x:=by rw[IU,if_neg (by rw[hn];decide)]
  rw[Uj,if_neg h,e];by_cases hne:Df x=[]
  ·rw[if_pos hne,hne];rfl
  obtain⟨p1, p2⟩ := pI_plain (St hr) hne;rw[if_neg hne,p1];by_cases hv:Qd (Df x)<=9223372036854775807
  ·rw[if_pos hv,if_neg (by rw[decide_eq_true hv];decide),p2 hv]
  rw[if_neg hv,if_pos (by rw[decide_eq_false hv])]
theorem int_over{x:Num}(h:¬(Lc x=false\/x.exp<0\/19<(x.digits.length:Int)+x.exp)){j:Nat}(hj:j<=(Df x).length)(hv:9223372036854775808<Qd ((Df x).take j)):Vr x=(0,false):=by
  have hr:Lc x=true:=by cases hh:Lc x with|true=>rfl|false=>exact absurd (.inl hh) h
  have:=EL (St hr) ((Df x).length-j) j Aa;cases hn:x.neg with
  | true=>rw[NU h hn,if_neg Aa]
  | false=>rw[XC h hn,if_neg Aa]
theorem RW(d:Int)(h0:0<=d)(h9:d<=9):(-9223372036854775808+d).tdiv 10 = -((9223372036854775808-d)/10):=by
  rw[show -9223372036854775808+d = -(9223372036854775808-d) by omega,Int.neg_tdiv,Int.tdiv_eq_ediv_of_nonneg Aa]
theorem rint_c(x:Num)(hl:x.digits.length<=140737488355328)(w0:World):Calls prog 229 #[Kk x] w0 (Yc λv w'=>v=.tuple #[J (Vr x).1,.bool (Vr x).2]/\Same [] w0 w'):=by
 refine Fa func229 O ntmps229 Ab (Wb _) ?_;have hF:=FR.start w0 [];refine Ea (Ce hF O ?_);rintro b1 w hb1 hF -;refine Ba (Fb O) (Ba (Kb O) (Lb (Xb (Bf jZ tZ O hF.F 0 O O) ?_)));refine Pa hF (N0 x hl _) (Ma YE O O) ?_;intro w hF;refine Ba (Kb O) (Da (Ga (Ea (Ba (Dc O) (Ba (Di O) (Ba (Dc O) ?_))))));refine Sc (d:=12) O (λhg0=>?_) (λhg0=>?_);refine Ca (Ca (Ca (Ba (Rb O O) (Ba (Dc O) (Ca (Ca (Ca (Ca (Ca (Ca (Ca (Ba (Rb O O) (Va ?_)))))))))))));refine Ha (Yd O (Ea (Ba (Fb O) (Ba (Kb O) (Da ?_)))));refine Db (Cb (La (Oc (v:=J 0) (x:=.bool false) O O O) ?_));exact⟨by rw[DE (.inl (by simpa using hg0))],hF.same⟩;refine Ba (Mb Yg O) (Xb (Zg xQ O hF.F 0 O O) (Ba (Pg O O) (Ba (Pb O O) (Ba (Dc O) ?_))));refine Bb (d:=17) O (λhg1=>?_) (λhg1=>?_);refine Ca (Ca (Ca (Ca (Ca (Ca (Ca (Ba (Rb O O) (Da (Yd O (Ea (Ba (Fb O) ?_)))))))))));refine Ba (Kb O) (Da ?_);refine Db (Cb (La (Oc (v:=J 0) (x:=.bool false) O O O) ?_));exact⟨by rw[DE (.inr (.inl hg1))],hF.same⟩;refine Ba (Mb Se O) (Xb (Ej iZ O hF.F 0 O O) (Ba (Sk kX O) (Ba (Mb Yg O) (Xb (Zg xQ O hF.F 0 O O) ?_))));have hrl:=Wc (x:=x) (by simp_all);refine Ba (Cl O O) (Ba (Mo O O) (Ba (Pb O O) (Da ?_)));refine Jb O O (λhc0=>?_) (λhc0=>?_);refine Ea (Ba (Fb O) (Ba (Kb O) (Da ?_)));refine Db (Cb (La (Oc (v:=J 0) (x:=.bool false) O O O) ?_));exact⟨by rw[DE (.inr (.inr Aa))],hF.same⟩;refine Ka (Ha (Ea (Ba (Fb O) (Da (Ga (Ea (Ba (Fb O) (Da (Qa ?_)))))))));have hrt:Lc x=true:=by simp_all
 have hnb:¬(Lc x=false\/x.exp<0\/19<(x.digits.length:Int)+x.exp):=by rw[hrt];simp;omega
 have hwd:=St hrt;have hdx:x.digits.all Pe=true:=by rw[Df,List.all_append,Bool.and_eq_true]at hwd;exact hwd.1
 have hrl:=Wc hrt;refine Fc (λμ σ w=>∃(j:Nat),∃(v:Int),μ=((x.digits.length:Int)+x.exp-j).toNat/\((j:Int)<=(x.digits.length:Int)+x.exp)/\(v = - Qd ((Df x).take j))/\(v<=0)/\(-9223372036854775808<=v)/\AllEq σ [(1,V b1),(5,J v),(6,J ((j:Int)))]/\FR w0 [] [(b1,.cells #[.bool (x.neg),I (x.digits),J (x.exp)] 90)] w) _ ⟨0,0,O,Aa,(O),Aa,Aa,Oi,hF⟩ ?_;rintro μ σ w ⟨j,v,rfl,hj,hv,hv0,hvm,hs,hF⟩;refine Cg.slots hs ?_;clear hs;intro σ;refine Ga (Ea (Ba (Za O) (Ba (Mb Se O) (Xb (Ej iZ O hF.F 0 O O) (Ba (Sk kX O) (Ba (Mb Yg O) (Xb (Zg xQ O hF.F 0 O O) (Ba (Cl O O) (Ba (Pg O O) (Da ?_))))))))));refine Jb O O (λhc1=>?_) (λhc1=>?_);refine Ka (Ha (Ga (Qa (Ea (Ba (Fb O) (Da (Ga ?_)))))));refine Fd (λσ w=>∃(d:Int),(d=Fu x.digits j-48)/\AllEq σ [(1,V b1),(5,J v),(6,J ((j:Int))),(7,J d)]/\FR w0 [] [(b1,.cells #[.bool (x.neg),I (x.digits),J (x.exp)] 90)] w) ?_ ?_;refine Ea (Ba (Za O) (Ba (Mb Se O) (Xb (Ej iZ O hF.F 0 O O) (Ba (Sk kX O) (Ba (Pg O O) (Da ?_))))));refine Jb O O (λhc2=>?_) (λhc2=>?_);refine Ja (Ba (Mb Se O) (Xb (Ej iZ O hF.F 0 O O) (Ba (Za O) ?_)));refine Ia (v:=.int .u8 (bZ (x.digits) j)) (by rw[<-Xi (s:=x.digits) (p:=j) Aa];exact Td j kX O O Aa) ?_;refine Ia (v:=.int .u8 (bZ x.digits j-48)) (Tu O O (by have:=I8 (s:=x.digits) hdx j;unfold Fu at this;rw[if_pos Aa]at this;rw[IntKind.wrap_u8];omega)) ?_;refine Ia (v:=J (bZ x.digits j-48)) (Be gX bX O (by have:=Gi x.digits j;exact Rh Aa Aa)) ?_;refine Ba (Fb O) (Va ?_)
 ·exact Ta ⟨(bZ x.digits j-48),(by unfold Fu;first|(rw[if_pos Aa];done)|(rw[if_neg Aa];rfl)),Jj,hF⟩
 refine Ka ?_
 ·exact Ta ⟨(0),(by unfold Fu;first|(rw[if_pos Aa];done)|(rw[if_neg Aa];rfl)),Jj,hF⟩
 rintro σ w ⟨d,hd,hs,hF⟩;refine Eg.slots hs ?_;clear hs;intro σ;have hdg:=I8 hdx j;have hjw:j<(Df x).length:=by rw[Dp];omega
 have hst:=VP hjw;refine Ha (Ga (Ea (Ba (Za O) (Ba (Za O) (Ba (Cl O O) (Ia (v:=J (-((9223372036854775808-d)/10))) (YT O O Ua (Hg (RW d Aa Aa) Aa Aa)) (Ba (Pg O O) (Da ?_))))))));refine Jb O O (λhc3=>?_) (λhc3=>?_);refine Ea (Ba (Fb O) (Ba (Kb O) (Da ?_)));refine Db (Cb (La (Oc (v:=J 0) (x:=.bool false) O O O) ?_));exact⟨by rw[int_over hnb (j:=j+1) Aa (by rw[hst];omega)],hF.same⟩;refine Ka (Ha (Ja (Ba (Za O) (Ia (v:=J (10*v)) (Q1 O O (Rh Aa Aa)) (Ba (Za O) (Ba (C5 O O) (Ba (Fb O) (Va (Ya (Ha (Ja (Ba (Za O) (Ba (Bi (((j+1:Nat):Int)) O O) ?_)))))))))))));refine Ba (Fb O) (Va ?_);refine Ta ⟨_,?_,j+1,10*v-d,O,Aa,(by rw[hst];omega),Aa,Aa,Oi,hF⟩;omega;refine Bc (Yb O ?_);refine Ha (Ga (Ea (Ba (Mb Wo O) (Xb (X3 dZ O hF.F 0 O O) (Da ?_)))));refine Jd O O (λhc4=>?_) (λhc4=>?_);refine Ea (Ba (Za O) (Ba (Fb O) (Ba (Kb O) (Da ?_))));refine Db (Cb (La (Oc (v:=J v) (x:=.bool true) O O O) ?_));have eT:(Df x).take j=Df x:=List.take_of_length_le (by rw[Dp];omega);rw[eT]at hv;exact⟨by rw[NU hnb (by assumption),if_pos Aa,hv],hF.same⟩;refine Ka (Ha (Ga (Ea (Ba (Za O) (Ba (Of O O) (Da ?_))))));refine Jb O O (λhc5=>?_) (λhc5=>?_);refine Ea (Ba (Fb O) (Ba (Kb O) (Da ?_)));refine Db (Cb (La (Oc (v:=J 0) (x:=.bool false) O O O) ?_));have eT:(Df x).take j=Df x:=List.take_of_length_le (by rw[Dp];omega);rw[eT]at hv;exact⟨by rw[XC hnb (by assumption),if_neg Aa],hF.same⟩;refine Ka (Ha (Ea (Ba (Za O) (Ia (v:=J (-v)) (F4 O (Hg Aa Aa Aa)) (Ba (Fb O) (Ba (Kb O) (Da ?_)))))));refine Db (Cb (La (Oc (v:=J (-v)) (x:=.bool true) O O O) ?_));have eT:(Df x).take j=Df x:=List.take_of_length_le (by rw[Dp];omega);rw[eT]at hv;exact⟨by rw[XC hnb (by assumption),if_pos Aa,hv,Int.neg_neg],hF.same⟩
end Go.Scarf
