/- A part of the proof. -/
import Derived.Test.YtgkmigdopohcnaaGreatDoorRow7
import Derived.Test.YtgkmigdopohcnaaGreatDoorQ4
set_option linter.all false
set_option maxHeartbeats 8000000
set_option maxRecDepth 10000
namespace Go.Scarf
open Go.RowKit Go.Proofs Go.Proofs.Tryz
def Kp(ids_:List Nat)(w:World)(x:Nat):Prop:=x<w.heap.size/\x∉ids_
def KX(ids_:List Nat)(w:World)(ds:List D)(cs:List Value):Prop:=RepL (Kp ids_ w) w ds cs
section
variable {w w' w0:World}{i i' E Ds:List Nat}{ds es:List D}{cs ct:List Value}{bs_ sl sl':List (Nat × Obj)}{S:Nat->Prop}
theorem KX.step(h:KX i w ds cs)(hs:Same E w w')(he:∀b∈E,b∈i)(hi:∀x∈i',x∈i\/w.heap.size<=x):KX i' w' ds cs :=
  RepL.weaken (λb hb _=>⟨Nat.lt_of_lt_of_le hb.1 hs.size,λhm=>(hi b hm).elim hb.2 (λh=>by have:=hb.1;omega)⟩) (RepL.same h hs λb hb hn=>hn.2 (he b hb))
theorem KX.ext(h:KX i w ds cs)(hs:Same [] w w'):KX i w' ds cs:=h.step hs La (λ_ hx=>.inl hx)
theorem KX.store(h:KX i w ds cs)(hs:Same E w w')(he:∀b∈E,b∈i):KX i w' ds cs:=h.step hs he (λ_ hx=>.inl hx)
theorem KX.sub(h:KX i w ds cs)(hi:∀x∈i',x∈i):KX i' w ds cs:=h.step (Same.refl [] w) La (λx hx=>.inl (hi x hx))
theorem KX.grow(h:KX i w ds cs)(hE:Same (sl.map (·.1)) w w')(hn:∀p∈sl',p.1∈sl.map (·.1)\/w.heap.size<=p.1)(hi:∀x∈sl.map (·.1),x∈i):KX (i++ids sl') w' ds cs :=
  h.step hE hi λx hx=>by
    rcases mQ.1 hx with h1|h1
    ·exact .inl h1
    obtain⟨p, hp, rfl⟩ := nQ.1 h1;rcases hn p hp with h2|h2
    ·exact .inl (hi _ h2)
    exact .inr h2
theorem KX.append(h:KX i w ds cs)(k:KX i w es ct):KX i w (ds++es) (cs++ct):=RepL.append h k
theorem KX.any(h:KX i w ds cs):RepL (λ_=>True) w ds cs:=RepL.weaken (λ_ _ _=>trivial) h
theorem KX.made{d:D}(hF:FR w0 [] bs_ w)(hs:Same [] w w')(hi:∀x∈i,w0.heap.size<=x/\x<w.heap.size)(h:Rep (λb=>b<w0.heap.size\/Btw w w' b) w' d cs):Rep (Kp i w') w' d cs :=
  h.weaken λb hb hl=>⟨hl,λhm=>by
    have h1:=hi b hm;rcases hb with h2|h2
    ·omega
    have:=h2.1;omega⟩
theorem KX.low{d:D}(hF:FR w0 [] bs_ w)(hi:∀x∈i,w0.heap.size<=x)(h:Rep S w0 d cs):Rep (Kp i w) w d cs :=
  (hF.rep h.low).weaken λb hb hl=>⟨hl,λhm=>by have:=hi b hm;omega⟩
end
theorem Rep.tree_at{S:Nat->Prop}{w:World}{l:List Tree}{B:Option Addr}{n e:Nat}(h:Rep S w (.slice (Qd l)) [.slice B n e]){i:Nat}(hi:i<l.length) :
    ∃(ad:Addr)(a:Tv),B=some ad/\(∀j (hj:j<a.cells.length),w.cell? ((ad.add (i*4)).add j)=some a.cells[j])/\Rep S w (Hb l[i]) a.cells:=by
  obtain⟨ad,cs,hA,hl,hk,hx⟩:=h.tree_elem hi;obtain⟨a,rfl,-⟩:=Di hx;exact⟨ad,a,hA,hk,hx⟩
def ofT(s:Str):Tree:=.node 4 s [] []
def H7(m:Mm):Tree:=.node 5 [] [] [ofT m.pr,Qe m.sd]
def Cr(t:List Mm):Tree:=.node 5 [] [] (t.map H7)
def Vt(t:List Mm):Str × Int:=if Df t=true then (Am (Ae (Cr t)),Lw (Ae (Cr t))) else ([],1)
def Zn:Mm:=⟨[],noS⟩
def Hg(v:Tree):Mm × Bool:=if v.kind=5 then (match v.items with
  | [a,b]=>if a.kind=4/\b.kind=5/\b.items.length<=1 then (⟨a.text,match b.items with|[x]=>⟨true,x⟩|_=>noS⟩,true) else (Zn,false)
  | _=>(Zn,false)) else (Zn,false)
theorem GB{v:Tree}(h:¬(v.kind=5/\v.items.length=2)):Hg v=(Zn,false):=by
  unfold Hg;by_cases hk:v.kind=5
  ·rw[if_pos hk]
   split
   ·rename_i a b e;exact absurd ⟨hk,by rw[e];rfl⟩ h
   rfl
  rw[if_neg hk]
theorem OM{l:List Tree}(h:l.length=2):∃a b,l=[a,b]:=by
  match l,h with
  | [a,b],_=>exact⟨a,b,rfl⟩
theorem KC{S:Nat->Prop}{w:World}{t:Tree}{cs:List Value}(h:Rep S w (Hb t) cs):t.text.length<=9223372036854775807:=by
  obtain⟨k,s,ks,xs⟩:=t;obtain⟨A,c,B,e,-,-,h2,-,-⟩:=h.tree_inv;exact h2
theorem Ev{S:Nat->Prop}{w:World}:Rep S w (Od Zn.sd) (Sv.mk false O5).cells:=Tm
theorem XO{l:List Tree}(h:l.length=1):∃a,l=[a]:=by
  match l,h with
  | [a],_=>exact⟨a,rfl⟩
theorem HW(y:Tree)(x:Tv)(S:Nat->Prop)(w0:World)(hX:Rep S w0 (Hb y) x.cells):Calls prog 35 #[.agg x.cells.toArray] w0 (Pc λv w'=>∃z:Sv,v=.tuple #[.agg (Gr (Hg y).1.pr z).toArray,.bool (Hg y).2]/\Rep S w' (Od (Hg y).1.sd) z.cells/\(Hg y).1.pr.length<=9223372036854775807/\Same [] w0 w'):=by
 obtain⟨hp1,hp2,hp3,hp4,-,hpB⟩:=Ti hX;refine Ea func35 O ntmps35 Db (Rb _) ?_;have hF:=FR.start w0 [];refine Da (Le hF O ?_);rintro b1 w hb1 hF -;refine Jc (cs:=#[I [],.bool false,J 0,I [],aQ,aQ]) hF oX O ?_;rintro b2 w hb2 hF -;refine Aa (Jb O) (Ca (Fa (Da (Aa (Ob Se O) (Tb (Yi dZ O hF.F 1 O O) (Aa (Om O O) (Aa (Dc O) ?_)))))));refine Wb (d:=9) O (λhg0=>?_) (λhg0=>?_);refine Ia (Ia (Ia (Ia (Aa (Yb O O) (Ca (Fd O (Da (Tb (He fZ pZ O hF.F 0 O O) ?_))))))));refine Xd hF pZ O O Qg ?_;rintro w hF -;refine Aa (Jb O) (Ca ?_);refine Ab (Za (Ka (Ic O (l:=[I [],.bool false,J 0,I [],aQ,aQ]) O fZ pZ O (hF.cellsAll 0 O) (v:=.bool false) O) ?_));have e:Hg y=(Zn,false):=GB (by intro h;have h1:=hp1;have h4:=hp4;simp_all;try omega);rw[e];exact⟨⟨false,O5⟩,O,Ev,by simp[Zn],hF.same⟩;refine Aa (Ob Ub O) (Tb (Ff zQ O hF.F 1 O O) (Aa (Ug yZ O) (Aa (Om O O) (Aa (Bc O O) (Ca ?_)))));refine Pb O O (λhc0=>?_) (λhc0=>?_);refine Da (Tb (He fZ pZ O hF.F 0 O O) ?_);refine Xd hF pZ O O Qg ?_;rintro w hF -;refine Aa (Jb O) (Ca ?_);refine Ab (Za (Ka (Ic O (l:=[I [],.bool false,J 0,I [],aQ,aQ]) O fZ pZ O (hF.cellsAll 0 O) (v:=.bool false) O) ?_));have e:Hg y=(Zn,false):=GB (by intro h;have h1:=hp1;have h4:=hp4;simp_all;try omega);rw[e];exact⟨⟨false,O5⟩,O,Ev,by simp[Zn],hF.same⟩;refine Na (Ga ?_);obtain⟨hk5,hm2⟩:y.kind=5/\y.items.length=2:=by have h1:=hp1;have h4:=hp4;constructor <;> (simp_all;try omega)
 obtain⟨ya,yb,hy2⟩:=OM hm2;rw[hy2]at hpB;obtain⟨nad,n_,nA,nk,nX⟩:=hpB.tree_at (i:=0) La;obtain⟨had,h_,hA,hk,hX2⟩:=hpB.tree_at (i:=1) La;obtain⟨na1,na2,-⟩:=Ti nX;obtain⟨ha1,ha2,ha3,ha4,ha5,ha6⟩:=Ti hX2;simp only[List.getElem_cons_zero,List.getElem_cons_succ]at na1 na2 nX ha1 ha2 ha3 ha4 ha5 ha6 hX2;refine Fa (Dn (λσ w=>∃(bn:Nat),∃(bh:Nat),AllEq σ [(2,V b2),(4,V bn),(5,V bh)]/\FR w0 [] [(bn,.cells (n_.cells).toArray 25),(bh,.cells (h_.cells).toArray 25),(b2,.cells #[I [],.bool false,J 0,I [],aQ,aQ] 67),(b1,.cells (x.cells).toArray 25)] w) ?_ ?_);refine Zc (zs:=.of [11]) (bQ [0,1,2,3,4,5,6,7] (.alt 8 (cQ [9,10,11] .nil) (cQ [9,8,10,11] .nil))) hF ?_;intro w hF;refine Fb O (Ob Ub O) (Sf O (Ff zQ O C0 1 O O) (Bb O (v:=.pointer (some (nad.add (0*4)))) (λw hC=>Sa (i:=0) Mg O nA O Ba Ba) (Bb O (v:=.agg (n_.cells).toArray) (λw hC=>Xa (l:=n_.cells) aZ mZ O O (hC.cells0 nk)) (Fb O (Ob Ub O) (Sf O (Ff zQ O C0 1 O O) (Bb O (v:=.pointer (some (had.add (1*4)))) (λw hC=>Sa (i:=1) Mg O hA O Ba Ba) (Bb O (v:=.agg (h_.cells).toArray) (λw hC=>Xa (l:=h_.cells) aZ mZ O O (hC.cells0 hk)) ?_)))))));refine Yv ?_ ?_;refine Fr O (v:=λb=>V b) (o:=.cells #[J 0,I [],aQ,aQ] 25) hF (Nh kX) ?_;rintro b3 w hb3 hF -;refine⟨hF.drop 1,?_⟩;refine Fr O (v:=λb=>V b) (o:=.cells #[J 0,I [],aQ,aQ] 25) hF (Nh kX) ?_;rintro b4 w hb4 hF -;refine⟨hF.drop 2,?_⟩;refine Wm O hF mZ O O Mr ?_;rintro w hF -;refine⟨hF.drop 2,?_⟩;refine ZA O hF mZ O O Qg ?_;rintro w hF -;refine Ac ?_;exact Xb ⟨(b3),(b4),O_,((((hF.front 3 O).front 3 O).front 2 O).front 3 O)⟩;refine Fr O (v:=λb=>V b) (o:=.cells #[J 0,I [],aQ,aQ] 25) hF (Nh kX) ?_;rintro b5 w hb5 hF -;refine⟨hF.drop 1,?_⟩;refine Fr O (v:=λb=>V b) (o:=.cells #[J 0,I [],aQ,aQ] 25) hF (Nh kX) ?_;rintro b6 w hb6 hF -;refine⟨hF.drop 2,?_⟩
 refine Wm O hF mZ O O Qg ?_;rintro w hF -;refine⟨hF.drop 2,?_⟩;refine ZA O hF mZ O O Mr ?_;rintro w hF -;refine Ac ?_;exact Xb ⟨(b6),(b5),O_,((((hF.front 3 O).front 3 O).front 3 O).front 3 O)⟩;rintro σ w ⟨bn,bh,hs,hF⟩;refine Eg.slots hs ?_;clear hs;intro σ;refine Ga (Fa (Da (Aa (Ob Se O) (Tb (Yi dZ O hF.F 0 O O) (Aa (Om O O) (Aa (Dc O) ?_))))));refine Wb (d:=27) O (λhg1=>?_) (λhg1=>?_);refine Ia (Ia (Ia (Aa (Yb O O) (Aa (Dc O) (Ia (Ia (Ia (Ia (Aa (Yb O O) (Ca (Fd O (Fa ?_))))))))))));refine Ha (Tb (He fZ pZ O hF.F 2 O O) ?_);refine Xd hF pZ O O Rw ?_;rintro w hF -;refine Aa (Jb O) (Ca ?_);refine Ab (Za (Ka (Ic O (l:=[I [],.bool false,J 0,I [],aQ,aQ]) O fZ pZ O (hF.cellsAll 2 O) (v:=.bool false) O) ?_));have e:Hg y=(Zn,false):=by unfold Hg;rw[if_pos hk5,hy2];simp only;rw[if_neg (by intro h;simp_all;try omega)]
 rw[e];exact⟨⟨false,O5⟩,O,Ev,by simp[Zn],hF.same⟩;refine Aa (Ob Se O) (Tb (Yi dZ O hF.F 1 O O) (Aa (Om O O) (Aa (Bc O O) (Aa (Dc O) ?_))));refine Wb (d:=32) O (λhg2=>?_) (λhg2=>?_);refine Ia (Ia (Ia (Ia (Aa (Yb O O) (Ca (Fd O (Da (Tb (He fZ pZ O hF.F 2 O O) ?_))))))));refine Xd hF pZ O O Rw ?_;rintro w hF -;refine Aa (Jb O) (Ca ?_);refine Ab (Za (Ka (Ic O (l:=[I [],.bool false,J 0,I [],aQ,aQ]) O fZ pZ O (hF.cellsAll 2 O) (v:=.bool false) O) ?_));have e:Hg y=(Zn,false):=by unfold Hg;rw[if_pos hk5,hy2];simp only;rw[if_neg (by intro h;simp_all;try omega)]
 rw[e];exact⟨⟨false,O5⟩,O,Ev,by simp[Zn],hF.same⟩;refine Aa (Ob Ub O) (Tb (Ff zQ O hF.F 1 O O) (Aa (Ug yZ O) (Aa (Gz O O) (Aa (Bc O O) (Ca ?_)))));refine Pb O O (λhc1=>?_) (λhc1=>?_);refine Da (Tb (He fZ pZ O hF.F 2 O O) ?_);refine Xd hF pZ O O Rw ?_;rintro w hF -;refine Aa (Jb O) (Ca ?_);refine Ab (Za (Ka (Ic O (l:=[I [],.bool false,J 0,I [],aQ,aQ]) O fZ pZ O (hF.cellsAll 2 O) (v:=.bool false) O) ?_));have e:Hg y=(Zn,false):=by unfold Hg;rw[if_pos hk5,hy2];simp only;rw[if_neg (by intro h;simp_all;try omega)]
 rw[e];exact⟨⟨false,O5⟩,O,Ev,by simp[Zn],hF.same⟩;refine Na (Ga (Da (Aa (Ob Re O) (Tb (Rm iZ O hF.F 0 O O) (Aa (Ob Nm O) ?_)))));refine Zj (.string _) hF rZ O O Rw Qg ?_;rintro w hF -;refine Ca (Fa (Da (Aa (Ob Ub O) (Tb (Ff zQ O hF.F 1 O O) (Aa (Ug yZ O) (Aa (Yh O O) (Ca ?_)))))));refine Pb O O (λhc2=>?_) (λhc2=>?_);obtain⟨yx,hyx⟩:=XO (l:=yb.items) (by rw[<-ha4];omega);rw[hyx]at ha6;obtain⟨xad,x_,xA,xk,xX⟩:=ha6.tree_at (i:=0) La;simp only[List.getElem_cons_zero]at xX;refine Ha (Aa (Ob Ub O) (Tb (Ff zQ O hF.F 1 O O) (Ja (v:=.pointer (some (xad.add (0*4)))) (Sa (i:=0) Mg O xA O Ba Ba) (Ja (v:=.agg (x_.cells).toArray) (Xa (l:=x_.cells) aZ mZ O O (hF.cells0 xk)) ?_))));refine Ja (w':=w) (v:=.agg #[.bool true,J (x_.k),I (x_.t),.slice x_.A x_.n x_.c,.slice x_.B x_.m x_.e]) Ib (Aa (Ob Wj O) ?_);refine Eh 2 (l:=[.bool true,J (x_.k),I (x_.t),.slice x_.A x_.n x_.c,.slice x_.B x_.m x_.e]) (cs':=#[I (n_.t),.bool true,J (x_.k),I (x_.t),.slice x_.A x_.n x_.c,.slice x_.B x_.m x_.e]) hF nZ O (v:=.agg #[.bool true,J (x_.k),I (x_.t),.slice x_.A x_.n x_.c,.slice x_.B x_.m x_.e]) O O Is O Db O ?_;rintro w hF -;refine Qb (Tb (He fZ pZ O hF.F 2 O O) ?_);refine Xd hF pZ O O Rw ?_;rintro w hF -;refine Aa (Jb O) (Ca ?_);refine Ab (Za (Ka (Ic O (l:=[I (n_.t),.bool true,J (x_.k),I (x_.t),.slice x_.A x_.n x_.c,.slice x_.B x_.m x_.e]) O fZ pZ O (hF.cellsAll 2 O) (v:=.bool true) O) ?_));have hq4:ya.kind=4/\yb.kind=5/\yb.items.length<=1:=by refine⟨?_,?_,?_⟩ <;> (simp_all;try omega)
 have e:Hg y=(⟨ya.text,⟨true,yx⟩⟩,true):=by unfold Hg;rw[if_pos hk5,hy2];simp only;rw[if_pos hq4,hyx]
 rw[e];rw[na2];exact⟨⟨true,x_⟩,O,hF.rep (F3 (s:=⟨true,yx⟩) xX),KC nX,hF.same⟩;refine Na (Ga (Da (Tb (He fZ pZ O hF.F 2 O O) ?_)));refine Xd hF pZ O O Rw ?_;rintro w hF -;refine Aa (Jb O) (Ca ?_);refine Ab (Za (Ka (Ic O (l:=[I (n_.t),.bool false,J 0,I [],aQ,aQ]) O fZ pZ O (hF.cellsAll 2 O) (v:=.bool true) O) ?_));have hq4:ya.kind=4/\yb.kind=5/\yb.items.length<=1:=by refine⟨?_,?_,?_⟩ <;> (simp_all;try omega)
 have hy0:yb.items=[]:=by refine List.eq_nil_of_length_eq_zero ?_;have h5:=hc2;omega
 have e:Hg y=(⟨ya.text,noS⟩,true):=by unfold Hg;rw[if_pos hk5,hy2];simp only;rw[if_pos hq4,hy0]
 rw[e];rw[na2];exact⟨⟨false,O5⟩,O,Tm,KC nX,hF.same⟩
end Go.Scarf
