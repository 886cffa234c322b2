/- A part of the proof. -/
import Derived.Test.YthhhbkkelnaekaaGreatDoorE1
import Derived.Test.YthhhbkkelnaekaaGreatDoorP1
import Derived.Lib.ParseIntBCases
set_option linter.all false
set_option maxHeartbeats 8000000
set_option maxRecDepth 10000
namespace Go.Scarf
open Go.RowKit Go.Proofs Go.Proofs.Tryz
theorem Mt (s:Str):Ai s 45=Lib.hasPrefix s [45]:=PA s 45
theorem MN (s:Str):Ai s 43=Lib.hasPrefix s [43]:=PA s 43
theorem Gz (s:Str) (c:UInt8):Lib.trimPrefix s [c]=if Lib.hasPrefix s [c]=true then s.drop 1 else s:=rfl
theorem FS {W:Str} (h:Gi W=true):decide (¬bZ W 0=48)=decide (W.head?≠some 48):=by
  have hp:=List.length_pos_iff.2 (Eh h)
  rw [←Ii hp]
  exact decide_eq_decide.2 (not_congr (Oi hp))
theorem WF {s:Str} {neg:Bool} {whole rest:Str} {minus:Bool} {exp:Str} {ok:Bool} (h:Parts s neg whole rest minus exp ok) :
    ok=(Zb s).2∧(ok=true→neg=(Zb s).1.neg∧whole=(Zb s).1.whole∧rest=(Zb s).1.rest∧minus=(Zb s).1.low∧Lib.trimLeftB exp 48=Lib.trimLeftB (Zb s).1.exp 48∧Gi exp=true∧Gi whole=true∧rest.all Ze=true):=by
  obtain ⟨s1,W,Z,R1,f,g,rfl,rfl,hc,hd,rfl,rfl,rfl,rfl,rfl⟩:=h.h
  have e1:(if Ai s 45=true then s.drop 1 else s)=Lib.trimPrefix s [45]:=by rw [Gz,Mt]
  rw [e1] at hc hd
  have h2:(Wa [101,69] (Lib.trimPrefix s [45])).2.1=Z:=by rw [hc]
  have h3:(Wa [101,69] (Lib.trimPrefix s [45])).2.2=f:=by rw [hc]
  have g1:(Wa [46] (Wa [101,69] (Lib.trimPrefix s [45])).1).1=whole:=by rw [hd]
  have g2:(Wa [46] (Wa [101,69] (Lib.trimPrefix s [45])).1).2.1=R1:=by rw [hd]
  have g3:(Wa [46] (Wa [101,69] (Lib.trimPrefix s [45])).1).2.2=g:=by rw [hd]
  have hr:R1=if g=true then R1 else []:=by
    cases g with
    | true=>rfl
    | false=>rw [←g2]; exact Cq [46] _ g3
  have he:∀ (neg low:Bool) (e:Str),Bf neg low (Wa [101,69] (Lib.trimPrefix s [45])).1 e=(⟨neg,low,whole,R1,e⟩,Gi whole && (!g || Gi R1) && (decide (whole=[48]) || decide (whole.head?≠some 48))):=by
    intro neg low e
    simp only [Bf,g1,g2,g3]
  have hk:∀ e:Str,Gi e=true→Ty whole (if g=true then R1 else [48]) e=(Gi whole && (!g || Gi R1) && (decide (whole=[48]) || decide (whole.head?≠some 48))):=by
    intro e he
    unfold Ty
    rw [he,Bool.true_and]
    by_cases hw:Gi whole=true
    · rw [FS hw, hw, Bool.true_and, Bool.true_and]
      cases g with
      | true=>rfl
      | false =>
        have:Gi [48]=true:=by decide
        simp [this]
    · rw [Bool.not_eq_true] at hw
      rw [hw]; simp
  have hok:∀ e:Str,Ty whole (if g=true then R1 else [48]) e=true→Gi e=true∧Gi whole=true∧(if g=true then R1 else []).all Ze=true:=by
    intro e h
    unfold Ty at h
    simp only [Bool.and_eq_true] at h
    refine ⟨h.2.2.1,h.1,?_⟩
    cases g with
    | true=>exact Lt h.2.1
    | false=>rfl
  have ht:∀ e:Str,Gi e=false→Ty whole (if g=true then R1 else [48]) e=false:=by
    intro e h
    unfold Ty
    rw [h]; simp
  cases f with
  | true =>
    have hex:Nq true Z=(if Lib.hasPrefix Z [45] then Lib.trimPrefix Z [45] else Lib.trimPrefix (Lib.trimPrefix Z [45]) [43]):=by
      rw [Nq,if_pos rfl,Mt,MN,Gz Z 45]
      by_cases h1:Lib.hasPrefix Z [45]=true
      · simp [h1]
      · simp only [h1, if_false, false_or]
        rw [Gz]
        simp
    have er:Zb s=if Gi (Nq true Z)=true then Bf (Lib.hasPrefix s [45]) (Lib.hasPrefix Z [45]) (Wa [101,69] (Lib.trimPrefix s [45])).1 (Nq true Z) else (⟨Lib.hasPrefix s [45],Lib.hasPrefix Z [45],[],[],[]⟩,false):=by
      unfold Zb
      simp only
      rw [if_pos h3,h2,hex]
    by_cases hx:Gi (Nq true Z)=true
    · rw [if_pos hx, he] at er
      rw [er]
      refine ⟨hk _ hx,fun h=>⟨Mt s,O,hr.symm,by rw [Bool.true_and,Mt],O,hok _ h⟩⟩
    · rw [if_neg hx] at er
      rw [Bool.not_eq_true] at hx
      rw [er]
      refine ⟨ht _ hx,fun h=>?_⟩
      rw [ht _ hx] at h; cases h
  | false =>
    have hz:Z=[]:=by rw [←h2]; exact Cq [101,69] _ h3
    have er:Zb s=Bf (Lib.hasPrefix s [45]) false (Wa [101,69] (Lib.trimPrefix s [45])).1 Z:=by
      unfold Zb
      simp only
      rw [if_neg (by rw [h3]; decide),h2]
    have hx:Gi (Nq false Z)=true:=by rw [Nq,if_neg Ua]; decide
    rw [he] at er
    rw [er]
    refine ⟨hk _ hx,fun h=>⟨Mt s,O,hr.symm,O,?_,hok _ h⟩⟩
    subst hz
    rw [Nq,if_neg Ua]
    rfl
theorem PI {s:Str} {neg:Bool} {whole rest:Str} {minus:Bool} {exp:Str} {ok:Bool} (h:Parts s neg whole rest minus exp ok):whole.length≤s.length∧rest.length≤s.length∧exp.length≤s.length+1:=by
  obtain ⟨s1,W,Z,R1,f,g,rfl,rfl,hc,hd,rfl,rfl,rfl,rfl,rfl⟩:=h.h
  have h1:(if Ai s 45=true then s.drop 1 else s).length≤s.length:=by split <;> simp
  have h2:=Hg [101,69] (if Ai s 45=true then s.drop 1 else s)
  have h3:=Hg [46] (Wa [101,69] (if Ai s 45=true then s.drop 1 else s)).1
  rw [hd] at h3
  have h4:Z.length≤s.length:=by rw [hc] at h2; exact Nat.le_trans h2.2 h1
  refine ⟨Nat.le_trans h3.1 (Nat.le_trans h2.1 h1),?_,?_⟩
  · split
    · exact Nat.le_trans h3.2 (Nat.le_trans h2.1 h1)
    · exact Nat.zero_le _
  · unfold Nq
    split
    · split
      · simp; omega
      · omega
    · simp
theorem L4 (c:UInt8) (s:Str):Lib.trimLeftB (c::s) 48=if c=48 then Lib.trimLeftB s 48 else c::s:=by
  unfold Lib.trimLeftB
  rw [List.dropWhile_cons]
  by_cases h:c=48 <;> simp [h]
theorem Uv {E:Str} (h:0 < E.length) (h0:bZ E 0=48):Lib.trimLeftB (E.drop 1) 48=Lib.trimLeftB E 48:=by
  rw [←Ii h] at h0
  cases E with
  | nil=>simp at h
  | cons c s =>
    have:c=48:=Pt.1 h0
    rw [L4,if_pos this]; rfl
theorem Lv {E:Str} (h:0 < E.length) (h0:¬bZ E 0=48):Lib.trimLeftB E 48=E:=by
  rw [←Ii h] at h0
  cases E with
  | nil=>simp at h
  | cons c s =>
    have:¬c=48:=fun e=>h0 (Pt.2 e)
    rw [L4,if_neg this]
theorem V_ {E:Str} (h:E.all Ze=true):(E.drop 1).all Ze=true:=by
  rw [List.all_eq_true] at h ⊢
  exact fun x hx=>h x (List.mem_of_mem_drop hx)
theorem Mu {E:Str} (h:0 < E.length) (h1:E.length≤1∨¬bZ E 0=48):Sd E=Sd (Lib.trimLeftB E 48)∧((9:Int) < (E.length:Int)↔9 < (Lib.trimLeftB E 48).length):=by
  by_cases h0:bZ E 0=48
  · have h2 : E.length = 1 := by rcases h1 with h1 | h1; omega; exact absurd h0 h1
    rw [←Uv h h0]
    match E,h2 with
    | [c], _ =>
      rw [←Ii (s:=[c]) (p:=0) Ma] at h0
      have:c=48:=Pt.1 h0
      subst this
      simp [Lib.trimLeftB,Sd]
  · rw [Lv h h0]
    exact ⟨O,by omega⟩
theorem TD (l:Str) (a:UInt8):Lib.trimRightB (l++[a]) 48=if a=48 then Lib.trimRightB l 48 else l++[a]:=by
  unfold Lib.trimRightB
  rw [List.reverse_append]
  simp only [List.reverse_cons,List.reverse_nil,List.nil_append,List.cons_append,List.dropWhile_cons]
  by_cases h:a=48 <;> simp [h]
theorem N3 {d:Str} {m:Nat} (h1:1≤m) (h2:m≤d.length):Lib.trimRightB (d.take m) 48=if bZ (d.take m) (m - 1)=48 then Lib.trimRightB (d.take (m - 1)) 48 else d.take m:=by
  have h3:m - 1 < d.length:=by omega
  have e:d.take m=d.take (m - 1)++[d[m - 1]]:=by
    have:=List.take_succ_eq_append_getElem h3
    rwa [show m - 1+1=m by omega] at this
  have h4:bZ (d.take m) (m - 1)=((d[m - 1].toNat:Nat):Int):=by
    rw [←Ii (by simp; omega)]
    simp
  rw [h4,e,TD]
  by_cases h:d[m - 1]=48
  · rw [if_pos h,if_pos (Pt.2 h)]
  · rw [if_neg h,if_neg (fun hh=>h (Pt.1 hh))]
theorem M1 {d:Str} {m i:Nat} (h:i < m) (h2:m≤d.length):bZ (d.take m) i=bZ d i:=by
  rw [←Ii (show i < (d.take m).length by simp; omega),←Ii (show i < d.length by omega)]
  simp
theorem CP {s:Str} (h:(Zb s).1.low=true):Nj s = - Sd (Lib.trimLeftB (Zb s).1.exp 48):=by unfold Nj; rw [if_pos h]
theorem OK {s:Str} (h:(Zb s).1.low=false):Nj s=Sd (Lib.trimLeftB (Zb s).1.exp 48):=by unfold Nj; rw [if_neg (by rw [h]; decide)]
theorem Mv {x:Num} (hd:x.digits.all Ze=true) (hp:0 < x.digits.length) (hl:x.digits.length≤1000) (h0:¬bZ x.digits 0=48) (h1:¬bZ x.digits (x.digits.length - 1)=48):Zd x=(decide (-1000000≤x.exp) && decide (x.exp≤1000000)):=by
  have hz:¬x=Num.zero:=by rintro rfl; simp [Num.zero] at hp
  rw [←Ii hp] at h0
  rw [←Ii (show x.digits.length - 1 < x.digits.length by omega)] at h1
  exact Mp hz (by unfold Gi; rw [hd,decide_eq_true (List.length_pos_iff.1 hp)]; rfl) U hp h0 U h1
theorem VO (s:Str) (hl:s.length≤140737488355327) (w0:World):Calls prog 130 #[.string (bs s)] w0 (De fun v w'=>v=.tuple #[Kn (Se s).1,.int .i64 (Se s).2]∧Same [] w0 w'):=by
 refine Ka func130 O ntmps130 Kb (Sc _) ?_
 have hF:=FR.start w0 []
 refine Ia ?_
 refine Fg (cs:=#[.bool false,.string (bs []),.int .i64 0]) hF zeroValue61 O ?_
 clear hF; rintro b1 w hb1 hF -
 refine Ca (Wb O) (Bc (Ca (Qc O) ?_))
 refine Pb (YS s U _) (Cb EW O O) ?_
 rintro _ w ⟨neg,whole,rest,minus,exp,ok,rfl,hp,hE⟩
 obtain ⟨hok,hfs⟩:=WF hp
 obtain ⟨hl1,hl2,hl3⟩:=PI hp
 replace hF:=hF.ext hE
 clear hE
 refine Ca (Ul O) (Ca (Ss O O) (Ca (D7 O O) (Ca (D7 O O) (Ca (Ss O O) (Ca (D7 O O) (Ca (Ss O O) (Ca (Hc O) (Ca (Rd O) (Ca (Rd O) (Ca (Hc O) (Ca (Rd O) (Ca (Hc O) (Xa ?_)))))))))))))
 refine Ga (Ha (Ia (Ca (Jc O) (Ca (Pn O) (Ea ?_)))))
 refine Mi O O (fun hc0=>?_) (fun hc0=>?_)
 refine Ia ?_
 refine Ja (w':=w) (v:=.agg #[.bool false,.string (bs []),.int .i64 0]) Qb ?_
 refine Ll hF sizeOf61 O O Vm ?_
 clear hF; rintro w hF -
 refine Ca (Wb O) (Ea ?_)
 refine Ub (Rb (Sa (Ve O (l:=[.bool false,.string (bs []),.int .i64 0]) O isAgg61 sizeOf61 O (hF.cellsAll 0 O) (v:=.int .i64 2) O) ?_))
 exact ⟨by rw [Dh,if_pos (by rw [←hok]; simp_all)]; rfl,hF.same⟩
 have hokt:ok=true:=by simp_all
 replace hfs:=hfs hokt
 have hwr:whole.length=(Zb s).1.whole.length∧rest.length=(Zb s).1.rest.length:=⟨by rw [hfs.2.1],by rw [hfs.2.2.1]⟩
 refine Qa (Ga (Ha (Ia (Ca (Qc O) (Ca (Xl underlying9 O) (Ca (Qc O) (Ca (Xl underlying9 O) (Ca (If (((whole.length+rest.length:Nat):Int)) O O) (Ca (Ho O O) (Ea ?_))))))))))
 refine Yb O O (fun hc1=>?_) (fun hc1=>?_)
 refine Ia ?_
 refine Ja (w':=w) (v:=.agg #[.bool false,.string (bs []),.int .i64 0]) Qb ?_
 refine Ll hF sizeOf61 O O Vm ?_
 clear hF; rintro w hF -
 refine Ca (Wb O) (Ea ?_)
 refine Ub (Rb (Sa (Ve O (l:=[.bool false,.string (bs []),.int .i64 0]) O isAgg61 sizeOf61 O (hF.cellsAll 0 O) (v:=.int .i64 3) O) ?_))
 exact ⟨by rw [Dh,if_neg (by rw [←hok,hokt]; decide),if_pos U]; rfl,hF.same⟩
 refine Qa (Ga (Ha ?_))
 refine Qf (fun σ w=>∃ (E:Str),(Sd E=Sd (Lib.trimLeftB (Zb s).1.exp 48))∧((9:Int) < (E.length:Int)↔9 < (Lib.trimLeftB (Zb s).1.exp 48).length)∧(E.all Ze=true)∧(E.length≤s.length+1)∧AllEq σ [(2,.pointer (some ⟨b1,0,none⟩)),(4,.bool (neg)),(5,.string (bs whole)),(6,.string (bs rest)),(7,.bool (minus)),(8,.string (bs E))]∧FR w0 [] [(b1,.cells #[.bool false,.string (bs []),.int .i64 0] 61)] w) ?_ ?_
 refine Ta ?_
 refine Lc (fun μ σ w=>∃ (E:Str),μ=E.length∧(Lib.trimLeftB E 48=(Lib.trimLeftB (Zb s).1.exp 48))∧(0 < E.length)∧(E.all Ze=true)∧(E.length≤exp.length)∧AllEq σ [(2,.pointer (some ⟨b1,0,none⟩)),(4,.bool (neg)),(5,.string (bs whole)),(6,.string (bs rest)),(7,.bool (minus)),(8,.string (bs E))]∧FR w0 [] [(b1,.cells #[.bool false,.string (bs []),.int .i64 0] 61)] w) _ ⟨exp,O,(hfs.2.2.2.2.1),(List.length_pos_iff.2 (Eh hfs.2.2.2.2.2.1)),(Lt hfs.2.2.2.2.2.1),(Nat.le_refl _),Iu,hF⟩ ?_
 clear hF; rintro μ σ w ⟨E,rfl,hEt,hE0,hE3,hE4,hs,hF⟩
 refine Cg.slots hs ?_
 clear hs; intro σ
 refine Ha (Ia (Ca (Qc O) (Ca (Xl underlying9 O) (Ca (Ho O O) (Ca (Jc O) ?_)))))
 refine Hb (d:=35) O (fun hg0=>?_) (fun hg0=>?_)
 refine Ca (Qc O) ?_
 refine Ja (v:=.int .u8 (bZ (E) 0)) (by rw [←Ii (s:=E) (p:=0) U]; exact Kd 0 underlying9 O O U) ?_
 refine Ca (Th O O) (Ca (Ic O O) (Ea ?_))
 refine Yb O O (fun hc2=>?_) (fun hc2=>?_)
 refine Qa (Ga (Ta (Fa (Ca (Qc O) (Ja (v:=.string (bs ((E:Str).drop (1)))) (Yh (1) underlying9 O O U) (Ca (Rd O) (Xa (Eb ?_))))))))
 refine Ib ⟨_,?_,E.drop 1,O,(by rw [Uv U U]; exact hEt),(by simp; omega),(V_ hE3),(by simp; omega),Iu,hF⟩
 simp; omega
 refine Dc (Cc O ?_)
 exact Ib ⟨(E),(by rw [←hEt]; exact (Mu hE0 U).1),(by rw [←hEt]; exact (Mu hE0 U).2),(hE3),U,Iu,hF⟩
 refine Da (Da (Da (Ca (Gc O O) (Ea (Ie O ?_)))))
 refine Dc (Cc O ?_)
 exact Ib ⟨(E),(by rw [←hEt]; exact (Mu hE0 U).1),(by rw [←hEt]; exact (Mu hE0 U).2),(hE3),U,Iu,hF⟩
 clear hF; rintro σ w ⟨E,hE1,hE2,hE3,hE4,hs,hF⟩
 refine Eg.slots hs ?_
 clear hs; intro σ
 refine Ga (Ha (Ia (Ca (Qc O) (Ca (Xl underlying9 O) (Ca (Ho O O) (Ea ?_))))))
 refine Yb O O (fun hc3=>?_) (fun hc3=>?_)
 refine Ia ?_
 refine Ja (w':=w) (v:=.agg #[.bool false,.string (bs []),.int .i64 0]) Qb ?_
 refine Ll hF sizeOf61 O O Vm ?_
 clear hF; rintro w hF -
 refine Ca (Wb O) (Ea ?_)
 refine Ub (Rb (Sa (Ve O (l:=[.bool false,.string (bs []),.int .i64 0]) O isAgg61 sizeOf61 O (hF.cellsAll 0 O) (v:=.int .i64 4) O) ?_))
 exact ⟨by rw [Dh,if_neg (by rw [←hok,hokt]; decide),if_neg U,if_pos U]; rfl,hF.same⟩
 refine Qa (Ga (Ia (Ca (Wb O) (Ea (Ha (Ia (Ca (Wb O) (Ea (Ta ?_)))))))))
 refine Lc (fun μ σ w=>∃ (q:Nat),μ=E.length - q∧(q≤E.length)∧AllEq σ [(2,.pointer (some ⟨b1,0,none⟩)),(4,.bool (neg)),(5,.string (bs whole)),(6,.string (bs rest)),(7,.bool (minus)),(8,.string (bs E)),(10,.int .i64 (Sd (E.take q))),(11,.int .i64 ((q:Int)))]∧FR w0 [] [(b1,.cells #[.bool false,.string (bs []),.int .i64 0] 61)] w) _ ⟨0,O,(Nat.zero_le _),K5,hF⟩ ?_
 clear hF; rintro μ σ w ⟨q,rfl,hq,hs,hF⟩
 refine Cg.slots hs ?_
 clear hs; intro σ
 refine Ha (Ia (Ca (Va O) (Ca (Qc O) (Ca (Xl underlying9 O) (Ca (Yg O O) (Ea ?_))))))
 refine Yb O O (fun hc4=>?_) (fun hc4=>?_)
 have hdq:=List.all_eq_true.1 hE3 E[q] (List.getElem_mem U)
 unfold Ze at hdq
 simp only [Bool.and_eq_true,decide_eq_true_eq] at hdq
 have hbq:=UInt8.toNat_lt E[q]
 have hb:=Ku (E.take q) (Uq q hE3) (by rw [List.length_take]; omega)
 refine Qa (Ga (Ha (Ta (Fa (Ca (Va O) (Ja (v:=.int .i64 (10 * Sd (E.take q))) (Fl O O (Ji U U)) (Ca (Qc O) (Ca (Va O) (Ja (v:=.int .u8 ((((E:Str)[q]'U).toNat:Int))) (Kd (q) underlying9 O O U) ?_)))))))))
 refine Ja (v:=.int .u8 (((E[q].toNat:Nat):Int) - 48)) (Gv O O (by rw [IntKind.wrap_u8]; omega)) ?_
 refine Ja (v:=.int .i64 (((E[q].toNat:Nat):Int) - 48)) (Be underlying5 underlying3 O (Ji U U)) ?_
 refine Ja (v:=.int .i64 (Sd (E.take (q+1)))) (Il O O (by rw [Zn _ q U]; exact Ji U U)) ?_
 refine Ca (Wb O) (Xa (Eb (Ga (Fa (Ca (Va O) (Ca (If (((q+1:Nat):Int)) O O) (Ca (Wb O) (Xa ?_))))))))
 refine Ib ⟨_,?_,q+1,O,U,K5,hF⟩
 omega
 refine Dc (Cc O ?_)
 refine Ga ?_
 have eT:E.take q=E:=List.take_of_length_le U
 have hb:=Ku E hE3 U
 have hE:-1000000000 < Nj s∧Nj s < 1000000000:=by unfold Nj; rw [←hE1]; split <;> omega
 refine Ha ?_
 refine Qf (fun σ w=>AllEq σ [(2,.pointer (some ⟨b1,0,none⟩)),(4,.bool (neg)),(5,.string (bs whole)),(6,.string (bs rest)),(10,.int .i64 (Nj s))]∧FR w0 [] [(b1,.cells #[.bool false,.string (bs []),.int .i64 0] 61)] w) ?_ ?_
 refine Ia (Ca (Jc O) (Ea ?_))
 refine Mi O O (fun hc5=>?_) (fun hc5=>?_)
 have eE:- Sd E=Nj s:=by rw [hE1,CP (by rw [←hfs.2.2.2.1]; assumption)]
 rw [eT]
 refine Fa (Ca (Va O) ?_)
 refine Ja (v:=.int .i64 (Nj s)) (L0 O (Id (by rw [←eE]; omega) U U)) ?_
 refine Ca (Wb O) (Xa ?_)
 exact Ib ⟨Am,hF⟩
 have eE:Sd E=Nj s:=by rw [hE1,OK (by rw [←hfs.2.2.2.1]; assumption)]
 rw [eT,eE]
 refine Qa ?_
 exact Ib ⟨Am,hF⟩
 clear hF; rintro σ w ⟨hs,hF⟩
 refine Eg.slots hs ?_
 clear hs; intro σ
 refine Ga (Ia (Ca (Va O) (Ca (Qc O) (Ca (Xl underlying9 O) (Ca (Fo O O) (Ca (Wb O) (Bc (Ca (Qc O) (Ca (Qc O) ?_)))))))))
 refine Ja (v:=.string (bs ((whole)++(rest)))) (Gh O O U) (Ca (Rd O) (Ea (Ha ?_)))
 refine Qf (fun σ w=>∃ (d:Str),(d=(Lib.trimLeftB ((Zb s).1.whole++(Zb s).1.rest) 48))∧(0 < d.length→¬bZ d 0=48)∧(d.all Ze=true)∧(d.length≤whole.length+rest.length)∧AllEq σ [(2,.pointer (some ⟨b1,0,none⟩)),(4,.bool (neg)),(10,.int .i64 (Nj s - (rest.length:Nat))),(12,.string (bs d))]∧FR w0 [] [(b1,.cells #[.bool false,.string (bs []),.int .i64 0] 61)] w) ?_ ?_
 refine Ta ?_
 refine Lc (fun μ σ w=>∃ (D:Str),μ=D.length∧(Lib.trimLeftB D 48=Lib.trimLeftB (whole++rest) 48)∧(D.all Ze=true)∧(D.length≤whole.length+rest.length)∧AllEq σ [(2,.pointer (some ⟨b1,0,none⟩)),(4,.bool (neg)),(10,.int .i64 (Nj s - (rest.length:Nat))),(12,.string (bs D))]∧FR w0 [] [(b1,.cells #[.bool false,.string (bs []),.int .i64 0] 61)] w) _ ⟨(whole++rest),O,(O),(by rw [List.all_append,Lt hfs.2.2.2.2.2.2.1,hfs.2.2.2.2.2.2.2]; rfl),Ma,Gm,hF⟩ ?_
 clear hF; rintro μ σ w ⟨D,rfl,hDt,hDa,hDl,hs,hF⟩
 refine Cg.slots hs ?_
 clear hs; intro σ
 refine Ha (Ia (Ca (Qc O) (Ca (Xl underlying9 O) (Ca (Ho O O) (Ca (Jc O) ?_)))))
 refine Hb (d:=73) O (fun hg1=>?_) (fun hg1=>?_)
 refine Ca (Qc O) ?_
 refine Ja (v:=.int .u8 (bZ (D) 0)) (by rw [←Ii (s:=D) (p:=0) U]; exact Kd 0 underlying9 O O U) ?_
 refine Ca (Th O O) (Ca (Ic O O) (Ea ?_))
 refine Yb O O (fun hc6=>?_) (fun hc6=>?_)
 refine Qa (Ga (Ta (Fa (Ca (Qc O) (Ja (v:=.string (bs ((D:Str).drop (1)))) (Yh (1) underlying9 O O U) (Ca (Rd O) (Xa (Eb ?_))))))))
 refine Ib ⟨_,?_,D.drop 1,O,(by rw [Uv U U]; exact hDt),(V_ hDa),(by simp; omega),Gm,hF⟩
 simp; omega
 refine Dc (Cc O ?_)
 exact Ib ⟨(D),(by rw [←hfs.2.1,←hfs.2.2.1,←hDt]; first | exact (Lv U U).symm | (have h0:D=[]:=List.eq_nil_of_length_eq_zero U; rw [h0]; rfl)),(fun h=>by omega),(hDa),(hDl),Gm,hF⟩
 refine Da (Da (Da (Ca (Gc O O) (Ea (Ie O ?_)))))
 refine Dc (Cc O ?_)
 exact Ib ⟨(D),(by rw [←hfs.2.1,←hfs.2.2.1,←hDt]; first | exact (Lv U U).symm | (have h0:D=[]:=List.eq_nil_of_length_eq_zero U; rw [h0]; rfl)),(fun h=>by omega),(hDa),(hDl),Gm,hF⟩
 clear hF; rintro σ w ⟨d,hd,hd0,hda,hdl,hs,hF⟩
 refine Eg.slots hs ?_
 clear hs; intro σ
 refine Ga (Ha (Ia (Ca (Qc O) (Ca (Ay O O) (Ea ?_)))))
 refine Yb O O (fun hc7=>?_) (fun hc7=>?_)
 refine Ia ?_
 refine Ja (w':=w) (v:=.agg #[.bool false,.string (bs []),.int .i64 0]) Qb ?_
 refine Ll hF sizeOf61 O O Vm ?_
 clear hF; rintro w hF -
 refine Ca (Wb O) (Ea ?_)
 refine Ub (Rb (Sa (Ve O (l:=[.bool false,.string (bs []),.int .i64 0]) O isAgg61 sizeOf61 O (hF.cellsAll 0 O) (v:=.int .i64 0) O) ?_))
 exact ⟨by rw [Dh,if_neg (by rw [←hok,hokt]; decide),if_neg U,if_neg U,if_pos (by rw [←hd]; assumption)]; rfl,hF.same⟩
 refine Qa (Ga (Ha ?_))
 refine Qf (fun σ w=>∃ (m:Nat),∃ (sh:Str),∃ (ee:Int),(ee=Nj s - (rest.length:Nat)+(d.length - m:Nat))∧(sh=(d:Str).take m)∧(1≤m)∧(m≤d.length)∧(Lib.trimRightB d 48=d.take m)∧(¬bZ ((d:Str).take m) (m - 1)=48)∧AllEq σ [(2,.pointer (some ⟨b1,0,none⟩)),(4,.bool (neg)),(10,.int .i64 ee),(12,.string (bs sh))]∧FR w0 [] [(b1,.cells #[.bool false,.string (bs []),.int .i64 0] 61)] w) ?_ ?_
 refine Ta ?_
 have hdp:0 < d.length:=List.length_pos_iff.2 (by assumption)
 refine Lc (fun μ σ w=>∃ (m:Nat),∃ (D2:Str),∃ (ee:Int),μ=m+1∧(ee=Nj s - (rest.length:Nat)+(d.length - m:Nat))∧(D2=(d:Str).take m)∧(1≤m)∧(m≤d.length)∧(Lib.trimRightB d 48=Lib.trimRightB (d.take m) 48)∧AllEq σ [(2,.pointer (some ⟨b1,0,none⟩)),(4,.bool (neg)),(10,.int .i64 ee),(12,.string (bs D2))]∧FR w0 [] [(b1,.cells #[.bool false,.string (bs []),.int .i64 0] 61)] w) _ ⟨d.length,d,Nj s - (rest.length:Nat),O,U,(by rw [List.take_length]),(hdp),(Nat.le_refl _),(by rw [List.take_length]),Gm,hF⟩ ?_
 clear hF; rintro μ σ w ⟨m,D2,ee,rfl,hee,hD2,hm1,hm2,hmt,hs,hF⟩
 refine Cg.slots hs ?_
 clear hs; intro σ
 have hml:D2.length=m:=by rw [hD2,List.length_take]; omega
 refine Ha (Ia (Ca (Qc O) (Ca (Qc O) (Ca (Xl underlying9 O) (Ca (Hw (((m - 1:Nat):Int)) O O) ?_)))))
 refine Ja (v:=.int .u8 (bZ (D2) (m - 1))) (by rw [←Ii (s:=D2) (p:=(m - 1)) U]; exact Kd (m - 1) underlying9 O O U) ?_
 refine Ca (Th O O) (Ea ?_)
 refine Yb O O (fun hc8=>?_) (fun hc8=>?_)
 refine Qa (Ga (Ta (Ia (Ca (Qc O) (Ca (Qc O) (Ca (Xl underlying9 O) (Ca (Hw (((m - 1:Nat):Int)) O O) (Ja (v:=.string (bs ((D2:Str).take (m - 1)))) (Xq (m - 1) underlying9 O O U) (Ca (Rd O) (Ea (Fa ?_)))))))))))
 refine Ca (Va O) (Ca (If (ee+1) O O) (Ca (Wb O) (Xa (Eb ?_))))
 refine Ib ⟨_,?_,m - 1,D2.take (m - 1),ee+1,rfl,U,(by rw [hD2,List.take_take,Nat.min_eq_left U]),(by have h:=hd0 hdp; rw [←M1 (m:=m) U hm2,←hD2] at h; rcases Nat.lt_or_ge 1 m with h1 | h1; omega; exfalso; have h2:m - 1=0:=U; have h3:bZ D2 (m - 1)=48:=(by assumption); rw [h2] at h3; exact absurd h3 h),U,(by rw [hmt,N3 hm1 hm2,if_pos (by rw [←hD2]; assumption)]),Gm,hF⟩
 omega
 refine Dc (Cc O ?_)
 exact Ib ⟨(m),(D2),(ee),(hee),(hD2),(hm1),(hm2),(by rw [hmt,N3 hm1 hm2,if_neg (by rw [←hD2]; assumption)]),(by rw [←hD2]; assumption),Gm,hF⟩
 clear hF; rintro σ w ⟨m,sh,ee,hee,hsh,hm1,hm2,hmt,hlast,hs,hF⟩
 refine Eg.slots hs ?_
 clear hs; intro σ
 refine Ga (Ha (Ia (Ca (Va O) (Ca (Yg O O) (Ca (Jc O) ?_)))))
 refine Hb (d:=98) O (fun hg2=>?_) (fun hg2=>?_)
 refine Da (Da (Ca (Ic O O) (Ea (Ae O (Ia ?_)))))
 refine Ja (w':=w) (v:=.agg #[.bool false,.string (bs []),.int .i64 0]) Qb ?_
 refine Ll hF sizeOf61 O O Vm ?_
 clear hF; rintro w hF -
 refine Ca (Wb O) (Ea ?_)
 refine Ub (Rb (Sa (Ve O (l:=[.bool false,.string (bs []),.int .i64 0]) O isAgg61 sizeOf61 O (hF.cellsAll 0 O) (v:=.int .i64 4) O) ?_))
 subst hsh
 subst hee
 have hne:¬d=[]:=List.length_pos_iff.1 U
 have hrf:=Mv (x:=⟨(Zb s).1.neg,d.take m,Nj s - (rest.length:Nat)+(d.length - m:Nat)⟩) (Uq m hda) (by simp; omega) (by simp; omega) (by rw [M1 U hm2]; exact hd0 U) (by show ¬bZ (d.take m) ((d.take m).length - 1)=48; rw [List.length_take,Nat.min_eq_left hm2]; exact hlast)
 have hfe:Nj s - (rest.length:Nat)+(d.length - m:Nat)=Nj s - (Zb s).1.rest.length+d.length - (d.take m).length:=by rw [List.length_take,Nat.min_eq_left hm2,←hwr.2]; omega
 refine ⟨?_,hF.same⟩
 rw [Dh,if_neg (by rw [←hok,hokt]; decide),if_neg U,if_neg U,←hd,if_neg hne,hmt,←hfe,hrf]
 first | (rw [if_pos (by simp; omega)]; rfl) | (rw [if_neg (by simp; omega),hfs.1]; rfl)
 refine Ca (Va O) (Ca (Ho O O) (Ca (Gc O O) (Ea ?_)))
 refine Yb O O (fun hc9=>?_) (fun hc9=>?_)
 refine Ia ?_
 refine Ja (w':=w) (v:=.agg #[.bool false,.string (bs []),.int .i64 0]) Qb ?_
 refine Ll hF sizeOf61 O O Vm ?_
 clear hF; rintro w hF -
 refine Ca (Wb O) (Ea ?_)
 refine Ub (Rb (Sa (Ve O (l:=[.bool false,.string (bs []),.int .i64 0]) O isAgg61 sizeOf61 O (hF.cellsAll 0 O) (v:=.int .i64 4) O) ?_))
 subst hsh
 subst hee
 have hne:¬d=[]:=List.length_pos_iff.1 U
 have hrf:=Mv (x:=⟨(Zb s).1.neg,d.take m,Nj s - (rest.length:Nat)+(d.length - m:Nat)⟩) (Uq m hda) (by simp; omega) (by simp; omega) (by rw [M1 U hm2]; exact hd0 U) (by show ¬bZ (d.take m) ((d.take m).length - 1)=48; rw [List.length_take,Nat.min_eq_left hm2]; exact hlast)
 have hfe:Nj s - (rest.length:Nat)+(d.length - m:Nat)=Nj s - (Zb s).1.rest.length+d.length - (d.take m).length:=by rw [List.length_take,Nat.min_eq_left hm2,←hwr.2]; omega
 refine ⟨?_,hF.same⟩
 rw [Dh,if_neg (by rw [←hok,hokt]; decide),if_neg U,if_neg U,←hd,if_neg hne,hmt,←hfe,hrf]
 first | (rw [if_pos (by simp; omega)]; rfl) | (rw [if_neg (by simp; omega),hfs.1]; rfl)
 refine Qa (Ga (Ia (Ca (Jc O) (Ca (Qc O) (Ca (Va O) ?_)))))
 refine Ja (w':=w) (v:=.agg #[.bool (neg),.string (bs sh),.int .i64 ee]) Qb ?_
 refine Ll hF sizeOf61 O O Vm ?_
 clear hF; rintro w hF -
 refine Ca (Wb O) (Ea ?_)
 refine Ub (Rb (Sa (Ve O (l:=[.bool (neg),.string (bs sh),.int .i64 ee]) O isAgg61 sizeOf61 O (hF.cellsAll 0 O) (v:=.int .i64 0) O) ?_))
 subst hsh
 subst hee
 have hne:¬d=[]:=List.length_pos_iff.1 U
 have hrf:=Mv (x:=⟨(Zb s).1.neg,d.take m,Nj s - (rest.length:Nat)+(d.length - m:Nat)⟩) (Uq m hda) (by simp; omega) (by simp; omega) (by rw [M1 U hm2]; exact hd0 U) (by show ¬bZ (d.take m) ((d.take m).length - 1)=48; rw [List.length_take,Nat.min_eq_left hm2]; exact hlast)
 have hfe:Nj s - (rest.length:Nat)+(d.length - m:Nat)=Nj s - (Zb s).1.rest.length+d.length - (d.take m).length:=by rw [List.length_take,Nat.min_eq_left hm2,←hwr.2]; omega
 refine ⟨?_,hF.same⟩
 rw [Dh,if_neg (by rw [←hok,hokt]; decide),if_neg U,if_neg U,←hd,if_neg hne,hmt,←hfe,hrf]
 first | (rw [if_pos (by simp; omega)]; rfl) | (rw [if_neg (by simp; omega),hfs.1]; rfl)
theorem I3 (s:Str) (hl:s.length≤140737488355327) (w0:World):Calls prog 104 #[.string (bs s)] w0 (De fun v w'=>v=.tuple #[Kn (Se s).1,.bool (Aj s)]∧Same [] w0 w'):=by
 refine Ka func104 O ntmps104 Kb (Sc _) ?_
 have hF:=FR.start w0 []
 refine Ia ?_
 refine Fg (cs:=#[.bool false,.string (bs []),.int .i64 0]) hF zeroValue61 O ?_
 clear hF; rintro b1 w hb1 hF -
 refine Ca (Hc O) (Bc (Ca (Qc O) ?_))
 refine Jb hF (VO s hl _) (Cb ZU O O) ?_
 clear hF; intro w hF
 refine Ca (Ul O) (Ca (RQ O O) (Ca (Fm O O) ?_))
 refine Ym hF zeroValue61 sizeOf61 O ?_
 clear hF; rintro b2 w hb2 hF -
 refine Ca (Wb O) (Ea (Ha ?_))
 refine Uc [] (.free 0 (.free 1 (.free 2 (.free 3 (.free 4 (.free 6 (.act 5 (.free 7 (.free 8 (.act 9 (.free 10 .nil))))))))))) hF ?_
 clear hF; rintro w hF -
 refine ⟨fun wq=>FR w0 [] [(b2,.cells #[.bool ((Se s).1.neg),.string (bs ((Se s).1.digits)),.int .i64 ((Se s).1.exp)] 61)] wq,hF.sub (.cons_cons _ (.cons _ .slnil)),?_⟩
 refine Uk O (Wj isAgg61 sizeOf61 O C0 0 O O) (Db O (Va O) (Db O (Th O O) (Db O (Jc O) ?_)))
 refine Ik (d:=14) O (fun hg0=>?_) (fun hg0=>?_)
 refine Uk O (Wj isAgg61 sizeOf61 O C0 0 O O) (Db O (Qc O) ?_)
 refine Um hF (UR (Se s).1 (by have:=Hp s; omega) _) O (Cb OW O O) ?_
 clear hF; intro w hF
 refine ⟨hF.sub (.cons_cons _ (.cons _ .slnil)),?_⟩
 refine Db O (Ay O O) (Db O (Ic O O) ?_)
 refine Tu O hF sizeOf61 O O I5 ?_
 clear hF; rintro w hF -
 refine ⟨hF.sub (.cons_cons _ (.cons _ .slnil)),?_⟩
 refine Db O (Hc O) (Mc (Ga ?_))
 refine Ub (Rb (Sa (Ve O (l:=[.bool ((Se s).1.neg),.string (bs ((Se s).1.digits)),.int .i64 ((Se s).1.exp)]) O isAgg61 sizeOf61 O (hF.cellsAll 1 O) (v:=.bool (decide ((Km (Se s).1:Str)=s))) O) ?_))
 exact ⟨by simp_all [Aj,Kn],hF.same⟩
 refine Jd O ?_
 refine Jd O ?_
 refine AQ O ?_ (hF.sub (.cons_cons _ (.cons _ .slnil)))
 refine Jd O ?_
 refine Db O (Gc O O) ?_
 refine Tu O hF sizeOf61 O O I5 ?_
 clear hF; rintro w hF -
 refine ⟨hF.sub (.cons_cons _ (.cons _ .slnil)),?_⟩
 refine Db O (Hc O) (Mc (Ga ?_))
 refine Ub (Rb (Sa (Ve O (l:=[.bool ((Se s).1.neg),.string (bs ((Se s).1.digits)),.int .i64 ((Se s).1.exp)]) O isAgg61 sizeOf61 O (hF.cellsAll 1 O) (v:=.bool false) O) ?_))
 exact ⟨by simp_all [Aj,Kn],hF.same⟩
end Go.Scarf
namespace Go.Scarf
open Go.RowKit Go.Proofs Go.Proofs.Tryz
def SQ (s:Str) (i:Nat):Int:=if i < s.length then bZ s i else 48
theorem SM {s:Str} (h:s.all Ze=true) (i:Nat):48≤SQ s i∧SQ s i≤57:=by
  unfold SQ
  split
  · rename_i hi
    have:=List.all_eq_true.1 h s[i] (List.getElem_mem hi)
    unfold Ze at this
    simp only [Bool.and_eq_true,decide_eq_true_eq] at this
    rw [←Ii hi]
    omega
  · omega
theorem all_cons {c:UInt8} {s:Str} (h:(c::s).all Ze=true):Ze c=true∧s.all Ze=true:=by simpa using h
theorem QA {x:Num} (h:Zd x=true) (hd:x.digits≠[]):x.digits.all Ze=true∧¬bZ x.digits (x.digits.length - 1)=48:=by
  have h0:¬x=Num.zero:=by rintro rfl; exact hd rfl
  unfold Zd at h
  simp only [Bool.or_eq_true,Bool.and_eq_true,decide_eq_true_eq] at h
  rcases h with h | h
  · exact absurd h h0
  · refine ⟨Lt h.1.1.1.1.1, ?_⟩
    have hl:x.digits.length - 1 < x.digits.length:=by have:=List.length_pos_iff.2 hd; omega
    intro e
    rw [←Ii hl] at e
    exact h.1.1.2 (by rw [getLast?_get hl,Pt.1 e])
end Go.Scarf
namespace Go.Scarf
open Go.RowKit Go.Proofs Go.Proofs.Tryz
def vN (acc:Nat) (l:Str):Nat:=l.foldl (fun a c=>a * 10+(c.toNat - 48)) acc
theorem W7 (acc:Nat) (c:UInt8) (l:Str):vN acc (c::l)=vN (acc * 10+(c.toNat - 48)) l:=by unfold vN; rw [List.foldl_cons]
theorem CZ (l:Str):∀ acc:Nat,acc≤vN acc l:=by
  induction l with
  | nil=>exact fun acc=>Nat.le_refl _
  | cons c l ih =>
    intro acc
    rw [W7]
    have:=ih (acc * 10+(c.toNat - 48))
    omega
theorem Ru {c:UInt8} (h:Ze c=true):48≤c.toNat∧c.toNat≤57:=by
  unfold Ze at h
  simpa using h
theorem DL:∀ (l:Str) (acc:Nat),l.all Ze=true→((vN acc l:Nat):Int)=l.foldl (fun a c=>10 * a+((c.toNat:Int) - 48)) (acc:Int)
  | [],_,_=>rfl
  | c :: l, acc, h => by
    obtain ⟨hc,hl⟩:=all_cons h
    have:=Ru hc
    rw [W7,DL l _ hl,List.foldl_cons]
    congr 1
    omega
theorem UH {l:Str} (h:l.all Ze=true):((vN 0 l:Nat):Int)=Sd l:=DL l 0 h
theorem LU:∀ (l:Str) (acc:Nat),l.all Ze=true→acc≤18446744073709551615→Lib.parseUintM 18446744073709551615 acc l=if vN acc l≤18446744073709551615 then .ok (vN acc l) else .range
  | [],acc,_,h=>by rw [show vN acc []=acc from rfl,if_pos h]; rfl
  | c :: l, acc, h, ha => by
    obtain ⟨hc,hl⟩:=all_cons h
    have r:=Ru hc
    rw [Lib.parseUintM,if_pos r,W7]
    have hg:=CZ l (acc * 10+(c.toNat - 48))
    by_cases h1:1844674407370955162≤acc
    · rw [if_pos h1,if_neg U]
    · rw [if_neg h1]
      by_cases h2:18446744073709551615 < acc * 10+(c.toNat - 48)
      · rw [if_pos h2,if_neg U]
      · rw [if_neg h2]; exact LU l _ hl U
theorem NN {l:Str} (h:l.all Ze=true) (hne:l≠[]):Lib.parseUintB 64 l=if vN 0 l≤18446744073709551615 then .ok (vN 0 l) else .range:=by
  rw [Lib.parseUintB,if_neg hne]
  exact LU l 0 h U
theorem IM {l:Str} (h:l.all Ze=true) (hne:l≠[]):(pI l).2=decide (Sd l≤9223372036854775807)∧(Sd l≤9223372036854775807→(pI l).1=Sd l):=by
  have hu:=NN h hne
  rw [←UH h]
  match l,hne with
  | c :: r, _ =>
    have hc:=Ru (all_cons h).1
    have hp:=Lib.parseIntB_plain 64 c r U U
    rw [hu] at hp
    generalize vN 0 (c::r)=n at *
    unfold pI
    rw [hp]
    by_cases h1:n≤18446744073709551615
    · rw [if_pos h1, Lib.signlessC]
      by_cases h2:9223372036854775808≤n
      · rw [if_pos h2]; exact ⟨(decide_eq_false U).symm,fun h=>absurd h U⟩
      · rw [if_neg h2]; exact ⟨(decide_eq_true U).symm,fun _=>rfl⟩
    · rw [if_neg h1]; exact ⟨(decide_eq_false U).symm,fun h=>absurd h U⟩
theorem XP {l:Str} (h:l.all Ze=true) (hne:l≠[]):(pI (45::l)).2=decide (Sd l≤9223372036854775808)∧(Sd l≤9223372036854775808→(pI (45::l)).1 = - Sd l):=by
  have hu:=NN h hne
  rw [←UH h]
  have hp:=Lib.parseIntB_minus 64 l
  rw [hu] at hp
  generalize vN 0 l=n at *
  unfold pI
  rw [hp]
  by_cases h1:n≤18446744073709551615
  · rw [if_pos h1, Lib.signedC]
    by_cases h2:9223372036854775808 < n
    · rw [if_pos h2]; exact ⟨(decide_eq_false U).symm,fun h=>absurd h U⟩
    · rw [if_neg h2]; exact ⟨(decide_eq_true U).symm,fun _=>rfl⟩
  · rw [if_neg h1]; exact ⟨(decide_eq_false U).symm,fun h=>absurd h U⟩
def Gf (x:Num):Str:=x.digits++Lib.repeatL [48] x.exp.toNat
theorem Yo (x:Num):(Gf x).length=x.digits.length+x.exp.toNat:=by rw [Gf,List.length_append,Eo]
theorem SG:∀ n:Nat,(Lib.repeatL [48] n).all Ze=true
  | 0=>rfl
  | n + 1 => by
    have h:=SG n
    simp only [Lib.repeatL,List.all_append,h,Bool.and_true]
    decide
theorem EL:∀ n:Nat,(Lib.repeatL [48] n).all (fun c=>c == 48)=true
  | 0=>rfl
  | n + 1 => by
    have h:=EL n
    simp only [Lib.repeatL,List.all_append,h,Bool.and_true]
    decide
theorem PQ {x:Num} {j:Nat} (h:j < (Gf x).length):(((Gf x)[j].toNat:Nat):Int)=SQ x.digits j:=by
  unfold SQ
  by_cases hj:j < x.digits.length
  · rw [if_pos hj, ← Ii hj]
    simp only [Gf]
    rw [List.getElem_append_left hj]
  · rw [if_neg hj]
    simp only [Gf]
    rw [List.getElem_append_right U]
    have:=List.all_eq_true.1 (EL x.exp.toNat) _ (List.getElem_mem (show j - x.digits.length < (Lib.repeatL [48] x.exp.toNat).length by rw [Eo]; rw [Yo] at h; omega))
    rw [beq_iff_eq.1 this]
    rfl
theorem GF {x:Num} {j:Nat} (h:j < (Gf x).length):Sd ((Gf x).take (j+1))=10 * Sd ((Gf x).take j)+(SQ x.digits j - 48):=by
  rw [Zn _ j h,PQ h]
theorem SB {s:Str} (hs:s.all Ze=true):∀ k,∀ j,j+k=s.length→Sd (s.take j)≤Sd s
  | 0,j,h=>by rw [List.take_of_length_le U]; exact Int.le_refl _
  | k + 1, j, h => by
    have h1:=SB hs k (j+1) U
    have hj:j < s.length:=by omega
    rw [Zn s j hj] at h1
    have h2:=Ru (List.all_eq_true.1 hs s[j] (List.getElem_mem hj))
    have h3:=(Lw (s.take j) (Uq j hs)).1
    omega
theorem AH (x:Num):Ot x=if x.neg=true then 45::Gf x else Gf x:=rfl
theorem Zr {x:Num} (h:Zd x=true):(Gf x).all Ze=true:=by
  rw [Gf,List.all_append,SG,Bool.and_true]
  by_cases hd:x.digits=[]
  · rw [hd]; rfl
  · exact (QA h hd).1
theorem XK {x:Num} (h:Zd x=true) (hn:Gf x=[]):x.neg=false:=by
  have:x.digits=[]:=by have:=congrArg List.length hn; rw [Yo,List.length_nil] at this; exact List.eq_nil_of_length_eq_zero U
  have:=U8 h this
  subst this; rfl
theorem F_ {x:Num} (h:Zd x=false∨x.exp < 0∨19 < (x.digits.length:Int)+x.exp):Xw x=(0,false):=by rw [Oj,if_pos h]
theorem GH {x:Num} (h:¬(Zd x=false∨x.exp < 0∨19 < (x.digits.length:Int)+x.exp)) (hn:x.neg=true):Xw x=if Sd (Gf x)≤9223372036854775808 then (- Sd (Gf x),true) else (0,false):=by
  have hr:Zd x=true:=by cases hh:Zd x with | true=>rfl | false=>exact absurd (.inl hh) h
  have hne:Gf x≠[]:=fun e=>by have:=XK hr e; rw [this] at hn; cases hn
  obtain ⟨p1,p2⟩:=XP (Zr hr) hne
  have e:Ot x=45::Gf x:=by rw [AH,if_pos hn]
  rw [Oj,if_neg h,e,if_neg Ma,p1]
  by_cases hv:Sd (Gf x)≤9223372036854775808
  · rw [if_pos hv,if_neg (by rw [decide_eq_true hv]; decide),p2 hv]
  · rw [if_neg hv,if_pos (by rw [decide_eq_false hv])]
theorem S9 {x:Num} (h:¬(Zd x=false∨x.exp < 0∨19 < (x.digits.length:Int)+x.exp)) (hn:x.neg=false):Xw x=if Sd (Gf x)≤9223372036854775807 then (Sd (Gf x),true) else (0,false):=by
  have hr:Zd x=true:=by cases hh:Zd x with | true=>rfl | false=>exact absurd (.inl hh) h
  have e:Ot x=Gf x:=by rw [AH,if_neg (by rw [hn]; decide)]
  rw [Oj,if_neg h,e]
  by_cases hne:Gf x=[]
  · rw [if_pos hne,hne]; rfl
  · obtain ⟨p1, p2⟩ := IM (Zr hr) hne
    rw [if_neg hne,p1]
    by_cases hv:Sd (Gf x)≤9223372036854775807
    · rw [if_pos hv,if_neg (by rw [decide_eq_true hv]; decide),p2 hv]
    · rw [if_neg hv,if_pos (by rw [decide_eq_false hv])]
theorem PM {x:Num} (h:¬(Zd x=false∨x.exp < 0∨19 < (x.digits.length:Int)+x.exp)) {j:Nat} (hj:j≤(Gf x).length) (hv:9223372036854775808 < Sd ((Gf x).take j)):Xw x=(0,false):=by
  have hr:Zd x=true:=by cases hh:Zd x with | true=>rfl | false=>exact absurd (.inl hh) h
  have:=SB (Zr hr) ((Gf x).length - j) j U
  cases hn:x.neg with
  | true=>rw [GH h hn,if_neg U]
  | false=>rw [S9 h hn,if_neg U]
theorem FJ (d:Int) (h0:0≤d) (h9:d≤9):(-9223372036854775808+d).tdiv 10 = -((9223372036854775808 - d) / 10):=by
  rw [show -9223372036854775808+d = -(9223372036854775808 - d) by omega,Int.neg_tdiv,Int.tdiv_eq_ediv_of_nonneg U]
theorem ZV (x:Num) (hl:x.digits.length≤140737488355328) (w0:World):Calls prog 106 #[Kn x] w0 (De fun v w'=>v=.tuple #[.int .i64 (Xw x).1,.bool (Xw x).2]∧Same [] w0 w'):=by
 refine Ka func106 O ntmps106 Kb (Sc _) ?_
 have hF:=FR.start w0 []
 refine Ia ?_
 refine Bh hF O ?_
 clear hF; rintro b1 w hb1 hF -
 refine Ca (Wb O) (Ca (Hc O) (Bc (Tc (Wj isAgg61 sizeOf61 O hF.F 0 O O) ?_)))
 refine Jb hF (UA x hl _) (Cb WO O O) ?_
 clear hF; intro w hF
 refine Ca (Hc O) (Ea (Ha (Ia (Ca (Jc O) (Ca (Pn O) (Ca (Jc O) ?_))))))
 refine Jf (d:=12) O (fun hg0=>?_) (fun hg0=>?_)
 refine Da (Da (Da (Ca (Ic O O) (Ca (Jc O) (Da (Da (Da (Da (Da (Da (Da (Ca (Ic O O) (Xa ?_)))))))))))))
 refine Ga (Ae O (Ia (Ca (Wb O) (Ca (Hc O) (Ea ?_)))))
 refine Ub (Rb (Sa (Ld (v:=.int .i64 0) (x:=.bool false) O O O) ?_))
 exact ⟨by rw [F_ (.inl (by simpa using hg0))],hF.same⟩
 refine Ca (Ec Di O) (Tc (Hl isAgg3 O hF.F 0 O O) (Ca (Yg O O) (Ca (Gc O O) (Ca (Jc O) ?_))))
 refine Hb (d:=17) O (fun hg1=>?_) (fun hg1=>?_)
 refine Da (Da (Da (Da (Da (Da (Da (Ca (Ic O O) (Ea (Ae O (Ia (Ca (Wb O) ?_)))))))))))
 refine Ca (Hc O) (Ea ?_)
 refine Ub (Rb (Sa (Ld (v:=.int .i64 0) (x:=.bool false) O O O) ?_))
 exact ⟨by rw [F_ (.inr (.inl hg1))],hF.same⟩
 refine Ca (Ec Ek O) (Tc (Tp isAgg9 O hF.F 0 O O) (Ca (Xl underlying9 O) (Ca (Ec Di O) (Tc (Hl isAgg3 O hF.F 0 O O) ?_))))
 have hrl:=Pd (x:=x) (by simp_all)
 refine Ca (Sl O O) (Ca (Ho O O) (Ca (Gc O O) (Ea ?_)))
 refine Yb O O (fun hc0=>?_) (fun hc0=>?_)
 refine Ia (Ca (Wb O) (Ca (Hc O) (Ea ?_)))
 refine Ub (Rb (Sa (Ld (v:=.int .i64 0) (x:=.bool false) O O O) ?_))
 exact ⟨by rw [F_ (.inr (.inr U))],hF.same⟩
 refine Qa (Ga (Ia (Ca (Wb O) (Ea (Ha (Ia (Ca (Wb O) (Ea (Ta ?_)))))))))
 have hrt:Zd x=true:=by simp_all
 have hnb:¬(Zd x=false∨x.exp < 0∨19 < (x.digits.length:Int)+x.exp):=by rw [hrt]; simp; omega
 have hwd:=Zr hrt
 have hdx:x.digits.all Ze=true:=by rw [Gf,List.all_append,Bool.and_eq_true] at hwd; exact hwd.1
 have hrl:=Pd hrt
 refine Lc (fun μ σ w=>∃ (j:Nat),∃ (v:Int),μ=((x.digits.length:Int)+x.exp - j).toNat∧((j:Int)≤(x.digits.length:Int)+x.exp)∧(v = - Sd ((Gf x).take j))∧(v≤0)∧(-9223372036854775808≤v)∧AllEq σ [(1,.pointer (some ⟨b1,0,none⟩)),(5,.int .i64 v),(6,.int .i64 ((j:Int)))]∧FR w0 [] [(b1,.cells #[.bool (x.neg),.string (bs (x.digits)),.int .i64 (x.exp)] 61)] w) _ ⟨0,0,O,U,(O),U,U,Vp,hF⟩ ?_
 clear hF; rintro μ σ w ⟨j,v,rfl,hj,hv,hv0,hvm,hs,hF⟩
 refine Cg.slots hs ?_
 clear hs; intro σ
 refine Ha (Ia (Ca (Va O) (Ca (Ec Ek O) (Tc (Tp isAgg9 O hF.F 0 O O) (Ca (Xl underlying9 O) (Ca (Ec Di O) (Tc (Hl isAgg3 O hF.F 0 O O) (Ca (Sl O O) (Ca (Yg O O) (Ea ?_))))))))))
 refine Yb O O (fun hc1=>?_) (fun hc1=>?_)
 refine Qa (Ga (Ha (Ta (Ia (Ca (Wb O) (Ea (Ha ?_)))))))
 refine Qf (fun σ w=>∃ (d:Int),(d=SQ x.digits j - 48)∧AllEq σ [(1,.pointer (some ⟨b1,0,none⟩)),(5,.int .i64 v),(6,.int .i64 ((j:Int))),(7,.int .i64 d)]∧FR w0 [] [(b1,.cells #[.bool (x.neg),.string (bs (x.digits)),.int .i64 (x.exp)] 61)] w) ?_ ?_
 refine Ia (Ca (Va O) (Ca (Ec Ek O) (Tc (Tp isAgg9 O hF.F 0 O O) (Ca (Xl underlying9 O) (Ca (Yg O O) (Ea ?_))))))
 refine Yb O O (fun hc2=>?_) (fun hc2=>?_)
 refine Fa (Ca (Ec Ek O) (Tc (Tp isAgg9 O hF.F 0 O O) (Ca (Va O) ?_)))
 refine Ja (v:=.int .u8 (bZ (x.digits) j)) (by rw [←Ii (s:=x.digits) (p:=j) U]; exact Kd j underlying9 O O U) ?_
 refine Ja (v:=.int .u8 (bZ x.digits j - 48)) (Gv O O (by have:=SM (s:=x.digits) hdx j; unfold SQ at this; rw [if_pos U] at this; rw [IntKind.wrap_u8]; omega)) ?_
 refine Ja (v:=.int .i64 (bZ x.digits j - 48)) (Be underlying5 underlying3 O (by have:=Qi x.digits j; exact Ji U U)) ?_
 refine Ca (Wb O) (Xa ?_)
 · exact Ib ⟨(bZ x.digits j - 48),(by unfold SQ; first | (rw [if_pos U]; done) | (rw [if_neg U]; rfl)),Gm,hF⟩
 refine Qa ?_
 · exact Ib ⟨(0),(by unfold SQ; first | (rw [if_pos U]; done) | (rw [if_neg U]; rfl)),Gm,hF⟩
 clear hF; rintro σ w ⟨d,hd,hs,hF⟩
 refine Eg.slots hs ?_
 clear hs; intro σ
 have hdg:=SM hdx j
 have hjw:j < (Gf x).length:=by rw [Yo]; omega
 have hst:=GF hjw
 refine Ga (Ha (Ia (Ca (Va O) (Ca (Va O) (Ca (Sl O O) (Ja (v:=.int .i64 (-((9223372036854775808 - d) / 10))) (EG O O Ua (Id (FJ d U U) U U)) (Ca (Yg O O) (Ea ?_))))))))
 refine Yb O O (fun hc3=>?_) (fun hc3=>?_)
 refine Ia (Ca (Wb O) (Ca (Hc O) (Ea ?_)))
 refine Ub (Rb (Sa (Ld (v:=.int .i64 0) (x:=.bool false) O O O) ?_))
 exact ⟨by rw [PM hnb (j:=j+1) U (by rw [hst]; omega)],hF.same⟩
 refine Qa (Ga (Fa (Ca (Va O) (Ja (v:=.int .i64 (10 * v)) (Fl O O (Ji U U)) (Ca (Va O) (Ca (Fo O O) (Ca (Wb O) (Xa (Eb (Ga (Fa (Ca (Va O) (Ca (If (((j+1:Nat):Int)) O O) ?_)))))))))))))
 refine Ca (Wb O) (Xa ?_)
 refine Ib ⟨_,?_,j+1,10 * v - d,O,U,(by rw [hst]; omega),U,U,Vp,hF⟩
 omega
 refine Dc (Cc O ?_)
 refine Ga (Ha (Ia (Ca (Ec G1 O) (Tc (RV isAgg4 O hF.F 0 O O) (Ea ?_)))))
 refine Mi O O (fun hc4=>?_) (fun hc4=>?_)
 refine Ia (Ca (Va O) (Ca (Wb O) (Ca (Hc O) (Ea ?_))))
 refine Ub (Rb (Sa (Ld (v:=.int .i64 v) (x:=.bool true) O O O) ?_))
 have eT:(Gf x).take j=Gf x:=List.take_of_length_le (by rw [Yo]; omega)
 rw [eT] at hv
 exact ⟨by rw [GH hnb (by assumption),if_pos U,hv],hF.same⟩
 refine Qa (Ga (Ha (Ia (Ca (Va O) (Ca (Th O O) (Ea ?_))))))
 refine Yb O O (fun hc5=>?_) (fun hc5=>?_)
 refine Ia (Ca (Wb O) (Ca (Hc O) (Ea ?_)))
 refine Ub (Rb (Sa (Ld (v:=.int .i64 0) (x:=.bool false) O O O) ?_))
 have eT:(Gf x).take j=Gf x:=List.take_of_length_le (by rw [Yo]; omega)
 rw [eT] at hv
 exact ⟨by rw [S9 hnb (by assumption),if_neg U],hF.same⟩
 refine Qa (Ga (Ia (Ca (Va O) (Ja (v:=.int .i64 (-v)) (L0 O (Id U U U)) (Ca (Wb O) (Ca (Hc O) (Ea ?_)))))))
 refine Ub (Rb (Sa (Ld (v:=.int .i64 (-v)) (x:=.bool true) O O O) ?_))
 have eT:(Gf x).take j=Gf x:=List.take_of_length_le (by rw [Yo]; omega)
 rw [eT] at hv
 exact ⟨by rw [S9 hnb (by assumption),if_pos U,hv,Int.neg_neg],hF.same⟩
end Go.Scarf
