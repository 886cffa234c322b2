/- A part of the proof. -/
import Derived.Test.YthhhbkkelnaekaaGreatDoorW2
import Derived.Test.YthhhbkkelnaekaaGreatDoorShelf2
import Derived.Test.YthhhbkkelnaekaaGreatDoorMem
import Derived.Lib.ValidLaws
import Derived.Lib.TrimUEq
import Derived.Lib.MapLaws
import Derived.Test.YthhhbkkelnaekaaGreatDoorMore
set_option linter.all false
set_option maxHeartbeats 8000000
set_option maxRecDepth 10000
namespace Go.Scarf
open Go.RowKit Go.Proofs Go.Proofs.Tryz
def Aj (s:Str):Bool:=decide ((Se s).2=0) && decide (Km (Se s).1=s)
def Rs (s:Str):Bool:=Aj s && (Xw (Se s).1).2 && decide (0≤(Xw (Se s).1).1)
theorem D9 (s:Str):Zd (Se s).1=true:=by
  rw [Dh]
  repeat' split
  all_goals first | rfl | simp_all
theorem Hp (s:Str):(Se s).1.digits.length≤1000:=(Pd (D9 s)).1
theorem Zl (s:Str) (q:Nat):Lib.decodeL (s.drop q)=Utf8.decode (bs s) q:=Lib.decodeL_drop (bs s) q
theorem Jg (s:Str) (q:Nat):1≤(Utf8.decode (bs s) q).2:=by rw [←Zl]; exact Lib.decodeL_width _
theorem Fp (s:Str) (q:Nat) (h:q < s.length):q+(Utf8.decode (bs s) q).2≤s.length:=by
  have:=Lib.decodeL_le (s.drop q) (by rw [ne_eq,List.drop_eq_nil_iff]; omega)
  rw [Zl,List.length_drop] at this
  omega
theorem K4 (s:Str) (q:Nat) (h:q < s.length) (hv:Lib.validD (s.drop q)=false) (hn:¬((Utf8.decode (bs s) q).1=65533∧(Utf8.decode (bs s) q).2=1)):Lib.validD (s.drop (q+(Utf8.decode (bs s) q).2))=false:=by
  rw [Lib.validD_step _ (by rw [ne_eq,List.drop_eq_nil_iff]; omega),Zl,if_neg hn,List.drop_drop] at hv
  exact hv
theorem Yu (s:Str) (q:Nat) (h:q < s.length):Lib.decodeGo (bs (s.drop q))=Utf8.decode (bs s) q:=by
  have h1:(bs (s.drop q)).size≠0:=by rw [Ro,List.length_drop]; omega
  rw [Lib.decodeGo,if_neg h1]; exact Zl s q
theorem Y4 (s:Str) (hl:s.length≤140737488355328) {w:World} (hG:Gl w):Calls prog 120 #[.string (bs s)] w (De fun v w'=>v=.bool (Lib.validD s)∧Same [] w w') :=
  Eu (utf8_ValidString (bs s) w (by rw [Ro]; omega) hG.tabs)
theorem G9 (s:Str) {w:World} (hG:Gl w):Calls prog 117 #[.string (bs s)] w (De fun v w'=>v=.tuple #[.int .i32 (Lib.decodeGo (bs s)).1,.int .i64 (Lib.decodeGo (bs s)).2]∧Same [] w w') :=
  Eu (utf8_DecodeRuneInString (bs s) w hG.tabs)
theorem QG (s:Str) (hl:s.length≤140737488355328) (w0:World) (hG:Gl w0):Calls prog 94 #[.string (bs s)] w0 (De fun v w'=>∃ n,v=.tuple #[.int .i64 n,.bool (Lib.validD s)]∧Same [] w0 w'):=by
  refine Ka func94 O ntmps94 Kb (Sc _) ?_
  have hF:=FR.start w0 []
  refine Ha ?_
  refine Fa ?_
  refine Ca (Wb O) ?_
  refine Ca (Hc O) ?_
  refine Xa ?_
  refine Ga ?_
  refine Ha ?_
  refine Ha ?_
  refine Fa ?_
  refine Ca (Qc O) ?_
  refine Jb hF (Y4 s hl (hG.ext hF.same)) (Cb CX O O) ?_
  clear hF; intro w hF
  refine Xa ?_
  refine Ga ?_
  refine Mi O O (fun hc0=>?_) (fun hc0=>?_)
  ·
    refine Ha ?_
    refine Fa ?_
    refine Ca (Qc O) ?_
    refine Ca (Xl underlying9 O) ?_
    refine Ca (Wb O) ?_
    refine Ca (Hc O) ?_
    refine Xa ?_
    refine Ga ?_
    refine Ub (Rb (Sa (Ld (v:=.int .i64 ((((s):Str).length:Int))) (x:=.bool true) O O O) ?_))
    exact ⟨_,by rw [hc0],hF.same⟩
  ·
    refine Qa ?_
    refine Ga ?_
    refine Ha ?_
    refine Ha ?_
    refine Fa ?_
    refine Ca (Qc O) ?_
    refine Vx (str:=s) hF underlying9 O ?_
    clear hF; intro b1 w hb1 hF hE
    clear hE
    refine Xa ?_
    refine Ga ?_
    refine Ta ?_
    refine Lc (fun μ σ w=>∃ (q:Nat),μ=s.length - q∧(q≤s.length)∧(Lib.validD (s.drop q)=false)∧AllEq σ [(0,.string (bs s)),(13,.pointer (some ⟨b1,0,none⟩))]∧FR w0 [] [(b1,.stringIter (bs s) (q))] w) _ ⟨0,O,(Nat.zero_le _),(by simpa using hc0),Iw,hF⟩ ?_
    clear hF; rintro μ σ w ⟨q,rfl,hq,hv,hs,hF⟩
    refine Cg.slots hs ?_
    clear hs; intro σ
    refine Ha ?_
    refine Fa ?_
    by_cases hn0:(q) < (s:Str).length
    ·
      refine F1 0 (p:=q) (str:=s) hF O O hn0 ?_
      clear hF; intro w hF hE
      clear hE
      replace hF:FR w0 [] [(b1,.stringIter (bs s) (q+(Utf8.decode (bs s) (q)).2))] w:=hF
      refine Ca (Ss O O) ?_
      refine Xa ?_
      refine Ga ?_
      refine Ha ?_
      refine Ae O ?_
      refine Qa ?_
      refine Ga ?_
      refine Ta ?_
      refine Ha ?_
      refine Fa ?_
      refine Ca (Fm O O) ?_
      refine Ca (Fm O O) ?_
      refine Ca (Wb O) ?_
      refine Ca (Wb O) ?_
      refine Xa ?_
      refine Ga ?_
      refine Ha ?_
      refine Ha ?_
      refine Fa ?_
      refine Ca (Va O) ?_
      refine Ca (Sq O O) ?_
      refine Xa ?_
      refine Ga ?_
      refine Yb O O (fun hc2=>?_) (fun hc2=>?_)
      ·
        refine Dc (Cc O ?_)
        have h1:=Jg s q
        have hw:¬((Utf8.decode (bs s) q).1=65533∧(Utf8.decode (bs s) q).2=1):=by
          first
          | (intro hh; omega)
          | (rw [Yu s q U] at hc3; intro hh; omega)
        refine Ib ⟨_,?_,q+(Utf8.decode (bs s) q).2,O,(Fp s q U),(K4 s q U hv hw),Iw,hF⟩
        omega
      ·
        refine Qa ?_
        refine Ga ?_
        refine Ha ?_
        refine Fa ?_
        refine Ca (Qc O) ?_
        refine Ca (Va O) ?_
        refine Ja (v:=.string (bs ((s:Str).drop (q)))) (Yh (q) underlying9 O O U) ?_
        refine Jb hF (G9 (s.drop q) (hG.ext hF.same)) (Cb BV O O) ?_
        clear hF; intro w hF
        refine Ca (Ul O) ?_
        refine Ca (Fm O O) ?_
        refine Ca (Fm O O) ?_
        refine Ca (Wb O) ?_
        refine Ca (Wb O) ?_
        refine Xa ?_
        refine Ga ?_
        refine Ha ?_
        refine Fa ?_
        refine Ca (Va O) ?_
        refine Ca (Th O O) ?_
        refine Xa ?_
        refine Ga ?_
        refine Yb O O (fun hc3=>?_) (fun hc3=>?_)
        ·
          refine Ha ?_
          refine Fa ?_
          refine Ca (Va O) ?_
          refine Ca (Wb O) ?_
          refine Ca (Hc O) ?_
          refine Xa ?_
          refine Ga ?_
          refine Ub (Rb (Sa (Ld (v:=.int .i64 (((q:Nat):Int))) (x:=.bool false) O O O) ?_))
          exact ⟨_,by rw [hc0],hF.same⟩
        ·
          refine Qa ?_
          refine Eb ?_
          have h1:=Jg s q
          have hw:¬((Utf8.decode (bs s) q).1=65533∧(Utf8.decode (bs s) q).2=1):=by
            first
            | (intro hh; omega)
            | (rw [Yu s q U] at hc3; intro hh; omega)
          refine Ib ⟨_,?_,q+(Utf8.decode (bs s) q).2,O,(Fp s q U),(K4 s q U hv hw),Iw,hF⟩
          omega
    ·
      refine Fs 0 (p:=q) (str:=s) hF O O hn0 ?_
      refine Ca (Ss O O) ?_
      refine Xa ?_
      refine Ga ?_
      refine Ha ?_
      refine Ie O ?_
      refine Dc (Cc O ?_)
      refine Ga ?_
      refine Ha ?_
      refine Fa ?_
      refine Ca (Qc O) ?_
      refine Ca (Xl underlying9 O) ?_
      refine Ca (Wb O) ?_
      refine Ca (Hc O) ?_
      refine Xa ?_
      refine Ga ?_
      refine Ub (Rb (Sa (Ld (v:=.int .i64 ((((s):Str).length:Int))) (x:=.bool true) O O O) ?_))
      have e:s.drop q=[]:=List.drop_eq_nil_of_le U
      rw [e] at hv; cases hv
theorem II (s:Str) (hl:s.length≤140737488355328) (w0:World) (hG:Gl w0):Calls prog 63 #[.string (bs s)] w0 (De fun v w'=>v=.bool (Lib.validD s)∧Same [] w0 w'):=by
 refine Ka func63 O ntmps63 Kb (Sc _) ?_
 have hF:=FR.start w0 []
 refine Ia (Ca (Hc O) (Bc (Ca (Qc O) ?_)))
 refine Pb (QG s hl _ (hG.ext hF.same)) (Cb ZT O O) ?_
 rintro _ w ⟨n,rfl,hE⟩
 replace hF:=hF.ext hE
 clear hE
 refine Ca (Ul O) (Ca (Fm O O) (Ca (Ss O O) (Ca (Wb O) (Ca (Hc O) (Bc (Ca (Jc O) (Ca (Hc O) (Ea ?_))))))))
 refine Td (v:=.bool _) O O ?_
 exact ⟨O,hF.same⟩
theorem L7 (s:Str) (hl:s.length≤140737488355328) (w0:World) (hG:Gl w0):Calls prog 62 #[.string (bs s)] w0 (De fun v w'=>v=.tuple #[Kn (Se s).1,.bool (Aj s)]∧Same [] w0 w'):=by
 refine Ka func62 O ntmps62 Kb (Sc _) ?_
 have hF:=FR.start w0 []
 refine Ia ?_
 refine Fg (cs:=#[.bool false,.string (bs []),.int .i64 0]) hF zeroValue61 O ?_
 clear hF; rintro b1 w hb1 hF -
 refine Ca (Hc O) (Bc (Ca (Qc O) ?_))
 refine Jb hF (DG s hl _) (Cb MU O O) ?_
 clear hF; intro w hF
 refine Ca (Ul O) (Ca (RQ O O) (Ca (Fm O O) ?_))
 refine Ym hF zeroValue61 sizeOf61 O ?_
 clear hF; rintro b2 w hb2 hF -
 refine Ca (Wb O) (Ea (Ha ?_))
 refine Uc [] (.free 0 (.free 1 (.free 2 (.free 3 (.free 4 (.free 6 (.act 5 (.free 7 (.free 8 (.act 9 (.free 10 .nil))))))))))) hF ?_
 clear hF; rintro w hF -
 refine ⟨fun wq=>FR w0 [] [(b2,.cells #[.bool ((Se s).1.neg),.string (bs ((Se s).1.digits)),.int .i64 ((Se s).1.exp)] 61)] wq,hF.sub (.cons_cons _ (.cons _ .slnil)),?_⟩
 refine Uk O (Wj isAgg61 sizeOf61 O C0 0 O O) (Db O (Va O) (Db O (Th O O) (Db O (Jc O) ?_)))
 refine Ik (d:=14) O (fun hg0=>?_) (fun hg0=>?_)
 refine Uk O (Wj isAgg61 sizeOf61 O C0 0 O O) (Db O (Qc O) ?_)
 refine Um hF (VP (Se s).1 (by have:=Hp s; omega) _ (hG.ext hF.same)) O (Cb IT O O) ?_
 clear hF; intro w hF
 refine ⟨hF.sub (.cons_cons _ (.cons _ .slnil)),?_⟩
 refine Db O (Ay O O) (Db O (Ic O O) ?_)
 refine Tu O hF sizeOf61 O O I5 ?_
 clear hF; rintro w hF -
 refine ⟨hF.sub (.cons_cons _ (.cons _ .slnil)),?_⟩
 refine Db O (Hc O) (Mc (Ga ?_))
 refine Ub (Rb (Sa (Ve O (l:=[.bool ((Se s).1.neg),.string (bs ((Se s).1.digits)),.int .i64 ((Se s).1.exp)]) O isAgg61 sizeOf61 O (hF.cellsAll 1 O) (v:=.bool (decide ((Km (Se s).1:Str)=s))) O) ?_))
 exact ⟨by simp_all [Aj,Kn],hF.same⟩
 refine Jd O ?_
 refine Jd O ?_
 refine AQ O ?_ (hF.sub (.cons_cons _ (.cons _ .slnil)))
 refine Jd O ?_
 refine Db O (Gc O O) ?_
 refine Tu O hF sizeOf61 O O I5 ?_
 clear hF; rintro w hF -
 refine ⟨hF.sub (.cons_cons _ (.cons _ .slnil)),?_⟩
 refine Db O (Hc O) (Mc (Ga ?_))
 refine Ub (Rb (Sa (Ve O (l:=[.bool ((Se s).1.neg),.string (bs ((Se s).1.digits)),.int .i64 ((Se s).1.exp)]) O isAgg61 sizeOf61 O (hF.cellsAll 1 O) (v:=.bool false) O) ?_))
 exact ⟨by simp_all [Aj,Kn],hF.same⟩
theorem SW (s:Str) (hl:s.length≤140737488355328) (w0:World) (hG:Gl w0):Calls prog 64 #[.string (bs s)] w0 (De fun v w'=>v=.bool (Rs s)∧Same [] w0 w'):=by
 refine Ka func64 O ntmps64 Kb (Sc _) ?_
 have hF:=FR.start w0 []
 refine Ia (Ca (Hc O) (Bc (Ca (Qc O) ?_)))
 refine Jb hF (L7 s hl _ (hG.ext hF.same)) (Cb QU O O) ?_
 clear hF; intro w hF
 refine Ca (Ul O) (Ca (RQ O O) (Ca (Ss O O) ?_))
 refine Ym hF zeroValue61 sizeOf61 O ?_
 clear hF; rintro b1 w hb1 hF -
 refine Ca (Hc O) (Bc (Tc (Wj isAgg61 sizeOf61 O hF.F 0 O O) ?_))
 refine Jb hF (LM (Se s).1 (by have:=Hp s; omega) _ (hG.ext hF.same)) (Cb XY O O) ?_
 clear hF; intro w hF
 refine Ca (Ul O) (Ca (Fm O O) (Ca (Ss O O) (Ca (Wb O) (Ca (Hc O) (Bc (Ca (Jc O) (Ca (Jc O) ?_)))))))
 refine Jf (d:=18) O (fun hg0=>?_) (fun hg0=>?_)
 refine Ca (Jc O) (Ca (Ic O O) (Ca (Jc O) ?_))
 refine Jf (d:=21) O (fun hg1=>?_) (fun hg1=>?_)
 refine Ca (Va O) (Ca (Rv O O) (Ca (Ic O O) (Ca (Hc O) (Ea ?_))))
 refine Td (v:=.bool _) O O ?_
 exact ⟨by simp_all [Rs],hF.same⟩
 refine Da (Da (Ca (Gc O O) (Ca (Hc O) (Ea ?_))))
 refine Td (v:=.bool false) O O ?_
 exact ⟨by simp_all [Rs],hF.same⟩
 refine Da (Ca (Gc O O) (Ca (Jc O) (Da (Da (Ca (Gc O O) (Ca (Hc O) (Ea ?_)))))))
 refine Td (v:=.bool false) O O ?_
 exact ⟨by simp_all [Rs],hF.same⟩
end Go.Scarf
namespace Go.Scarf
open Go.RowKit Go.Proofs Go.Proofs.Tryz
def Tm (ks:List Str) (n:Int):Bool:=decide ks.Nodup && ks.all Lib.validD && decide ((ks.length:Int)=n)
def Xx (ks:List Str):MapL:=ks.map fun k=>(k,.bool true)
theorem R3 (ks:List Str) (k:Str):Lk (Xx ks) k=if k∈ks then some (.bool true) else none:=by
  induction ks with
  | nil=>rfl
  | cons a r ih =>
    have e:Xx (a::r)=[(a,.bool true)]++Xx r:=rfl
    rw [e,G8,ih]
    by_cases h:a=k
    · subst h; simp [Lk]
    · have h' : ¬ k = a := fun e => h e.symm
      simp [Lk,h,h']
theorem AD (ks:List Str) (j:Nat) (h:j < ks.length):Xx (ks.take j)++[(ks[j],.bool true)]=Xx (ks.take (j+1)):=by
  unfold Xx; rw [List.take_succ_eq_append_getElem h,List.map_append]; rfl
theorem Qs {ks:List Str} {j:Nat} (h:j < ks.length) (hn:(ks.take j).Nodup) (hi:¬ks[j]∈ks.take j):(ks.take (j+1)).Nodup:=by
  rw [List.take_succ_eq_append_getElem h,List.nodup_append]
  refine ⟨hn,by simp,?_⟩
  intro a ha b hb e
  simp only [List.mem_singleton] at hb
  subst e; subst hb; exact hi ha
theorem Xr {ks:List Str} {j:Nat} (h:j < ks.length) (hi:ks[j]∈ks.take j):¬ks.Nodup:=by
  intro hn
  obtain ⟨i,hi',he⟩:=List.getElem_of_mem hi
  rw [List.getElem_take] at he
  have hi2:i < j:=by rw [List.length_take] at hi'; omega
  have:=(List.pairwise_iff_getElem.1 hn) i j U h hi2
  exact this he
theorem Zu {f:Str→Bool} {ks:List Str} {j:Nat} (h:j < ks.length) (ha:(ks.take j).all f=true) (hv:f ks[j]=true):(ks.take (j+1)).all f=true:=by
  rw [List.take_succ_eq_append_getElem h,List.all_append,ha]; simp [hv]
theorem DI {f:Str→Bool} {ks:List Str} {j:Nat} (h:j < ks.length) (hv:f ks[j]=false):ks.all f=false:=by
  rw [Bool.eq_false_iff]; intro ha
  have:=List.all_eq_true.1 ha ks[j] (List.getElem_mem h)
  rw [hv] at this; cases this
theorem CR (ks:List Str) (n:Int) (S:Nat→Prop) (A:Option Addr) (c:Nat) (hl:∀ k∈ks,k.length≤140737488355328) (w0:World) (hG:Gl w0) (hX:Rep S w0 (Hf ks) [.slice A ks.length c]):Calls prog 61 #[.slice A ks.length c,.int .i64 n] w0 (De fun v w'=>v=.bool (Tm ks n)∧Same [] w0 w'):=by
 have hXl:=hX.slice_len
 refine Ka func61 O ntmps61 Kb (Ee _ _) ?_
 have hF:=FR.start w0 []
 refine Ia (Ca (Hc O) (Bc (Ca (Yd O) (Ca (Df underlying25 O) ?_))))
 refine St (v:=fun b=>.map (some b)) hF (S6 underlying123 O) ?_
 clear hF; rintro b1 w hb1 hF -
 refine Ca (S1) (Ea (Ha (Ia (Ca (Yd O) (Ca (Df underlying25 O) (Ca (Va O) (Ea (Ta ?_))))))))
 replace hF:FR w0 [] [(b1,Nn (Xx (ks.take 0)))] w:=hF
 refine Lc (fun μ σ w=>∃ (j:Nat),μ=ks.length - j∧(j≤ks.length)∧((ks.take j).Nodup)∧((ks.take j).all Lib.validD=true)∧AllEq σ [(0,.slice A ks.length c),(1,.int .i64 n),(5,.map (some b1)),(11,.slice A ks.length c),(12,.int .i64 ((ks.length:Nat))),(13,.int .i64 ((j:Int)))]∧FR w0 [] [(b1,Nn (Xx (ks.take j)))] w) _ ⟨0,O,(Nat.zero_le _),Ma,Ma,Iu,hF⟩ ?_
 clear hF; rintro μ σ w ⟨j,rfl,hj,hd,hv,hs,hF⟩
 refine Cg.slots hs ?_
 clear hs; intro σ
 refine Ia (Ca (Yg O O) (Ea (Ha ?_)))
 refine Yb O O (fun hc0=>?_) (fun hc0=>?_)
 refine Qa (Ga (Ha (Ta (Ia ?_))))
 obtain ⟨ad0,hA0,hk0,hx0⟩:=hX.str_elem (i:=j) U
 refine Ja (v:=.pointer (some (ad0.add (j * 1)))) (Pa (i:=(j:Int)) Gk O hA0 O U U) (Ja (v:=.string (bs (ks[j]))) (Ya isAgg9 O (hF.cell0 hk0)) (Ca (Rd O) (Ea (Ha (Ia (Ca (XC) (Ca (Qc O) ?_)))))))
 refine Ja (v:=.bool (decide (ks[j]∈ks.take j))) (S5 underlying123 underlying9 zeroValue4 O O (hF.heap (i:=0) O) (by rw [R3]; split <;> rename_i hh <;> simp only [hh,decide_true,decide_false] <;> rfl)) ?_
 refine Ca (Jc O) ?_
 refine Hb (d:=20) O (fun hg1=>?_) (fun hg1=>?_)
 refine Da (Da (Da (Ca (Ic O O) (Ea (Ae O (Ia (Ca (Hc O) (Ea ?_))))))))
 refine Td (v:=.bool false) O O ?_
 have:=Xr (ks:=ks) (j:=j) U (by assumption)
 exact ⟨congrArg Value.bool (by unfold Tm; rw [decide_eq_false this]; rfl),hF.same⟩
 refine Ca (Qc O) ?_
 refine Jb hF (II ks[j] (hl _ (List.getElem_mem _)) _ (hG.ext hF.same)) (Cb UT O O) ?_
 clear hF; intro w hF
 refine Ca (Pn O) (Ca (Gc O O) (Ea ?_))
 refine Mi O O (fun hc1=>?_) (fun hc1=>?_)
 refine Ia (Ca (Hc O) (Ea ?_))
 refine Td (v:=.bool false) O O ?_
 have:=DI (f:=Lib.validD) (ks:=ks) (j:=j) U (by simpa using hc1)
 exact ⟨congrArg Value.bool (by unfold Tm; rw [this,Bool.and_false]; rfl),hF.same⟩
 refine Qa (Ga (Fa (Ca (XC) (Ca (Qc O) ?_))))
 refine Zz 0 (v:=.bool true) hF underlying123 underlying9 O O O O (by rw [R3,if_neg (by assumption)]) ?_
 clear hF; rintro w hF -
 rw [AD ks j U] at hF
 replace hF:FR w0 [] [(b1,Nn (Xx (ks.take (j+1))))] w:=hF
 refine Xa (Eb (Ga (Fa (Ca (Sl O O) (Ca (Va O) (Xa ?_))))))
 refine Ib ⟨_,?_,j+1,O,U,(Qs U hd (by assumption)),(Zu U hv (by simpa using hc1)),Iu,hF⟩
 omega
 refine Dc (Cc O ?_)
 refine Ga (Ia (Ca (Yd O) (Ca (Df underlying25 O) (Ca (Va O) (Ca (Th O O) (Ca (Hc O) (Ea ?_)))))))
 refine Td (v:=.bool _) O O ?_
 obtain rfl:j=ks.length:=by omega
 rw [List.take_length] at hd hv
 exact ⟨congrArg Value.bool (by unfold Tm; rw [hv,decide_eq_true hd]; rfl),hF.same⟩
end Go.Scarf
namespace Go.Scarf
open Go.RowKit Go.Proofs Go.Proofs.Tryz
mutual
def U4:Tree→Prop | .node _ t ks xs=>t.length≤140737488355328∧(∀ k∈ks,k.length≤140737488355328)∧Z4 xs
def Z4:List Tree→Prop | []=>True | x::xs=>U4 x∧Z4 xs
end
theorem Yt:∀ {xs:List Tree},Z4 xs→∀ x∈xs,U4 x
  | [],_,_,h=>absurd h Ma
  | y :: ys, h, x, hx => by
    rw [Z4] at h
    rcases List.mem_cons.1 hx with rfl | hx
    · exact h.1
    · exact Yt h.2 x hx
def nodeB:Tree→Bool
  | .node k t ks xs =>
    if k=5 then decide (ks=[]) && decide (t=[]) else
    if k=6 then Tm ks xs.length && decide (t=[]) else
    if ks≠[]∨xs≠[] then false else
    if k=1 then decide (t=[]) else
    if k=2 then decide (t=[116,114,117,101]) || decide (t=[102,97,108,115,101]) else
    if k=3 then Aj t else if k=4 then Lib.validD t else if k=7 then Rs t else false
def O5 (g:Nat) (q:Tree→Bool):Prop:=∀ (x:Tree) (S:Nat→Prop) (w0:World) (cs:List Value),Rep S w0 (Vc x) cs→U4 x→Gl w0→Calls prog g #[.agg cs.toArray] w0 (De fun v w'=>v=.bool (q x)∧Same [] w0 w')
theorem GR {α:Type} (l:List α):decide ((0:Int) < (l.length:Int))=decide (l≠[]):=by
  cases l <;> simp
theorem AO  : O5 42 nodeB:=by
 rintro ⟨k,t,ks,xs⟩ S w0 cs hR hk hG
 obtain ⟨A,c,B,e,rfl,-,-,hK,hX⟩:=hR.tree_inv
 rw [U4] at hk
 refine Ka func42 O ntmps42 Kb (Sc _) ?_
 have hF:=FR.start w0 []
 refine Ia ?_
 refine Bh hF O ?_
 clear hF; rintro b1 w hb1 hF -
 refine Ca (Hc O) (Ea (Ha ?_))
 refine Ff (zs:=[]) (.free 0 (.free 1 (.free 2 (.free 3 (.free 4 (.free 5 (.free 6 (.free 7 (.free 8 (.free 9 .nil)))))))))) hF ?_
 clear hF; intro w hF
 refine Db O (Ec Af O) (Uk O (Mf isAgg25 O C0 0 O O) (Db O (Df underlying25 O) (Db O (Ho O O) (Db O (Ec Pc O) (Uk O (Mf isAgg22 O C0 0 O O) (Db O (Df underlying22 O) (Db O (Ho O O) (Db O (Hc O) (Db O (Hc O) (Mc (Ga (Ha (Ha ?_)))))))))))))
 refine Fa (Ca (Ec Ke O) (Tc (Hl isAgg3 O hF.F 0 O O) (Ea (Ta (Ia (Ca (Th O O) (Ca (Hc O) (Ea ?_))))))))
 refine Yb O O (fun hc0=>?_) (fun hc0=>?_)
 refine Ia (Ca (Jc O) (Ca (ynd O) (Ca (Jc O) ?_)))
 refine Hb (d:=21) O (fun hg0=>?_) (fun hg0=>?_)
 refine Ca (Ec Of O) (Tc (Tp isAgg9 O hF.F 0 O O) (Ca (Ay O O) (Ca (Ic O O) (Ca (Hc O) (Ea ?_)))))
 refine Td (v:=.bool _) O O ?_
 refine ⟨?_,hF.same⟩
 clear hF hR hK hX hb1
 simp_all [nodeB,List.length_pos_iff]
 refine Da (Da (Da (Ca (Gc O O) (Ca (Hc O) (Ea ?_)))))
 refine Td (v:=.bool false) O O ?_
 refine ⟨?_,hF.same⟩
 clear hF hR hK hX hb1
 simp_all [nodeB,List.length_pos_iff]
 refine Ia (Ca (Th O O) (Ca (Hc O) (Ea ?_)))
 refine Yb O O (fun hc1=>?_) (fun hc1=>?_)
 refine Ia (Ca (Ec Af O) (Tc (Mf isAgg25 O hF.F 0 O O) (Ca (Ec Pc O) (Tc (Mf isAgg22 O hF.F 0 O O) (Ca (Df underlying22 O) ?_)))))
 refine Jb hF (CR ks (xs.length:Nat) S A c (by simpa using hk.2.1) _ (hG.ext hF.same) (hF.rep hK)) (Vb DZ O O O) ?_
 clear hF; intro w hF
 refine Ca (Jc O) ?_
 refine Jf (d:=34) O (fun hg1=>?_) (fun hg1=>?_)
 refine Ca (Ec Of O) (Tc (Tp isAgg9 O hF.F 0 O O) (Ca (Ay O O) (Ca (Ic O O) (Ca (Hc O) (Ea ?_)))))
 refine Td (v:=.bool _) O O ?_
 refine ⟨?_,hF.same⟩
 clear hF hR hK hX hb1
 simp_all [nodeB,List.length_pos_iff]
 refine Da (Da (Da (Ca (Gc O O) (Ca (Hc O) (Ea ?_)))))
 refine Td (v:=.bool false) O O ?_
 refine ⟨?_,hF.same⟩
 clear hF hR hK hX hb1
 simp_all [nodeB,List.length_pos_iff]
 refine Qa (Eb (Ga (Ha (Ia (Ca (Jc O) (Ca (Jc O) ?_))))))
 refine Hb (d:=40) O (fun hg2=>?_) (fun hg2=>?_)
 refine Da (Ca (Ic O O) (Ea (Ae O (Ia (Ca (Hc O) (Ea ?_))))))
 refine Td (v:=.bool false) O O ?_
 refine ⟨?_,hF.same⟩
 clear hF hR hK hX hb1
 simp_all [nodeB,List.length_pos_iff]
 refine Ca (Jc O) (Ca (Gc O O) (Ea ?_))
 refine Yb O O (fun hc2=>?_) (fun hc2=>?_)
 refine Ia (Ca (Hc O) (Ea ?_))
 refine Td (v:=.bool false) O O ?_
 refine ⟨?_,hF.same⟩
 clear hF hR hK hX hb1
 simp_all [nodeB,List.length_pos_iff]
 refine Qa (Ga (Ha (Ia (Ca (Ec Ke O) (Tc (Hl isAgg3 O hF.F 0 O O) (Ea (Ta (Ia (Ca (Th O O) (Ca (Hc O) ?_))))))))))
 refine Ea ?_
 refine Yb O O (fun hc3=>?_) (fun hc3=>?_)
 refine Ia (Ca (Ec Of O) (Tc (Tp isAgg9 O hF.F 0 O O) (Ca (Ay O O) (Ca (Hc O) (Ea ?_)))))
 refine Td (v:=.bool _) O O ?_
 refine ⟨?_,hF.same⟩
 clear hF hR hK hX hb1
 simp_all [nodeB,List.length_pos_iff]
 refine Ia (Ca (Th O O) (Ca (Hc O) (Ea ?_)))
 refine Yb O O (fun hc4=>?_) (fun hc4=>?_)
 refine Ia (Ca (Ec Of O) (Tc (Tp isAgg9 O hF.F 0 O O) (Ca (Ay O O) (Ca (Jc O) ?_))))
 refine Hb (d:=55) O (fun hg3=>?_) (fun hg3=>?_)
 refine Da (Da (Da (Ca (Ic O O) (Ca (Hc O) (Ea ?_)))))
 refine Td (v:=.bool true) O O ?_
 refine ⟨?_,hF.same⟩
 clear hF hR hK hX hb1
 simp_all [nodeB,List.length_pos_iff]
 refine Ca (Ec Of O) (Tc (Tp isAgg9 O hF.F 0 O O) (Ca (Ay O O) (Ca (Gc O O) (Ca (Hc O) (Ea ?_)))))
 refine Td (v:=.bool _) O O ?_
 refine ⟨?_,hF.same⟩
 clear hF hR hK hX hb1
 simp_all [nodeB,List.length_pos_iff]
 refine Ia (Ca (Th O O) (Ca (Hc O) (Ea ?_)))
 refine Yb O O (fun hc5=>?_) (fun hc5=>?_)
 refine Ia (Ca (Ec Of O) (Tc (Tp isAgg9 O hF.F 0 O O) ?_))
 refine Jb hF (L7 t hk.1 _ (hG.ext hF.same)) (Cb QU O O) ?_
 clear hF; intro w hF
 refine Ca (Ul O) (Ca (RQ O O) (Ca (Ss O O) ?_))
 refine Ym hF zeroValue61 sizeOf61 O ?_
 clear hF; rintro b2 w hb2 hF -
 refine Ca (Hc O) (Bc (Ca (Jc O) (Ca (Hc O) (Ea ?_))))
 refine Td (v:=.bool _) O O ?_
 refine ⟨?_,hF.same⟩
 clear hF hR hK hX hb1
 simp_all [nodeB,List.length_pos_iff]
 refine Ia (Ca (Th O O) (Ca (Hc O) (Ea ?_)))
 refine Yb O O (fun hc6=>?_) (fun hc6=>?_)
 refine Ia (Ca (Ec Of O) (Tc (Tp isAgg9 O hF.F 0 O O) ?_))
 refine Jb hF (II t hk.1 _ (hG.ext hF.same)) (Cb UT O O) ?_
 clear hF; intro w hF
 refine Ca (Hc O) (Ea ?_)
 refine Td (v:=.bool _) O O ?_
 refine ⟨?_,hF.same⟩
 clear hF hR hK hX hb1
 simp_all [nodeB,List.length_pos_iff]
 refine Ia (Ca (Th O O) (Ca (Hc O) (Ea ?_)))
 refine Yb O O (fun hc7=>?_) (fun hc7=>?_)
 refine Ia (Ca (Ec Of O) (Tc (Tp isAgg9 O hF.F 0 O O) ?_))
 refine Jb hF (SW t hk.1 _ (hG.ext hF.same)) (Cb PZ O O) ?_
 clear hF; intro w hF
 refine Ca (Hc O) (Ea ?_)
 refine Td (v:=.bool _) O O ?_
 refine ⟨?_,hF.same⟩
 clear hF hR hK hX hb1
 simp_all [nodeB,List.length_pos_iff]
 refine Qa (Eb (Ga (Ia (Ca (Hc O) (Ea ?_)))))
 refine Td (v:=.bool false) O O ?_
 refine ⟨?_,hF.same⟩
 clear hF hR hK hX hb1
 simp_all [nodeB,List.length_pos_iff]
end Go.Scarf
namespace Go.Scarf
open Go.RowKit Go.Proofs Go.Proofs.Tryz
theorem Tree.ind {Q:Tree→Prop} (h:∀ k t ks xs,(∀ x,x∈xs→Q x)→Q (.node k t ks xs)) (x:Tree):Q x :=
  Tree.rec (motive_1:=Q) (motive_2:=fun xs=>∀ x,x∈xs→Q x) (fun k t ks xs ih=>h k t ks xs ih) Ma
    (fun y ys h1 h2=>by
      intro z hz
      rcases List.mem_cons.1 hz with rfl | hz
      · exact h1
      · exact h2 z hz) x
mutual
def Oc:Tree→Nat | .node _ _ _ xs=>1+Fd xs
def Fd:List Tree→Nat | []=>0 | x::xs=>Oc x+Fd xs
end
mutual
def Cd:Tree→Nat | .node _ _ _ xs=>Md xs+1
def Md:List Tree→Nat | []=>0 | x::xs=>max (Cd x) (Md xs)
end
theorem Dv:∀ (xs ys:List Tree),Fd (xs++ys)=Fd xs+Fd ys
  | [],ys=>by simp [Fd]
  | x::xs,ys=>by simp [Fd,Dv xs ys,Nat.add_assoc]
theorem Qt:∀ (xs ys:List Tree),Md (xs++ys)=max (Md xs) (Md ys)
  | [],ys=>by simp [Md]
  | x::xs,ys=>by simp only [List.cons_append,Md,Qt xs ys]; omega
theorem Vz (xs:List Tree) (j:Nat) (hj:j < xs.length):Fd (xs.take (j+1))=Fd (xs.take j)+Oc xs[j]:=by
  rw [List.take_succ_eq_append_getElem hj,Dv]; simp [Fd]
theorem Sw (xs:List Tree) (j:Nat) (hj:j < xs.length):Md (xs.take (j+1))=max (Md (xs.take j)) (Cd xs[j]):=by
  rw [List.take_succ_eq_append_getElem hj,Qt]; simp [Md]
theorem Rf:∀ {xs:List Tree} {x:Tree},x∈xs→Oc x≤Fd xs
  | [],_,h=>absurd h Ma
  | y :: ys, x, h => by
    rw [Fd]
    rcases List.mem_cons.1 h with rfl | h
    · omega
    · have:=Rf h; omega
theorem WI (x:Tree):1≤Oc x:=by cases x; rw [Oc]; omega
theorem Jn:∀ (xs:List Tree),xs.length≤Fd xs
  | []=>by simp [Fd]
  | x::xs=>by have:=Jn xs; have:=WI x; simp only [Fd,List.length_cons]; omega
theorem UM (x:Tree):Cd x≤Oc x:=by
  refine Tree.ind (Q:=fun x=>Cd x≤Oc x) (fun k t ks xs ih=>?_) x
  have:Md xs≤Fd xs:=by
    induction xs with
    | nil=>simp [Md,Fd]
    | cons y ys ihy =>
      have h1:=ih y Ma
      have h2:=ihy (fun z hz=>ih z (by simp [hz]))
      simp only [Md,Fd]; omega
  simp only [Cd,Oc]; omega
theorem Aw (xs:List Tree):Md xs≤Fd xs:=by
  have:=UM (.node 0 [] [] xs)
  simp only [Cd,Oc] at this; omega
def RO (x:Tree):Prop:=∀ S w0 cs,Rep S w0 (Vc x) cs→Calls prog 57 #[.agg cs.toArray] w0 (De fun v w'=>v=.int .i64 (wr (Oc x))∧Same [] w0 w')
theorem EJ (k:Int) (t:Str) (ks:List Str) (xs:List Tree) (ih:∀ x,x∈xs→RO x):RO (.node k t ks xs):=by
 intro S w0 cs hR
 obtain ⟨A,c,B,e,rfl,-,-,-,hX⟩:=hR.tree_inv
 have hXl:=hX.slice_len
 refine Ka func57 O ntmps57 Kb (Sc _) ?_
 have hF:=FR.start w0 []
 refine Ia ?_
 refine Bh hF O ?_
 clear hF; rintro b1 w hb1 hF -
 refine Ca (Wb O) (Bc (Ca (Wb O) (Ea (Ha (Ia (Ca (Ec Pc O) (Tc (Mf isAgg22 O hF.F 0 O O) (Ca (Df underlying22 O) ?_))))))))
 refine Ca (Va O) (Ea (Ta ?_))
 refine Lc (fun μ σ w=>∃ (j:Nat),μ=xs.length - j∧(j≤xs.length)∧AllEq σ [(3,.int .i64 (wr (1+Fd (xs.take j)))),(7,.slice B xs.length e),(8,.int .i64 ((xs.length:Nat))),(9,.int .i64 ((j:Int)))]∧FR w0 [] [(b1,.cells #[.int .i64 k,.string (bs t),.slice A ks.length c,.slice B xs.length e] 27)] w) _ ⟨0,O,(Nat.zero_le _),Gm,hF⟩ ?_
 clear hF; rintro μ σ w ⟨j,rfl,hj,hs,hF⟩
 refine Cg.slots hs ?_
 clear hs; intro σ
 refine Ia (Ca (Yg O O) (Ea (Ha ?_)))
 refine Yb O O (fun hc0=>?_) (fun hc0=>?_)
 refine Qa (Ga (Ha (Ta (Ia ?_))))
 obtain ⟨ad0,cs0,hA0,hl0,hk0,hx0⟩:=hX.tree_elem (i:=j) U
 have ho0:=hx0.one_
 refine Ja (v:=.pointer (some (ad0.add (j * 4)))) (Pa (i:=(j:Int)) Mg O hA0 O U U) (Ja (v:=.agg (List.toArray cs0)) (Fc (l:=cs0) isAgg27 sizeOf27 O hl0 (hF.cells0 hk0)) ?_)
 refine Tx (l:=cs0) hF zeroValue27 (by rw [hl0]; exact sizeOf27) (by rw [hl0]; rfl) (v:=.agg (List.toArray cs0)) O O (ho0) O ?_
 clear hF; rintro b2 w hb2 hF -
 refine Ea (Fa (Ca (Va O) (Ja (v:=.agg (List.toArray cs0)) (Fc (l:=cs0) isAgg27 sizeOf27 O hl0 (hF.cellsAll 0 O)) ?_)))
 refine Jb hF (ih _ (List.getElem_mem _) _ _ _ (hF.rep hx0)) (Cb NU O O) ?_
 clear hF; intro w hF
 refine Ja (v:=.int .i64 (wr (1+Fd (xs.take (j+1))))) (Il O O (by rw [MJ,Vz xs j U,Int.natCast_add,Int.add_assoc])) ?_
 refine Ca (Wb O) (Xa (Eb (Ga (Fa (Ca (Sl O O) (Ca (Va O) (Xa ?_)))))))
 refine Ib ⟨_,?_,j+1,O,U,Gm,hF.drop 1⟩
 omega
 refine Dc (Cc O ?_)
 refine Ga (Ia (Ca (Va O) (Ca (Wb O) (Ea ?_))))
 refine Td (v:=.int .i64 (wr (1+Fd (xs.take j)))) O O ?_
 obtain rfl:j=xs.length:=by omega
 exact ⟨by simp [Oc],hF.same⟩
theorem VU (x:Tree):RO x:=Tree.ind EJ x
def SE (x:Tree):Prop:=Oc x≤1000000000→∀ S w0 cs,Rep S w0 (Vc x) cs→Calls prog 58 #[.agg cs.toArray] w0 (De fun v w'=>v=.int .i64 (Cd x:Nat)∧Same [] w0 w')
theorem XE (k:Int) (t:Str) (ks:List Str) (xs:List Tree) (ih:∀ x,x∈xs→SE x):SE (.node k t ks xs):=by
 intro hsz S w0 cs hR
 obtain ⟨A,c,B,e,rfl,-,-,-,hX⟩:=hR.tree_inv
 have hXl:=hX.slice_len
 have hdl:=Aw xs
 rw [Oc] at hsz
 refine Ka func58 O ntmps58 Kb (Sc _) ?_
 have hF:=FR.start w0 []
 refine Ia ?_
 refine Bh hF O ?_
 clear hF; rintro b1 w hb1 hF -
 refine Ca (Wb O) (Bc (Ca (Wb O) (Ea (Ha (Ia (Ca (Ec Pc O) (Tc (Mf isAgg22 O hF.F 0 O O) (Ca (Df underlying22 O) ?_))))))))
 refine Ca (Va O) (Ea (Ta ?_))
 refine Lc (fun μ σ w=>∃ (j:Nat),μ=xs.length - j∧(j≤xs.length)∧AllEq σ [(3,.int .i64 ((Md (xs.take j):Nat))),(7,.slice B xs.length e),(8,.int .i64 ((xs.length:Nat))),(9,.int .i64 ((j:Int)))]∧FR w0 [] [(b1,.cells #[.int .i64 k,.string (bs t),.slice A ks.length c,.slice B xs.length e] 27)] w) _ ⟨0,O,(Nat.zero_le _),Gm,hF⟩ ?_
 clear hF; rintro μ σ w ⟨j,rfl,hj,hs,hF⟩
 refine Cg.slots hs ?_
 clear hs; intro σ
 refine Ia (Ca (Yg O O) (Ea (Ha ?_)))
 refine Yb O O (fun hc0=>?_) (fun hc0=>?_)
 refine Qa (Ga (Ha (Ta (Ia ?_))))
 obtain ⟨ad0,cs0,hA0,hl0,hk0,hx0⟩:=hX.tree_elem (i:=j) U
 have ho0:=hx0.one_
 refine Ja (v:=.pointer (some (ad0.add (j * 4)))) (Pa (i:=(j:Int)) Mg O hA0 O U U) (Ja (v:=.agg (List.toArray cs0)) (Fc (l:=cs0) isAgg27 sizeOf27 O hl0 (hF.cells0 hk0)) ?_)
 refine Tx (l:=cs0) hF zeroValue27 (by rw [hl0]; exact sizeOf27) (by rw [hl0]; rfl) (v:=.agg (List.toArray cs0)) O O (ho0) O ?_
 clear hF; rintro b2 w hb2 hF -
 refine Ea (Fa (Ca (Va O) (Ja (v:=.agg (List.toArray cs0)) (Fc (l:=cs0) isAgg27 sizeOf27 O hl0 (hF.cellsAll 0 O)) ?_)))
 refine Jb hF (ih _ (List.getElem_mem _) (by have:=Rf (List.getElem_mem (l:=xs) (n:=j) U); omega) _ _ _ (hF.rep hx0)) (Cb PT O O) ?_
 clear hF; intro w hF
 refine Ja (v:=.int .i64 ((Md (xs.take (j+1)):Nat))) (by rw [←show max ((Md (xs.take j):Nat):Int) ((Cd xs[j]:Nat):Int)=((Md (xs.take (j+1)):Nat):Int) from by rw [Sw xs j U]; omega]; exact VN O O) ?_
 refine Ca (Wb O) (Xa (Eb (Ga (Fa (Ca (Sl O O) (Ca (Va O) (Xa ?_)))))))
 refine Ib ⟨_,?_,j+1,O,U,Gm,hF.drop 1⟩
 omega
 refine Dc (Cc O ?_)
 refine Ga (Ia (Ca (Va O) ?_))
 have eT:xs.take j=xs:=List.take_of_length_le U
 refine Ja (v:=.int .i64 ((Cd (.node k t ks xs):Nat))) (Il O O (by rw [eT,Cd]; exact Id U U U)) ?_
 refine Ca (Wb O) (Ea ?_)
 refine Td (v:=.int .i64 ((Cd (.node k t ks xs):Nat))) O O ?_
 exact ⟨O,hF.same⟩
theorem UQ (x:Tree):SE x:=Tree.ind XE x
end Go.Scarf
namespace Go.Scarf
open Go.RowKit Go.Proofs Go.Proofs.Tryz
theorem Same.cell {w w':World} {a:Addr} {v:Value} (h:Same [] w w') (hc:w.cell? a=some v):w'.cell? a=some v:=((FR.start w []).ext h).cell0 hc
mutual
def Fe (q:Tree→Bool):Tree→Bool | .node k t ks xs=>q (.node k t ks xs) && Tq q xs
def Tq (q:Tree→Bool):List Tree→Bool | []=>true | x::xs=>Fe q x && Tq q xs
end
theorem Vq (q:Tree→Bool):∀ xs:List Tree,Tq q xs = !(xs.any fun x=>!Fe q x)
  | []=>rfl
  | x::xs=>by rw [Tq,Vq q xs]; simp
def EachC (w0:World) (bb:Nat) (xs:List Tree) (q:Tree→Bool):Prop:=∀ x,x∈xs→∀ S w cs,Same [] w0 w→Rep S w (Vc x) cs→Calls prog 60 #[.agg cs.toArray,.pointer (some ⟨bb,0,none⟩)] w (De fun v w'=>v=.bool (q x)∧Same [] w w')
theorem EachC.ext {w0 w:World} {bb:Nat} {xs:List Tree} {q:Tree→Bool} (h:EachC w0 bb xs q) (hs:Same [] w0 w):EachC w bb xs q:=fun x hx S w' cs hw=>h x hx S w' cs (hs.trans hw)
theorem RJ {q:Tree→Bool} {xs:List Tree} {j:Nat} (h:j < xs.length) (hn:(xs.take j).any q=false) (hq:q xs[j]=false):(xs.take (j+1)).any q=false:=by
  rw [List.take_succ_eq_append_getElem h,List.any_append,hn]; simp [hq]
def Cw (g:Nat) (q:Tree→Bool) (x:Tree):Prop:=∀ S w0 cs,Rep S w0 (Vc x) cs→U4 x→Gl w0→Calls prog 40 #[.agg cs.toArray,.func (.func g) #[] #[]] w0 (De fun v w'=>v=.bool (Fe q x)∧Same [] w0 w')
theorem TA (xs:List Tree) (q:Tree→Bool) (bb:Nat) (B:Option Addr) (e:Nat) (S:Nat→Prop) (w0:World) (hX:Rep S w0 (.slice (Wc xs)) [.slice B xs.length e]) (hq:EachC w0 bb xs q):Calls prog 93 #[.slice B xs.length e,.func (.func 60) #[] #[.pointer (some ⟨bb,0,none⟩)]] w0 (De fun v w'=>∃ n:Int,v=.int .i64 n∧decide (0≤n)=xs.any q∧Same [] w0 w'):=by
 have hXl:=hX.slice_len
 refine Ka func93 O ntmps93 Kb (Ee _ _) ?_
 have hF:=FR.start w0 []
 refine Ia (Ca (Wb O) (Ea (Ha (Ia (Ca (Yd O) (Ca (Df underlying22 O) (Ca (Va O) (Ea (Ta ?_)))))))))
 refine Lc (fun μ σ w=>∃ (j:Nat),μ=xs.length - j∧(j≤xs.length)∧((xs.take j).any q=false)∧AllEq σ [(0,.slice B xs.length e),(1,.func (.func 60) #[] #[.pointer (some (⟨bb,0,none⟩))]),(7,.int .i64 ((xs.length:Nat))),(8,.int .i64 ((j:Int)))]∧FR w0 [] [] w) _ ⟨0,O,(Nat.zero_le _),Ma,Gm,hF⟩ ?_
 clear hF; rintro μ σ w ⟨j,rfl,hj,hn,hs,hF⟩
 refine Cg.slots hs ?_
 clear hs; intro σ
 refine Ia (Ca (Yg O O) (Ea (Ha ?_)))
 refine Yb O O (fun hc0=>?_) (fun hc0=>?_)
 refine Qa (Ga (Ha (Ta (Ia (Ca (Va O) (Ca (Wb O) (Bc (Ca (XC) (Ca (Yd O) ?_)))))))))
 refine Ca (Va O) ?_
 obtain ⟨ad0,cs0,hA0,hl0,hk0,hx0⟩:=hX.tree_elem (i:=j) U
 have ho0:=hx0.one_
 refine Ja (v:=.pointer (some (ad0.add (j * 4)))) (Pa (i:=(j:Int)) Mg O hA0 O U U) (Ja (v:=.agg (List.toArray cs0)) (Fc (l:=cs0) isAgg27 sizeOf27 O hl0 (hF.cells0 hk0)) ?_)
 refine Jb hF (hq _ (List.getElem_mem (l:=xs) (n:=j) U) _ _ _ hF.same (hF.rep hx0)) (J3 O JY O O) ?_
 clear hF; intro w hF
 refine Ea ?_
 refine Mi O O (fun hc1=>?_) (fun hc1=>?_)
 refine Ia (Ca (Va O) (Ca (Wb O) (Ea ?_)))
 refine Td (v:=.int .i64 ((j:Int))) O O ?_
 exact ⟨_,O,by rw [List.any_eq_true.2 ⟨_,List.getElem_mem (l:=xs) (n:=j) U,hc1⟩]; simp,hF.same⟩
 refine Qa (Eb (Ga (Fa (Ca (Sl O O) (Ca (Va O) (Xa ?_))))))
 refine Ib ⟨_,?_,j+1,O,U,(RJ U hn hc1),Gm,hF⟩
 omega
 refine Dc (Cc O ?_)
 refine Ga (Ia (Ca (Wb O) (Ea ?_)))
 refine Td (v:=.int .i64 ((-1))) O O ?_
 have eT:xs.take j=xs:=List.take_of_length_le U
 rw [eT] at hn
 exact ⟨_,O,by rw [hn]; decide,hF.same⟩
theorem Bt (xs:List Tree) (q:Tree→Bool) (bb:Nat) (B:Option Addr) (e:Nat) (S:Nat→Prop) (w0:World) (hX:Rep S w0 (.slice (Wc xs)) [.slice B xs.length e]) (hq:EachC w0 bb xs q):Calls prog 59 #[.slice B xs.length e,.func (.func 60) #[] #[.pointer (some ⟨bb,0,none⟩)]] w0 (De fun v w'=>v=.bool (xs.any q)∧Same [] w0 w'):=by
 refine Ka func59 O ntmps59 Kb (Ee _ _) ?_
 have hF:=FR.start w0 []
 refine Ia (Ca (Hc O) (Bc (Ca (Yd O) (Ca (XC) ?_))))
 refine Pb (TA xs q bb B e S _ (hF.rep hX) (hq.ext hF.same)) (Vb OZ O O O) ?_
 rintro _ w ⟨n,rfl,hn,hE⟩
 replace hF:=hF.ext hE
 clear hE
 refine Ca (Rv O O) (Ca (Hc O) (Ea ?_))
 refine Td (v:=.bool _) O O ?_
 exact ⟨congrArg Value.bool hn,hF.same⟩
theorem T5 (g:Nat) (q:Tree→Bool) (x:Tree) (h:Cw g q x) (bb:Nat) (S:Nat→Prop) (w0:World) (cs:List Value) (hR:Rep S w0 (Vc x) cs) (hk:U4 x) (hG:Gl w0) (hb:w0.cell? ⟨bb,0,none⟩=some (.func (.func g) #[] #[])):Calls prog 60 #[.agg cs.toArray,.pointer (some ⟨bb,0,none⟩)] w0 (De fun v w'=>v=.bool (!Fe q x)∧Same [] w0 w'):=by
 have hl:cs.length=4:=hR.length.trans (Dd x)
 have ho:=hR.one_
 refine Ka func60 O ntmps60 Kb (Ee _ _) ?_
 have hF:=FR.start w0 []
 refine Ia ?_
 refine Io (v:=.agg (List.toArray cs)) (cs:=(List.toArray cs)) hF O O ?_
 clear hF; rintro b1 w hb1 hF -
 refine Ca (Hc O) (Bc (Ja (v:=.agg (List.toArray cs)) (Fc (l:=cs) isAgg27 sizeOf27 O hl (hF.cellsAll 0 O)) (Ja (v:=.func (.func g) #[] #[]) (Ya isAgg66 O (hF.cell0 hb)) ?_)))
 refine Jb hF (h S _ cs (hF.rep hR) hk (hG.ext hF.same)) (Vb QP O O O) ?_
 clear hF; intro w hF
 refine Ca (Pn O) (Ca (Hc O) (Ea ?_))
 refine Td (v:=.bool _) O O ?_
 exact ⟨O,hF.same⟩
theorem J8 (q:Tree→Bool) (hp:O5 41 q) (k:Int) (t:Str) (ks:List Str) (xs:List Tree) (ih:∀ x,x∈xs→Cw 41 q x):Cw 41 q (.node k t ks xs):=by
 intro S w0 cs hR hk hG
 have hk':=hk
 rw [U4] at hk'
 obtain ⟨A,c,B,e,rfl,-,-,hK,hX⟩:=hR.tree_inv
 refine Ka func40 O ntmps40 Kb (Ee _ _) ?_
 have hF:=FR.start w0 []
 refine Ia ?_
 refine Bh hF O ?_
 clear hF; rintro b1 w hb1 hF -
 refine WX (.func (.func 41) #[] #[]) hF O ?_
 clear hF; rintro b2 w hb2 hF -
 refine Ca (Hc O) (Bc (Tc (ylu isAgg66 O hF.F 0 O O) (Tc (Wj isAgg27 sizeOf27 O hF.F 1 O O) ?_)))
 refine Jb hF (hp (.node k t ks xs) S _ _ (hF.rep hR) hk (hG.ext hF.same)) (J3 O AZ O O) ?_
 clear hF; intro w hF
 refine Ca (Jc O) ?_
 refine Jf (d:=8) O (fun hg0=>?_) (fun hg0=>?_)
 refine Ca (Ec Pc O) (Tc (Mf isAgg22 O hF.F 1 O O) (Ja (v:=.func (.func 60) #[] #[.pointer (some ⟨b2,0,none⟩)]) (Sx O) ?_))
 refine Jb hF (Bt xs (fun x=>!Fe q x) b2 B e S _ (hF.rep hX) (fun x hx S' w' cs' hs hr=>T5 41 q x (ih x hx) b2 S' w' cs' hr (Yt hk'.2.2 x hx) ((hG.ext hF.same).ext hs) (hs.cell (hF.cell 0 O O)))) (Vb HT O O O) ?_
 clear hF; intro w hF
 refine Ca (Pn O) (Ca (Ic O O) (Ca (Hc O) (Ea ?_)))
 refine Td (v:=.bool _) O O ?_
 refine ⟨?_,hF.same⟩
 rw [Fe,Vq]
 simp_all
 refine Da (Da (Da (Da (Da (Ca (Gc O O) (Ca (Hc O) (Ea ?_)))))))
 refine Td (v:=.bool false) O O ?_
 refine ⟨?_,hF.same⟩
 rw [Fe,Vq]
 simp_all
theorem VJ (q:Tree→Bool) (hp:O5 41 q) (x:Tree):Cw 41 q x:=Tree.ind (J8 q hp) x
theorem Y9 (q:Tree→Bool) (hp:O5 42 q) (k:Int) (t:Str) (ks:List Str) (xs:List Tree) (ih:∀ x,x∈xs→Cw 42 q x):Cw 42 q (.node k t ks xs):=by
 intro S w0 cs hR hk hG
 have hk':=hk
 rw [U4] at hk'
 obtain ⟨A,c,B,e,rfl,-,-,hK,hX⟩:=hR.tree_inv
 refine Ka func40 O ntmps40 Kb (Ee _ _) ?_
 have hF:=FR.start w0 []
 refine Ia ?_
 refine Bh hF O ?_
 clear hF; rintro b1 w hb1 hF -
 refine WX (.func (.func 42) #[] #[]) hF O ?_
 clear hF; rintro b2 w hb2 hF -
 refine Ca (Hc O) (Bc (Tc (ylu isAgg66 O hF.F 0 O O) (Tc (Wj isAgg27 sizeOf27 O hF.F 1 O O) ?_)))
 refine Jb hF (hp (.node k t ks xs) S _ _ (hF.rep hR) hk (hG.ext hF.same)) (J3 O ST O O) ?_
 clear hF; intro w hF
 refine Ca (Jc O) ?_
 refine Jf (d:=8) O (fun hg0=>?_) (fun hg0=>?_)
 refine Ca (Ec Pc O) (Tc (Mf isAgg22 O hF.F 1 O O) (Ja (v:=.func (.func 60) #[] #[.pointer (some ⟨b2,0,none⟩)]) (Sx O) ?_))
 refine Jb hF (Bt xs (fun x=>!Fe q x) b2 B e S _ (hF.rep hX) (fun x hx S' w' cs' hs hr=>T5 42 q x (ih x hx) b2 S' w' cs' hr (Yt hk'.2.2 x hx) ((hG.ext hF.same).ext hs) (hs.cell (hF.cell 0 O O)))) (Vb HT O O O) ?_
 clear hF; intro w hF
 refine Ca (Pn O) (Ca (Ic O O) (Ca (Hc O) (Ea ?_)))
 refine Td (v:=.bool _) O O ?_
 refine ⟨?_,hF.same⟩
 rw [Fe,Vq]
 simp_all
 refine Da (Da (Da (Da (Da (Ca (Gc O O) (Ca (Hc O) (Ea ?_)))))))
 refine Td (v:=.bool false) O O ?_
 refine ⟨?_,hF.same⟩
 rw [Fe,Vq]
 simp_all
theorem BJ (q:Tree→Bool) (hp:O5 42 q) (x:Tree):Cw 42 q x:=Tree.ind (Y9 q hp) x
end Go.Scarf
namespace Go.Scarf
open Go.RowKit Go.Proofs Go.Proofs.Tryz
def rnodeB (x:Tree):Bool:=decide (x.kind≠7) && nodeB x
def Rl (x:Tree):Bool:=decide (Oc x≤4096) && decide (Cd x≤32)
def Tj (x:Tree):Bool:=Rl x && Fe nodeB x
def Je (x:Tree):Bool:=Rl x && Fe rnodeB x
theorem NM {n:Nat} (h:n≤1000000000):wr (n:Int)=(n:Int):=Ji U U
theorem CT  : O5 41 rnodeB:=by
 rintro ⟨k,t,ks,xs⟩ S w0 cs hR hk hG
 obtain ⟨A,c,B,e,rfl,-,-,hK,hX⟩:=hR.tree_inv
 refine Ka func41 O ntmps41 Kb (Sc _) ?_
 have hF:=FR.start w0 []
 refine Ia ?_
 refine Bh hF O ?_
 clear hF; rintro b1 w hb1 hF -
 refine Ca (Hc O) (Bc (Ca (Ec Ke O) (Tc (Hl isAgg3 O hF.F 0 O O) (Ca (Sq O O) (Ca (Jc O) ?_)))))
 refine Hb (d:=6) O (fun hg0=>?_) (fun hg0=>?_)
 refine Tc (Wj isAgg27 sizeOf27 O hF.F 0 O O) ?_
 refine Jb hF (AO (.node k t ks xs) S _ _ (hF.rep hR) hk (hG.ext hF.same)) (Cb ST O O) ?_
 clear hF; intro w hF
 refine Ca (Ic O O) (Ca (Hc O) (Ea ?_))
 refine Td (v:=.bool _) O O ?_
 refine ⟨?_,hF.same⟩
 simp_all [rnodeB,Tree.kind]
 refine Da (Da (Ca (Gc O O) (Ca (Hc O) (Ea ?_))))
 refine Td (v:=.bool false) O O ?_
 refine ⟨?_,hF.same⟩
 simp_all [rnodeB,Tree.kind]
theorem WW (x:Tree) (hsz:Oc x≤1000000000) (S:Nat→Prop) (w0:World) (cs:List Value) (hR:Rep S w0 (Vc x) cs):Calls prog 57 #[.agg cs.toArray] w0 (De fun v w'=>v=.int .i64 (Oc x:Nat)∧Same [] w0 w'):=by
  have h:=VU x S w0 cs hR
  rwa [NM hsz] at h
theorem OG (x:Tree) (hsz:Oc x≤1000000000) (S:Nat→Prop) (w0:World) (cs:List Value) (hR:Rep S w0 (Vc x) cs):Calls prog 39 #[.agg cs.toArray] w0 (De fun v w'=>v=.bool (Rl x)∧Same [] w0 w'):=by
 have hl:cs.length=4:=hR.length.trans (Dd x)
 have ho:=hR.one_
 refine Ka func39 O ntmps39 Kb (Sc _) ?_
 have hF:=FR.start w0 []
 refine Ia ?_
 refine Io (v:=.agg (List.toArray cs)) (cs:=(List.toArray cs)) hF O O ?_
 clear hF; rintro b1 w hb1 hF -
 refine Ca (Hc O) (Bc (Ja (v:=.agg (List.toArray cs)) (Fc (l:=cs) isAgg27 sizeOf27 O hl (hF.cellsAll 0 O)) ?_))
 refine Jb hF (WW x hsz S _ cs (hF.rep hR)) (Cb NU O O) ?_
 clear hF; intro w hF
 refine Ca (J1 O O) (Ca (Jc O) ?_)
 refine Hb (d:=6) O (fun hg0=>?_) (fun hg0=>?_)
 refine Ja (v:=.agg (List.toArray cs)) (Fc (l:=cs) isAgg27 sizeOf27 O hl (hF.cellsAll 0 O)) ?_
 refine Jb hF (UQ x hsz S _ cs (hF.rep hR)) (Cb PT O O) ?_
 clear hF; intro w hF
 refine Ca (J1 O O) (Ca (Ic O O) (Ca (Hc O) (Ea ?_)))
 refine Td (v:=.bool _) O O ?_
 refine ⟨congrArg Value.bool ?_,hF.same⟩
 unfold Rl
 first | (rw [decide_eq_true (by omega:Oc x≤4096)]; exact decide_eq_decide.2 U) | (rw [decide_eq_false (by omega:¬Oc x≤4096)]; rfl)
 refine Da (Da (Da (Ca (Gc O O) (Ca (Hc O) (Ea ?_)))))
 refine Td (v:=.bool false) O O ?_
 refine ⟨congrArg Value.bool ?_,hF.same⟩
 unfold Rl
 first | (rw [decide_eq_true (by omega:Oc x≤4096)]; exact decide_eq_decide.2 U) | (rw [decide_eq_false (by omega:¬Oc x≤4096)]; rfl)
theorem N8 (x:Tree) (hsz:Oc x≤1000000000) (S:Nat→Prop) (w0:World) (cs:List Value) (hR:Rep S w0 (Vc x) cs) (hk:U4 x) (hG:Gl w0):Calls prog 28 #[.agg cs.toArray] w0 (De fun v w'=>v=.bool (Je x)∧Same [] w0 w'):=by
 have hl:cs.length=4:=hR.length.trans (Dd x)
 have ho:=hR.one_
 refine Ka func28 O ntmps28 Kb (Sc _) ?_
 have hF:=FR.start w0 []
 refine Ia ?_
 refine Io (v:=.agg (List.toArray cs)) (cs:=(List.toArray cs)) hF O O ?_
 clear hF; rintro b1 w hb1 hF -
 refine Ca (Hc O) (Bc (Ja (v:=.agg (List.toArray cs)) (Fc (l:=cs) isAgg27 sizeOf27 O hl (hF.cellsAll 0 O)) ?_))
 refine Jb hF (OG x hsz S _ cs (hF.rep hR)) (Cb EU O O) ?_
 clear hF; intro w hF
 refine Ca (Jc O) ?_
 refine Jf (d:=5) O (fun hg0=>?_) (fun hg0=>?_)
 refine Ja (v:=.agg (List.toArray cs)) (Fc (l:=cs) isAgg27 sizeOf27 O hl (hF.cellsAll 0 O)) ?_
 refine Jb hF (VJ rnodeB CT x S _ cs (hF.rep hR) hk (hG.ext hF.same)) (Vb QP O O O) ?_
 clear hF; intro w hF
 refine Ca (Ic O O) (Ca (Hc O) (Ea ?_))
 refine Td (v:=.bool _) O O ?_
 exact ⟨congrArg Value.bool (by unfold Je; simp_all),hF.same⟩
 refine Da (Da (Ca (Gc O O) (Ca (Hc O) (Ea ?_))))
 refine Td (v:=.bool false) O O ?_
 exact ⟨congrArg Value.bool (by unfold Je; simp_all),hF.same⟩
theorem IV (x:Tree) (hsz:Oc x≤1000000000) (S:Nat→Prop) (w0:World) (cs:List Value) (hR:Rep S w0 (Vc x) cs) (hk:U4 x) (hG:Gl w0):Calls prog 72 #[.agg cs.toArray] w0 (De fun v w'=>v=.bool (Tj x)∧Same [] w0 w'):=by
 have hl:cs.length=4:=hR.length.trans (Dd x)
 have ho:=hR.one_
 refine Ka func72 O ntmps72 Kb (Sc _) ?_
 have hF:=FR.start w0 []
 refine Ia ?_
 refine Io (v:=.agg (List.toArray cs)) (cs:=(List.toArray cs)) hF O O ?_
 clear hF; rintro b1 w hb1 hF -
 refine Ca (Hc O) (Bc (Ja (v:=.agg (List.toArray cs)) (Fc (l:=cs) isAgg27 sizeOf27 O hl (hF.cellsAll 0 O)) ?_))
 refine Jb hF (OG x hsz S _ cs (hF.rep hR)) (Cb EU O O) ?_
 clear hF; intro w hF
 refine Ca (Jc O) ?_
 refine Jf (d:=5) O (fun hg0=>?_) (fun hg0=>?_)
 refine Ja (v:=.agg (List.toArray cs)) (Fc (l:=cs) isAgg27 sizeOf27 O hl (hF.cellsAll 0 O)) ?_
 refine Jb hF (BJ nodeB AO x S _ cs (hF.rep hR) hk (hG.ext hF.same)) (Vb QP O O O) ?_
 clear hF; intro w hF
 refine Ca (Ic O O) (Ca (Hc O) (Ea ?_))
 refine Td (v:=.bool _) O O ?_
 exact ⟨congrArg Value.bool (by unfold Tj; simp_all),hF.same⟩
 refine Da (Da (Ca (Gc O O) (Ca (Hc O) (Ea ?_))))
 refine Td (v:=.bool false) O O ?_
 exact ⟨congrArg Value.bool (by unfold Tj; simp_all),hF.same⟩
end Go.Scarf
