/- A part of the proof. -/
import Derived.Test.YthnkjgpjdbdchaaGreatDoorM10
set_option linter.all false
set_option maxHeartbeats 8000000
set_option maxRecDepth 10000
namespace Go.Scarf
open Go.RowKit Go.Proofs Go.Proofs.Tryz
theorem FR.boxM{w0 w w1:World}{Ds i:List Nat}{bs_ sm pre post:List (Nat × Obj)}{pb:Nat}{RV:Value}{cfs:List Cf}(hF:FR w0 Ds bs_ w)(hM:Mx i w1 sm pb RV cfs)(hsp:Spl bs_ pre sm post:=by repeat (first|exact Spl.z|apply Spl.c|apply Spl.a)):w.cell? ⟨pb,0,none⟩=some RV:=by
  obtain⟨A,c,sl,vals,rfl,-,-⟩:=hM.ex;have h:=hF.hh hsp _ List.mem_cons_self;rw[Yb h 0];rfl
theorem rv_is{S:Nat->Prop}{w:World}{rl:List Rl}{RV:Value}(h:Rep S w (X0 rl) [RV]):∃A c,RV=.slice A rl.length c:=by
  obtain⟨A,c,e⟩:=Rep.slice_is h;rw[rQ]at e;exact⟨A,c,e⟩
theorem RM{path:List Str}:¬(Tr [] path).isSome=true:=by rw[L4];simp
theorem arr_gap{rl:List Rl}{f:List Str->Nat->Option Tree->Option Tree->Option Tree->Mo}{path:List Str}{n:Nat}{b l r:Tree}(h:¬(Tr rl path).isSome=true\/allK ((Tr rl path).getD []) b l r=false):Ql rl f path n b l r=Ql.gapM f path n b l r:=by
  unfold Ql;cases hk:Tr rl path with
  | none=>rfl
  | some key=>rw[hk]at h;simp only[Option.getD_some,Option.isSome_some,not_true_eq_false,false_or]at h ⊢;rw[if_neg (by rw[h];decide)]
theorem WY(F:Nat)(hat:AtC [] F):MtC 55 [] F 5 (Ql [] (Yg [] F)):=by
 intro i w0 sm pb RV cfs path PA pc b l r x y z hI h5b h5l h5r hne hdp hpn;obtain⟨S,hSo,hT⟩:=hI.tri;obtain⟨SP,hPo,hP⟩:=hI.pth;obtain⟨SR,hRo,hRR⟩:=hI.rul;obtain⟨rA,rc,rfl⟩:=rv_is hRR;obtain⟨hx,hy,hz⟩:=Jr hT;have htb:=hI.tb b rfl;have htl:=hI.tl l rfl;have htr:=hI.tr r rfl;have hbt:=(Me hx).2.2.2.2;have hlt:=(Me hy).2.2.2.2;have hrt:=(Me hz).2.2.2.2;simp only[Sm]at hbt hlt hrt;refine Ga func55 O ntmps55 Ib (Qm _ _ _) ?_;have hF:FR w0 (ids sm) ([]++(sm++[])) w0:=hI.mi.start;refine Ia (Bf hF O ?_);rintro b1 w hb1 hF -;refine Td (cs:=#[.bool false,J 0,I [],aQ,aQ]) hF oX O ?_;rintro b2 w hb2 hF -;refine Lc (Ca (Ze O) (Ca (Xh O) (Ca (Bc fa_62_0 O) (Ma (v:=.slice rA 0 rc) (Pb isAgg26 O (hF.boxM hI.mi.m)) (Ca (Je O) ?_)))));refine Hb hF (PW rA rc PA path.length pc _) (Xa en_87 O O O) ?_;intro w hF;refine Ca (So O) (Ca (ZP O O) (Ca (Tq O O) (Ca (Cn O) (Ca (Jc O) (Ea (Ja ?_))))));refine Mj (λσ w=>(Ql [] (Yg [] F) path cfs.length b l r=Ql.gapM (Yg [] F) path cfs.length b l r)/\AllEq σ [(0,V pb),(1,.slice PA path.length pc),(5,V b1),(6,V b2)]/\FR w0 (ids sm) ([(b2,.cells #[.bool false,J 0,I [],aQ,aQ] 39),(b1,.cells ((th x y z)).toArray 66)]++(sm++[])) w) ?_ ?_;refine Ia (Ca (Hd O) (Ca (Hd O) (Ka (Ka (Ka (Ka (Ka (Ka (Ka (Ka (Ka (Ka ?_))))))))))));refine Ka (Ka (Ca (Ld O O) (Ea (Bg O (Va ?_)))));exact Cc ⟨(arr_gap (.inl RM)),Uu,hF⟩;rintro σ w ⟨hno,hs,hF⟩;refine Eg.slots hs ?_;clear hs;intro σ;refine Ha (Ia (Ca (Bc Jo O) (Ca (Bc Ge O) (Ma (v:=.agg (x.v.cells).toArray) (Ya (l:=x.v.cells) zQ oZ O O (hF.part 1 1 O O)) (Ca (Bc Wp O) (Ca (Bc Ge O) (Ma (v:=.agg (y.v.cells).toArray) (Ya (l:=y.v.cells) zQ oZ O O (hF.part 1 6 O O)) ?_)))))));by_cases hel:Li b.items=0/\Li l.items=0;refine Db (Z_ b l x.v y.v _ _ _ (hI.g.same hF.same hI.off) (hF.repM hSo hbt) (hF.repM hSo hlt) htb htl hel.1 hel.2) (Xa AD O O O) ?_
 rintro _ w ⟨ql,hB0,he0,rfl,hR1,hR2,hE⟩;have hG0:=RX.made (ids:=([b2,b1]++i)) hF.same.size (hF.ltD hI.mi.low Da) hR1;have hM0:=RX.made (ids:=([b2,b1]++i)) hF.same.size (hF.ltD hI.mi.low Da) hR2;have hF:=hF.ext hE;clear hE hR1 hR2;refine Ca (So O) (Ca (Zz O O) (Ca (Tq O O) ?_));refine Qg hF lX iZ O ?_;intro b3 w hb3 hF hE;have hG0:=hG0.alloc hE hb3;have hM0:=hM0.alloc hE hb3;refine Ca (Jc O) (Lc (Ca (Bc Jo O) (Ca (Bc Ge O) (Ma (v:=.agg (x.v.cells).toArray) (Ya (l:=x.v.cells) zQ oZ O O (hF.part 2 1 O O)) (Ca (Bc Up O) (Ca (Bc Ge O) (Ma (v:=.agg (z.v.cells).toArray) (Ya (l:=z.v.cells) zQ oZ O O (hF.part 2 11 O O)) ?_)))))));by_cases her:Li b.items=0/\Li r.items=0;refine Db (Z_ b r x.v z.v _ _ _ (hI.g.same hF.same hI.off) (hF.repM hSo hbt) (hF.repM hSo hrt) htb htr her.1 her.2) (Xa AD O O O) ?_;rintro _ w ⟨qr,hB1,he1,rfl,hR1,hR2,hE⟩;have hG1:=RX.made (ids:=([b3,b2,b1]++i)) hF.same.size (hF.ltD hI.mi.low Da) hR1;have hM1:=RX.made (ids:=([b3,b2,b1]++i)) hF.same.size (hF.ltD hI.mi.low Da) hR2;have hF:=hF.ext hE;have hG0:=hG0.ext hE;have hM0:=hM0.ext hE;clear hE hR1 hR2;refine Ca (So O) (Ca (Zz O O) (Ca (Tq O O) ?_));refine Qg hF lX iZ O ?_;intro b4 w hb4 hF hE;have hG0:=hG0.alloc hE hb4;have hM0:=hM0.alloc hE hb4;have hG1:=hG1.alloc hE hb4;have hM1:=hM1.alloc hE hb4;refine Ca (Jc O) (Ea (Ja (Ia (Ca (Hd O) (Ca (Fk (b:=true) O) (Ca (Hd O) (Ca (Hd O) (Ca (Fk (b:=true) O) (Ca (Ld O O) (Ea ?_))))))))));refine R5 O (Ia (Ca (Ze O) (Ca (Je O) (Ca (Bc Jo O) (Ca (Bc Ge O) (Ma (v:=.agg (x.v.cells).toArray) (Ya (l:=x.v.cells) zQ oZ O O (hF.part 3 1 O O)) (Sc (Of isAgg119 iZ O hF.F 1 O O) (Sc (Of isAgg119 iZ O hF.F 0 O O) ?_))))))));refine Db (gaps_c [] F hat ([b4,b3,b2,b1]++i) _ sm pb _ cfs path PA pc b l r x y z (Fe b.items l.items) (Fe b.items r.items) ql qr (New w0 ([b4,b3,b2,b1]++i) _) (New w0 ([b4,b3,b2,b1]++i) _) (hI.at hF (L:=[b4,b3,b2,b1]) Da) rfl rfl hB0 he0 hB1 he1 (Vf (by intro x hx;have:=hI.mi.sub x hx;simp[this])) (hG0.sub Da).rep (hM0.sub Da).rep (Vf (by intro x hx;have:=hI.mi.sub x hx;simp[this])) (hG1.sub Da).rep (hM1.sub Da).rep (Jx hel.1) (Jx hel.2) (Jx her.2) hdp hpn) (Ew en_91 rfl rfl rfl rfl rfl rfl) ?_
 rintro _ w2 ⟨sm2,q,rfl,hR,hO⟩;have hFa:=hF;clear hF;have hF:=hFa.swapM hO.m hO.hh hO.mc;refine Pf hF qZ O O D4 ?_;intro w hF hE;have hS2:Same [b4,b3,b2,b1] w2 w:=hE.mono Da;refine Ea (Ec (Dc (Ua (Ug O (l:=q.cells) O bZ qZ O (hF.cellsAll 2 O)) ?_)));exact Out.pass hI.mi hFa (by repeat (first|exact Spl.z|apply Spl.c|apply Spl.a)) hR hO hS2 Da hF (by repeat (first|exact Spl.z|apply Spl.c|apply Spl.a)) (by rw[hno];unfold Ql.gapM;rw[if_pos ⟨hel.1,hel.2,her.2⟩]);refine Db (QH b r x.v z.v _ _ _ (hI.g.same hF.same hI.off) (hF.repM hSo hbt) (hF.repM hSo hrt) htb htr her) (Xa AD O O O) ?_;rintro _ w ⟨rfl,hE⟩;have hF:=hF.ext hE;have hG0:=hG0.ext hE;have hM0:=hM0.ext hE;refine Ca (So O) (Ca (Zz O O) (Ca (Tq O O) ?_));refine Qg hF lX iZ O ?_;intro b5 w hb5 hF hE;have hG0:=hG0.alloc hE hb5;have hM0:=hM0.alloc hE hb5;refine Ca (Jc O) (Ea (Ja (Ia (Ca (Hd O) (Ca (Fk (b:=true) O) (Ca (Hd O) (Ca (Hd O) (Ca (Fk (b:=false) O) (Ca (Ld O O) (Ea ?_))))))))));refine Se O (Ia (Ca (Ze O) (Ca (Je O) (Sc (Of isAgg66 tZ O hF.F 3 O O) ?_))));refine Db (QI (hI.at hF (L:=[b5,b3,b2,b1]) Da) 1 tX tX) (Hk Mw O O O O O) ?_;rintro _ w2 ⟨sm2,q,rfl,hR,hO⟩;have hFa:=hF;clear hF;have hF:=hFa.swapM hO.m hO.hh hO.mc;refine Pf hF qZ O O D4 ?_;intro w hF hE;have hS2:Same [b5,b3,b2,b1] w2 w:=hE.mono Da;refine Ea (Ec (Dc (Ua (Ug O (l:=q.cells) O bZ qZ O (hF.cellsAll 2 O)) ?_)));exact Out.pass hI.mi hFa (by repeat (first|exact Spl.z|apply Spl.c|apply Spl.a)) hR hO hS2 Da hF (by repeat (first|exact Spl.z|apply Spl.c|apply Spl.a)) (by rw[hno];unfold Ql.gapM;rw[if_neg];simp_all);refine Hb hF (QH b l x.v y.v _ _ _ (hI.g.same hF.same hI.off) (hF.repM hSo hbt) (hF.repM hSo hlt) htb htl hel) (Xa AD O O O) ?_;intro w hF;refine Ca (So O) (Ca (Zz O O) (Ca (Tq O O) ?_));refine Qg hF lX iZ O ?_
 rintro b6 w hb6 hF -;refine Ca (Jc O) (Lc (Ca (Bc Jo O) (Ca (Bc Ge O) (Ma (v:=.agg (x.v.cells).toArray) (Ya (l:=x.v.cells) zQ oZ O O (hF.part 2 1 O O)) (Ca (Bc Up O) (Ca (Bc Ge O) (Ma (v:=.agg (z.v.cells).toArray) (Ya (l:=z.v.cells) zQ oZ O O (hF.part 2 11 O O)) ?_)))))));by_cases her:Li b.items=0/\Li r.items=0;refine Db (Z_ b r x.v z.v _ _ _ (hI.g.same hF.same hI.off) (hF.repM hSo hbt) (hF.repM hSo hrt) htb htr her.1 her.2) (Xa AD O O O) ?_;rintro _ w ⟨qr,hB1,he1,rfl,hR1,hR2,hE⟩;have hF:=hF.ext hE;clear hE hR1 hR2;refine Ca (So O) (Ca (Zz O O) (Ca (Tq O O) ?_));refine Qg hF lX iZ O ?_;rintro b7 w hb7 hF -;refine Ca (Jc O) (Ea (Ja (Ia (Ca (Hd O) (Ca (Fk (b:=false) O) (Ca (Hd O) (Ka (Ka (Ca (Kc O O) (Ea ?_))))))))));refine Se O (Ia (Ca (Ze O) (Ca (Je O) (Sc (Of isAgg66 tZ O hF.F 3 O O) ?_))));refine Db (QI (hI.at hF (L:=[b7,b6,b2,b1]) Da) 1 tX tX) (Hk Mw O O O O O) ?_;rintro _ w2 ⟨sm2,q,rfl,hR,hO⟩;have hFa:=hF;clear hF;have hF:=hFa.swapM hO.m hO.hh hO.mc;refine Pf hF qZ O O D4 ?_;intro w hF hE;have hS2:Same [b7,b6,b2,b1] w2 w:=hE.mono Da;refine Ea (Ec (Dc (Ua (Ug O (l:=q.cells) O bZ qZ O (hF.cellsAll 2 O)) ?_)));exact Out.pass hI.mi hFa (by repeat (first|exact Spl.z|apply Spl.c|apply Spl.a)) hR hO hS2 Da hF (by repeat (first|exact Spl.z|apply Spl.c|apply Spl.a)) (by rw[hno];unfold Ql.gapM;rw[if_neg];simp_all);refine Hb hF (QH b r x.v z.v _ _ _ (hI.g.same hF.same hI.off) (hF.repM hSo hbt) (hF.repM hSo hrt) htb htr her) (Xa AD O O O) ?_;intro w hF;refine Ca (So O) (Ca (Zz O O) (Ca (Tq O O) ?_));refine Qg hF lX iZ O ?_;rintro b8 w hb8 hF -;refine Ca (Jc O) (Ea (Ja (Ia (Ca (Hd O) (Ca (Fk (b:=false) O) (Ca (Hd O) (Ka (Ka (Ca (Kc O O) (Ea ?_))))))))));refine Se O (Ia (Ca (Ze O) (Ca (Je O) (Sc (Of isAgg66 tZ O hF.F 3 O O) ?_))));refine Db (QI (hI.at hF (L:=[b8,b6,b2,b1]) Da) 1 tX tX) (Hk Mw O O O O O) ?_
 rintro _ w2 ⟨sm2,q,rfl,hR,hO⟩;have hFa:=hF;clear hF;have hF:=hFa.swapM hO.m hO.hh hO.mc;refine Pf hF qZ O O D4 ?_;intro w hF hE;have hS2:Same [b8,b6,b2,b1] w2 w:=hE.mono Da;refine Ea (Ec (Dc (Ua (Ug O (l:=q.cells) O bZ qZ O (hF.cellsAll 2 O)) ?_)));exact Out.pass hI.mi hFa (by repeat (first|exact Spl.z|apply Spl.c|apply Spl.a)) hR hO hS2 Da hF (by repeat (first|exact Spl.z|apply Spl.c|apply Spl.a)) (by rw[hno];unfold Ql.gapM;rw[if_neg];simp_all)
theorem OB:∀F,AtC [] F
  | 0=>λi w0 sm pb RV cfs path PA pc b l r x y z _ h=>absurd h (Nat.not_lt_zero _)
  | F+1=>at_step [] F (PV [] F (OB F)) (WY F (OB F))
open Go.RowKit
def AllO(Q:Tree->Prop)(o:Option Tree):Prop:=∀x,o=some x->Q x
section
variable {Q:Tree->Prop}{f:Str->Nat->Mo}{n:Nat}{ks:List Str}{gl gr:Str->Option Tree}
theorem Q_(H:∀k n,(f k n).2.length<=Ni (gl k)+Ni (gr k))(HN:∀k n,n+Ni (gl k)+Ni (gr k)<1000->AllO Q (f k n).1):∀j,j<=ks.length->n+Np gl ks+Np gr ks<1000->∀z∈(Tg f n ks j).1,Q z.2
  | 0,_,_=>λz hz=>by cases hz
  | j + 1, hj, hb => by
    have h1:=Ku (n:=n) (ks:=ks) H j tX;have h2:=Bl gl (ks:=ks) (j:=j) tX;have h3:=Bl gr (ks:=ks) (j:=j) tX;have h4:=Mm gl ks (j+1);have h5:=Mm gr ks (j+1);rw[Tg];intro z hz;rcases mQ.1 hz with hz|hz
    ·exact Q_ H HN j tX hb z hz
    have hc := HN (ks.getD j []) (n + (Tg f n ks j).2.length) tX;generalize (f (ks.getD j []) (n+(Tg f n ks j).2.length)).1=o at hz hc;cases o with
    | none=>cases hz
    | some x=>rw[pQ.1 hz];exact hc x rfl
theorem DH(H:∀k n,Ni (f k n).1<=Ni (gl k)+Ni (gr k)):∀j,j<=ks.length->Kb ((Tg f n ks j).1.map (·.2))<=Np gl (ks.take j)+Np gr (ks.take j)
  | 0,_=>by simp[Tg,Kb]
  | j + 1, hj => by
    have ih:=DH H j tX;have h1:=H (ks.getD j []) (n+(Tg f n ks j).2.length);rw[Tg,jQ,Ee,Bl gl tX,Bl gr tX];have h2:∀o:Option Tree,Kb ((DB (ks.getD j []) o).map (·.2))=Ni o:=λo=>by cases o <;> simp[DB,Kb,Ni]
    rw[h2];omega
end
section
variable {Q:Tree->Prop}
theorem SI(hq:∀i,i<1000->Q (Yn i)){p:List Str}{g n:Nat}{xs ys:List Tree}(hx:∀z∈xs,Q z)(hy:∀z∈ys,Q z)(hn:n+Kb xs+Kb ys<=1000):∀z∈(Ii p g n xs ys).1,Q z:=by
  unfold Ii;split
  ·exact hy
  rename_i h
  split
  ·exact hx
  have := Uh xs;intro z hz;rw[pQ.1 hz];exact hq _ tX
theorem XI(hq:∀i,i<1000->Q (Yn i)){f:Fm}{p:List Str}{n:Nat}{base:List Tree}{x y:By}(hx:∀z∈x.items,Q z)(hy:∀z∈y.items,Q z)
    (H:∀s n k,(f (p++[s]) n base[k]? (x.item k) (y.item k)).2.length<=Ni (x.item k)+Ni (y.item k))
    (HN:∀s n k,k<base.length->n+Ni (x.item k)+Ni (y.item k)<1000->AllO Q (f (p++[s]) n base[k]? (x.item k) (y.item k)).1):∀j,j<=base.length->n+wG x j+wG y j<1000->∀z∈(If f p n base x y j).1,Q z
  | 0,_,_=>λz hz=>by cases hz
  | j + 1, hj, hb => by
    have h1:=Xr (n:=n) H j;rw[wG,wG]at hb;have h2:=Hx p j (n+(If f p n base x y j).2.length) (x.put j) (y.put j);rw[If];intro z hz;rcases mQ.1 hz with hz|hz
    ·rcases mQ.1 hz with hz|hz
     ·exact XI hq hx hy H HN j tX tX z hz
     exact SI hq (λw hw=>hx w (Om hw)) (λw hw=>hy w (Om hw)) tX z hz
    have hc := HN (Lib.itoa j) (n + ((If f p n base x y j).2 ++ (Ii p j (n + (If f p n base x y j).2.length) (x.put j) (y.put j)).2).length) j tX (by rw[dQ];omega);generalize (f (p++[Lib.itoa j]) (n+((If f p n base x y j).2++(Ii p j (n+(If f p n base x y j).2.length) (x.put j) (y.put j)).2).length) base[j]? (x.item j) (y.item j)).1=o at hz hc;cases o with
    | none=>cases hz
    | some v=>rw[pQ.1 hz];exact hc v rfl
theorem RW{a:List (Str × Tree)}(h:∀z∈a,Q z.2){id:Str}(hm:id∈a.map (·.1)):Q (Yq a id):=by
  obtain⟨y,hy⟩:=R3 (ks:=a.map (·.1)) (xs:=a.map (·.2)) Da hm;unfold Yq;rw[hy,Option.getD_some];obtain⟨z,hz,rfl⟩:=nQ.1 (Sn hy);exact h z hz
end
theorem GT(p:List Str)(g n:Nat)(xs ys:List Tree):Kb (Ii p g n xs ys).1<=Kb xs+Kb ys:=by
  unfold Ii;split
  ·show Kb ys<=_;omega
  rename_i h
  split
  ·show Kb xs<=_;omega
  have := Uh xs;show Kb [Yn n]<=_;simp only[Yn,Kb,Mb];omega
theorem UR{f:Fm}{p:List Str}{n:Nat}{base:List Tree}{x y:By}(H:∀s n k,Ni (f (p++[s]) n base[k]? (x.item k) (y.item k)).1<=Ni (x.item k)+Ni (y.item k)):∀j,Kb (If f p n base x y j).1<=wG x j+wG y j
  | 0=>by simp[If,Kb]
  | j + 1 => by
    have ih:=UR (n:=n) H j;have h1:=GT p j (n+(If f p n base x y j).2.length) (x.put j) (y.put j);have h2:=H (Lib.itoa j) (n+((If f p n base x y j).2++(Ii p j (n+(If f p n base x y j).2.length) (x.put j) (y.put j)).2).length) j;have h3:∀o:Option Tree,Kb o.toList=Ni o:=λo=>by cases o <;> simp[Kb,Ni]
    rw[If,Ee,Ee,h3,wG,wG];omega
theorem Cw{p:List Str}{cls:Int}{n:Nat}{b l r:Option Tree}(h:¬Vh l r=true):Ni (Wq p cls n b l r).1<=Ni l+Ni r:=by
  have h1:=Iq (p:=p) (cls:=cls) (n:=n) (b:=b) h;have h2:Ni (Wq p cls n b l r).1=1:=by simp[Wq,Yn,Ni,Mb,Kb]
  simp only[Wq,kQ,List.length_nil]at h1;omega
theorem Nn(v:Tree):Kb v.items+1<=Mb v:=by cases v;rw[Mb];simp only[Tree.items];omega
theorem atM_sz{rl:List Rl}:∀(F:Nat)(p:List Str)(n:Nat)(b l r:Option Tree),Ni (Yg rl F p n b l r).1<=Ni l+Ni r:=by
  intro F
  induction F with
  | zero=>intro p n b l r;simp[Yg]
  | succ F ih =>
    intro p n b l r;rw[Yg];split
    ·show Ni l<=_;omega
    rename_i c1
    split
    ·show Ni r<=_;omega
    split
    ·show Ni l<=_;omega
    cases b with
    | none=>exact Cw c1
    | some x =>
      cases l with
      | none=>exact Cw c1
      | some y =>
        cases r with
        | none=>exact Cw c1
        | some z =>
          simp only[Et];split
          ·split
           ·have h1 := DH (n := n) (λk n => ih (p ++ [k]) n (Rb x k) (Rb y k) (Rb z k)) (Te [y.keys, z.keys]).length (gQ _)
            rw[List.take_length]at h1;have h2:=Bq (Ig [y.keys,z.keys]) y;have h3:=Bq (Ig [y.keys,z.keys]) z;unfold BB;simp only[Ni,Mb];omega
           split
           ·have hgap:Ni (Ql.gapM (Yg rl F) p n x y z).1<=Ni (some y)+Ni (some z):=by
              unfold Ql.gapM;split
              ·unfold Nw
               have h1:=UR (n:=n) (base:=x.items) (x:=Fe x.items y.items) (y:=Fe x.items z.items) (λs n k=>ih (p++[s]) n _ _ _) x.items.length;have h2:=GT p x.items.length (n+(If (Yg rl F) p n x.items (Fe x.items y.items) (Fe x.items z.items) x.items.length).2.length) ((Fe x.items y.items).put x.items.length) ((Fe x.items z.items).put x.items.length);have h3:=Vk x.items y.items x.items.length (gQ _);have h4:=Vk x.items z.items x.items.length (gQ _);rw[if_pos rfl]at h3 h4;have h6:=Nn y;have h7:=Nn z;simp only[Ni,Mb,Ee];omega
              exact Cw c1
            rw[Ql];cases Tr rl p with
            | none=>exact hgap
            | some key =>
              simp only;split
              ·have h1 := DH (n := n) (λk n => ih (p ++ [X8 k]) n (Lg x key k) (Lg y key k) (Lg z key k)) (Te [Wi y key, Wi z key]).length (gQ _)
               rw[List.take_length]at h1;have hnd:=Ig [Wi y key,Wi z key];have h2:=Pq hnd y key;have h3:=Pq hnd z key;have hsub:=Ks (f:=λk m=>Yg rl F (p++[X8 k]) m (Lg x key k) (Lg y key k) (Lg z key k)) (n:=n) (ks:=Te [Wi y key,Wi z key]) _ (gQ _);rw[List.take_length]at hsub;unfold ZJ;simp only;split
               ·rename_i o ho
                have hp:=(OO ho).map (Yq (Tg (λk m=>Yg rl F (p++[X8 k]) m (Lg x key k) (Lg y key k) (Lg z key k)) n (Te [Wi y key,Wi z key]) (Te [Wi y key,Wi z key]).length).1);rw[CJ _ (hnd.sublist hsub)]at hp;have:=Kx hp;simp only[Ni,Mb];omega
               exact Cw c1
              exact hgap
           exact Cw c1
          exact Cw c1
def MaxO(M:Nat)(o:Option Tree):Prop:=AllO (λx=>Qd x<=M) o
theorem Ki{M:Nat}{x:Tree}(h:Qd x<=M):∀y∈x.items,Qd y<=M:=λy hy=>by
  cases x with
  | node k t ks xs =>
    have:=Ji (show y∈xs from hy);rw[Qd]at h;omega
theorem O2{M:Nat}{x:Tree}(h:Qd x<=M):∀k∈x.keys,k.length<=M:=λk hk=>by
  cases x with
  | node _ t ks xs =>
    have:=Nm (show k∈ks from hk);rw[Qd]at h;omega
theorem SB{M:Nat}(hM:20<=M){i:Nat}(h:i<1000):Qd (Yn i)<=M:=by
  have:=(CA h).2.2.2;simp only[Yn,Qd,Dm,Tj];omega
theorem VR{M:Nat}{k:Int}{xs:List Tree}(h:∀x∈xs,Qd x<=M):Qd (.node k [] [] xs)<=M:=by
  have:=Bu h;simp only[Qd,Dm,List.length_nil];omega
theorem max_obj{M:Nat}{k:Int}{ks:List Str}{xs:List Tree}(h:∀x∈xs,Qd x<=M)(h2:∀s∈ks,s.length<=M):Qd (.node k [] ks xs)<=M:=by
  have:=Bu h;have:=Gy h2;simp only[Qd,List.length_nil];omega
theorem atM_max{rl:List Rl}{M:Nat}(hM:20<=M):∀(F:Nat)(p:List Str)(n:Nat)(b l r:Option Tree),MaxO M l->MaxO M r->n+Ni l+Ni r<1000->MaxO M (Yg rl F p n b l r).1:=by
  intro F
  induction F with
  | zero=>intro p n b l r hl _ _;exact hl
  | succ F ih =>
    intro p n b l r hl hr hn;have con:∀cls b l r,MaxO M (Wq p cls n b l r).1:=λcls b l r v hv=>by
      obtain rfl:=lQ hv;exact SB hM tX
    rw[Yg];split
    ·exact hl
    split
    ·exact hr
    split
    ·exact hl
    cases b with
    | none=>exact con _ _ _ _
    | some x =>
      cases l with
      | none=>exact con _ _ _ _
      | some y =>
        cases r with
        | none=>exact con _ _ _ _
        | some z =>
          have hy:=hl y rfl;have hz:=hr z rfl;simp only[Ni]at hn;simp only[Et];split
          ·split
           ·have hnd := Ig [y.keys, z.keys]
            have h1:=Bq hnd y;have h2:=Bq hnd z;have:=Q_ (Q:=λx=>Qd x<=M) (n:=n) (ks:=Te [y.keys,z.keys]) (λk n=>Zp F (p++[k]) n (Rb x k) (Rb y k) (Rb z k)) (λk n h=>ih (p++[k]) n _ _ _ (λw hw=>Ki hy w (Vp hw)) (λw hw=>Ki hz w (Vp hw)) h) _ (gQ _) tX;intro v hv;obtain rfl:=lQ hv;have hsub:=Ks (f:=λk m=>Yg rl F (p++[k]) m (Rb x k) (Rb y k) (Rb z k)) (n:=n) (ks:=Te [y.keys,z.keys]) _ (gQ _);rw[List.take_length]at hsub;refine max_obj (λu hu=>?_) λs hs=>?_
            ·obtain⟨q, hq, rfl⟩ := nQ.1 hu
             exact this q hq
            have hin : s ∈ Te [y.keys, z.keys] := hsub.subset hs;unfold Te at hin;rw[Gu]at hin;simp only[List.not_mem_nil,List.flatten_cons,List.flatten_nil,qQ,mQ,false_or]at hin;exact hin.elim (O2 hy s) (O2 hz s)
           split
           ·have hgap:MaxO M (Ql.gapM (Yg rl F) p n x y z).1:=by
              unfold Ql.gapM;split
              ·have s1 := Vk x.items y.items x.items.length (gQ _)
               have s2:=Vk x.items z.items x.items.length (gQ _);rw[if_pos rfl]at s1 s2;have h6:=Nn y;have h7:=Nn z;have hc:=Xr (n:=n) (base:=x.items) (x:=Fe x.items y.items) (y:=Fe x.items z.items) (λs n k=>Zp (rl:=rl) F (p++[s]) n _ _ _) x.items.length;intro v hv;obtain rfl:=lQ hv;refine VR λu hu=>?_;rcases mQ.1 hu with hu|hu
               ·exact XI (Q:=λx=>Qd x<=M) (λi hi=>SB hM hi) (x:=Fe x.items y.items) (y:=Fe x.items z.items) (Ki hy) (Ki hz) (λs n k=>Zp F (p++[s]) n _ _ _) (λs n k hk h=>ih (p++[s]) n _ _ _ (λw hw=>Ki hy w (Bv hw)) (λw hw=>Ki hz w (Bv hw)) h) _ (gQ _) tX u hu
               exact SI (Q:=λx=>Qd x<=M) (λi hi=>SB hM hi) (λw hw=>Ki hy w (Om hw)) (λw hw=>Ki hz w (Om hw)) tX u hu
              exact con _ _ _ _
            rw[Ql];cases Tr rl p with
            | none=>exact hgap
            | some key =>
              simp only;split
              ·have hnd := Ig [Wi y key, Wi z key]
               have h1:=Pq hnd y key;have h2:=Pq hnd z key;have:=Q_ (Q:=λx=>Qd x<=M) (n:=n) (ks:=Te [Wi y key,Wi z key]) (λk n=>Zp F (p++[X8 k]) n (Lg x key k) (Lg y key k) (Lg z key k)) (λk n h=>ih (p++[X8 k]) n _ _ _ (λw hw=>Ki hy w (Lu hw)) (λw hw=>Ki hz w (Lu hw)) h) _ (gQ _) tX;unfold ZJ;simp only;split
               ·rename_i o ho
                intro v hv;obtain rfl:=lQ hv;refine VR λu hu=>?_;obtain⟨q,hq,rfl⟩:=nQ.1 hu;exact RW (Q:=λx=>Qd x<=M) this (ND ho q hq)
               exact con _ _ _ _
              exact hgap
           exact con _ _ _ _
          exact con _ _ _ _
end Go.Scarf
