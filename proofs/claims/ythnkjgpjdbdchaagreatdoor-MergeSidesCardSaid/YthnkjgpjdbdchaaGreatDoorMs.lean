/- A part of the proof. -/
import Derived.Test.YthnkjgpjdbdchaaGreatDoorM5
set_option linter.all false
set_option maxHeartbeats 8000000
set_option maxRecDepth 10000
namespace Go.Scarf
open Go.RowKit
def AllO(Q:Tree->Prop)(o:Option Tree):Prop:=∀x,o=some x->Q x
section
variable {Q:Tree->Prop}{f:Str->Nat->Mo}{n:Nat}{ks:List Str}{gl gr:Str->Option Tree}
theorem Q8(H:∀k n,(f k n).2.length<=Mj (gl k)+Mj (gr k))(HN:∀k n,n+Mj (gl k)+Mj (gr k)<1000->AllO Q (f k n).1):∀j,j<=ks.length->n+Kq gl ks+Kq gr ks<1000->∀z∈(Zn f n ks j).1,Q z.2
  | 0,_,_=>λz hz=>by cases hz
  | j + 1, hj, hb => by
    have h1:=Tw (n:=n) (ks:=ks) H j sX;have h2:=Vn gl (ks:=ks) (j:=j) sX;have h3:=Vn gr (ks:=ks) (j:=j) sX;have h4:=Pq gl ks (j+1);have h5:=Pq gr ks (j+1);rw[Zn];intro z hz;rcases mQ.1 hz with hz|hz
    ·exact Q8 H HN j sX hb z hz
    have hc := HN (ks.getD j []) (n + (Zn f n ks j).2.length) sX;generalize (f (ks.getD j []) (n+(Zn f n ks j).2.length)).1=o at hz hc;cases o with
    | none=>cases hz
    | some x=>rw[pQ.1 hz];exact hc x rfl
theorem EE(H:∀k n,Mj (f k n).1<=Mj (gl k)+Mj (gr k)):∀j,j<=ks.length->Pb ((Zn f n ks j).1.map (·.2))<=Kq gl (ks.take j)+Kq gr (ks.take j)
  | 0,_=>by simp[Zn,Pb]
  | j + 1, hj => by
    have ih:=EE H j sX;have h1:=H (ks.getD j []) (n+(Zn f n ks j).2.length);rw[Zn,jQ,Be,Vn gl sX,Vn gr sX];have h2:∀o:Option Tree,Pb ((YU (ks.getD j []) o).map (·.2))=Mj o:=λo=>by cases o <;> simp[YU,Pb,Mj]
    rw[h2];omega
end
section
variable {Q:Tree->Prop}
theorem YI(hq:∀i,i<1000->Q (Mr i)){p:List Str}{g n:Nat}{xs ys:List Tree}(hx:∀z∈xs,Q z)(hy:∀z∈ys,Q z)(hn:n+Pb xs+Pb ys<=1000):∀z∈(Pm p g n xs ys).1,Q z:=by
  unfold Pm;split
  ·exact hy
  rename_i h
  split
  ·exact hx
  have := Ii xs;intro z hz;rw[pQ.1 hz];exact hq _ sX
theorem JK(hq:∀i,i<1000->Q (Mr i)){f:Fm}{p:List Str}{n:Nat}{base:List Tree}{x y:By}(hx:∀z∈x.items,Q z)(hy:∀z∈y.items,Q z)
    (H:∀s n k,(f (p++[s]) n base[k]? (x.item k) (y.item k)).2.length<=Mj (x.item k)+Mj (y.item k))
    (HN:∀s n k,k<base.length->n+Mj (x.item k)+Mj (y.item k)<1000->AllO Q (f (p++[s]) n base[k]? (x.item k) (y.item k)).1):∀j,j<=base.length->n+wG x j+wG y j<1000->∀z∈(Fj f p n base x y j).1,Q z
  | 0,_,_=>λz hz=>by cases hz
  | j + 1, hj, hb => by
    have h1:=Gw (n:=n) H j;rw[wG,wG]at hb;have h2:=I2 p j (n+(Fj f p n base x y j).2.length) (x.put j) (y.put j);rw[Fj];intro z hz;rcases mQ.1 hz with hz|hz
    ·rcases mQ.1 hz with hz|hz
     ·exact JK hq hx hy H HN j sX sX z hz
     exact YI hq (λw hw=>hx w (Zz hw)) (λw hw=>hy w (Zz hw)) sX z hz
    have hc := HN (Lib.itoa j) (n + ((Fj f p n base x y j).2 ++ (Pm p j (n + (Fj f p n base x y j).2.length) (x.put j) (y.put j)).2).length) j sX (by rw[dQ];omega);generalize (f (p++[Lib.itoa j]) (n+((Fj f p n base x y j).2++(Pm p j (n+(Fj f p n base x y j).2.length) (x.put j) (y.put j)).2).length) base[j]? (x.item j) (y.item j)).1=o at hz hc;cases o with
    | none=>cases hz
    | some v=>rw[pQ.1 hz];exact hc v rfl
theorem VT{a:List (Str × Tree)}(h:∀z∈a,Q z.2){id:Str}(hm:id∈a.map (·.1)):Q (G6 a id):=by
  obtain⟨y,hy⟩:=W9 (ks:=a.map (·.1)) (xs:=a.map (·.2)) Da hm;unfold G6;rw[hy,Option.getD_some];obtain⟨z,hz,rfl⟩:=nQ.1 (Xn hy);exact h z hz
end
theorem WQ(p:List Str)(g n:Nat)(xs ys:List Tree):Pb (Pm p g n xs ys).1<=Pb xs+Pb ys:=by
  unfold Pm;split
  ·show Pb ys<=_;omega
  rename_i h
  split
  ·show Pb xs<=_;omega
  have := Ii xs;show Pb [Mr n]<=_;simp only[Mr,Pb,Rb];omega
theorem QQ{f:Fm}{p:List Str}{n:Nat}{base:List Tree}{x y:By}(H:∀s n k,Mj (f (p++[s]) n base[k]? (x.item k) (y.item k)).1<=Mj (x.item k)+Mj (y.item k)):∀j,Pb (Fj f p n base x y j).1<=wG x j+wG y j
  | 0=>by simp[Fj,Pb]
  | j + 1 => by
    have ih:=QQ (n:=n) H j;have h1:=WQ p j (n+(Fj f p n base x y j).2.length) (x.put j) (y.put j);have h2:=H (Lib.itoa j) (n+((Fj f p n base x y j).2++(Pm p j (n+(Fj f p n base x y j).2.length) (x.put j) (y.put j)).2).length) j;have h3:∀o:Option Tree,Pb o.toList=Mj o:=λo=>by cases o <;> simp[Pb,Mj]
    rw[Fj,Be,Be,h3,wG,wG];omega
theorem Gu{p:List Str}{cls:Int}{n:Nat}{b l r:Option Tree}(h:¬Hl l r=true):Mj (Ww p cls n b l r).1<=Mj l+Mj r:=by
  have h1:=Rp (p:=p) (cls:=cls) (n:=n) (b:=b) h;have h2:Mj (Ww p cls n b l r).1=1:=by simp[Ww,Mr,Mj,Rb,Pb]
  simp only[Ww,kQ,List.length_nil]at h1;omega
theorem Yo(v:Tree):Pb v.items+1<=Rb v:=by cases v;rw[Rb];simp only[Tree.items];omega
theorem atM_sz{rl:List Rl}:∀(F:Nat)(p:List Str)(n:Nat)(b l r:Option Tree),Mj (Bk rl F p n b l r).1<=Mj l+Mj r:=by
  intro F
  induction F with
  | zero=>intro p n b l r;simp[Bk]
  | succ F ih =>
    intro p n b l r;rw[Bk];split
    ·show Mj l<=_;omega
    rename_i c1
    split
    ·show Mj r<=_;omega
    split
    ·show Mj l<=_;omega
    cases b with
    | none=>exact Gu c1
    | some x =>
      cases l with
      | none=>exact Gu c1
      | some y =>
        cases r with
        | none=>exact Gu c1
        | some z =>
          simp only[C2];split
          ·split
           ·have h1 := EE (n := n) (λk n => ih (p ++ [k]) n (Hf x k) (Hf y k) (Hf z k)) (Kg [y.keys, z.keys]).length (gQ _)
            rw[List.take_length]at h1;have h2:=Ms (Ai [y.keys,z.keys]) y;have h3:=Ms (Ai [y.keys,z.keys]) z;unfold DN;simp only[Mj,Rb];omega
           split
           ·have hgap:Mj (Bt.gapM (Bk rl F) p n x y z).1<=Mj (some y)+Mj (some z):=by
              unfold Bt.gapM;split
              ·unfold AC
               have h1:=QQ (n:=n) (base:=x.items) (x:=Ue x.items y.items) (y:=Ue x.items z.items) (λs n k=>ih (p++[s]) n _ _ _) x.items.length;have h2:=WQ p x.items.length (n+(Fj (Bk rl F) p n x.items (Ue x.items y.items) (Ue x.items z.items) x.items.length).2.length) ((Ue x.items y.items).put x.items.length) ((Ue x.items z.items).put x.items.length);have h3:=Rm x.items y.items x.items.length (gQ _);have h4:=Rm x.items z.items x.items.length (gQ _);rw[if_pos rfl]at h3 h4;have h6:=Yo y;have h7:=Yo z;simp only[Mj,Rb,Be];omega
              exact Gu c1
            rw[Bt];cases B2 rl p with
            | none=>exact hgap
            | some key =>
              simp only;split
              ·have h1 := EE (n := n) (λk n => ih (p ++ [WO k]) n (Oj x key k) (Oj y key k) (Oj z key k)) (Kg [Ek y key, Ek z key]).length (gQ _)
               rw[List.take_length]at h1;have hnd:=Ai [Ek y key,Ek z key];have h2:=Au hnd y key;have h3:=Au hnd z key;have hsub:=Xu (f:=λk m=>Bk rl F (p++[WO k]) m (Oj x key k) (Oj y key k) (Oj z key k)) (n:=n) (ks:=Kg [Ek y key,Ek z key]) _ (gQ _);rw[List.take_length]at hsub;unfold keyM;simp only;split
               ·rename_i o ho
                have hp:=(RP ho).map (G6 (Zn (λk m=>Bk rl F (p++[WO k]) m (Oj x key k) (Oj y key k) (Oj z key k)) n (Kg [Ek y key,Ek z key]) (Kg [Ek y key,Ek z key]).length).1);rw[LI _ (hnd.sublist hsub)]at hp;have:=Nw hp;simp only[Mj,Rb];omega
               exact Gu c1
              exact hgap
           exact Gu c1
          exact Gu c1
def MaxO(M:Nat)(o:Option Tree):Prop:=AllO (λx=>Nd x<=M) o
theorem Qi{M:Nat}{x:Tree}(h:Nd x<=M):∀y∈x.items,Nd y<=M:=λy hy=>by
  cases x with
  | node k t ks xs =>
    have:=Di (show y∈xs from hy);rw[Nd]at h;omega
theorem L0{M:Nat}{x:Tree}(h:Nd x<=M):∀k∈x.keys,k.length<=M:=λk hk=>by
  cases x with
  | node _ t ks xs =>
    have:=Em (show k∈ks from hk);rw[Nd]at h;omega
theorem I8{M:Nat}(hM:20<=M){i:Nat}(h:i<1000):Nd (Mr i)<=M:=by
  have:=(ZF h).2.2.2;simp only[Mr,Nd,Vk,Jj];omega
theorem DQ{M:Nat}{k:Int}{xs:List Tree}(h:∀x∈xs,Nd x<=M):Nd (.node k [] [] xs)<=M:=by
  have:=Bu h;simp only[Nd,Vk,List.length_nil];omega
theorem max_obj{M:Nat}{k:Int}{ks:List Str}{xs:List Tree}(h:∀x∈xs,Nd x<=M)(h2:∀s∈ks,s.length<=M):Nd (.node k [] ks xs)<=M:=by
  have:=Bu h;have:=Hx h2;simp only[Nd,List.length_nil];omega
theorem atM_max{rl:List Rl}{M:Nat}(hM:20<=M):∀(F:Nat)(p:List Str)(n:Nat)(b l r:Option Tree),MaxO M l->MaxO M r->n+Mj l+Mj r<1000->MaxO M (Bk rl F p n b l r).1:=by
  intro F
  induction F with
  | zero=>intro p n b l r hl _ _;exact hl
  | succ F ih =>
    intro p n b l r hl hr hn;have con:∀cls b l r,MaxO M (Ww p cls n b l r).1:=λcls b l r v hv=>by
      obtain rfl:=lQ hv;exact I8 hM sX
    rw[Bk];split
    ·exact hl
    split
    ·exact hr
    split
    ·exact hl
    cases b with
    | none=>exact con _ _ _ _
    | some x =>
      cases l with
      | none=>exact con _ _ _ _
      | some y =>
        cases r with
        | none=>exact con _ _ _ _
        | some z =>
          have hy:=hl y rfl;have hz:=hr z rfl;simp only[Mj]at hn;simp only[C2];split
          ·split
           ·have hnd := Ai [y.keys, z.keys]
            have h1:=Ms hnd y;have h2:=Ms hnd z;have:=Q8 (Q:=λx=>Nd x<=M) (n:=n) (ks:=Kg [y.keys,z.keys]) (λk n=>Vx F (p++[k]) n (Hf x k) (Hf y k) (Hf z k)) (λk n h=>ih (p++[k]) n _ _ _ (λw hw=>Qi hy w (E7 hw)) (λw hw=>Qi hz w (E7 hw)) h) _ (gQ _) sX;intro v hv;obtain rfl:=lQ hv;have hsub:=Xu (f:=λk m=>Bk rl F (p++[k]) m (Hf x k) (Hf y k) (Hf z k)) (n:=n) (ks:=Kg [y.keys,z.keys]) _ (gQ _);rw[List.take_length]at hsub;refine max_obj (λu hu=>?_) λs hs=>?_
            ·obtain⟨q, hq, rfl⟩ := nQ.1 hu
             exact this q hq
            have hin : s ∈ Kg [y.keys, z.keys] := hsub.subset hs;unfold Kg at hin;rw[C5]at hin;simp only[List.not_mem_nil,List.flatten_cons,List.flatten_nil,qQ,mQ,false_or]at hin;exact hin.elim (L0 hy s) (L0 hz s)
           split
           ·have hgap:MaxO M (Bt.gapM (Bk rl F) p n x y z).1:=by
              unfold Bt.gapM;split
              ·have s1 := Rm x.items y.items x.items.length (gQ _)
               have s2:=Rm x.items z.items x.items.length (gQ _);rw[if_pos rfl]at s1 s2;have h6:=Yo y;have h7:=Yo z;have hc:=Gw (n:=n) (base:=x.items) (x:=Ue x.items y.items) (y:=Ue x.items z.items) (λs n k=>Vx (rl:=rl) F (p++[s]) n _ _ _) x.items.length;intro v hv;obtain rfl:=lQ hv;refine DQ λu hu=>?_;rcases mQ.1 hu with hu|hu
               ·exact JK (Q:=λx=>Nd x<=M) (λi hi=>I8 hM hi) (x:=Ue x.items y.items) (y:=Ue x.items z.items) (Qi hy) (Qi hz) (λs n k=>Vx F (p++[s]) n _ _ _) (λs n k hk h=>ih (p++[s]) n _ _ _ (λw hw=>Qi hy w (MF hw)) (λw hw=>Qi hz w (MF hw)) h) _ (gQ _) sX u hu
               exact YI (Q:=λx=>Nd x<=M) (λi hi=>I8 hM hi) (λw hw=>Qi hy w (Zz hw)) (λw hw=>Qi hz w (Zz hw)) sX u hu
              exact con _ _ _ _
            rw[Bt];cases B2 rl p with
            | none=>exact hgap
            | some key =>
              simp only;split
              ·have hnd := Ai [Ek y key, Ek z key]
               have h1:=Au hnd y key;have h2:=Au hnd z key;have:=Q8 (Q:=λx=>Nd x<=M) (n:=n) (ks:=Kg [Ek y key,Ek z key]) (λk n=>Vx F (p++[WO k]) n (Oj x key k) (Oj y key k) (Oj z key k)) (λk n h=>ih (p++[WO k]) n _ _ _ (λw hw=>Qi hy w (S8 hw)) (λw hw=>Qi hz w (S8 hw)) h) _ (gQ _) sX;unfold keyM;simp only;split
               ·rename_i o ho
                intro v hv;obtain rfl:=lQ hv;refine DQ λu hu=>?_;obtain⟨q,hq,rfl⟩:=nQ.1 hu;exact VT (Q:=λx=>Nd x<=M) this (JV ho q hq)
               exact con _ _ _ _
              exact hgap
           exact con _ _ _ _
          exact con _ _ _ _
open Go.RowKit Go.Proofs Go.Proofs.Tryz
def AtA(rl:List Rl)(F:Nat)(b l r:Option Tree):Prop:=∀(i:List Nat)(w0:World)(sm:List (Nat × Obj))(pb:Nat)(RV:Value)(cfs:List Cf)(path:List Str)(PA:Option Addr)(pc:Nat)(x y z:Sv),
  In rl i w0 sm pb RV cfs path PA pc b l r x y z->Ko l<F->path.length+F<=900 ->
  Calls prog 27 #[V pb,.slice PA path.length pc,.agg (th x y z).toArray] w0 (Wd λv w'=>Out i w0 sm pb RV cfs (Bk rl F path cfs.length b l r) v w')
theorem AtC.at{rl:List Rl}{F:Nat}(h:AtC rl F){b l r:Option Tree}:AtA rl F b l r:=λi w0 sm pb RV cfs path PA pc x y z=>h i w0 sm pb RV cfs path PA pc b l r x y z
theorem Ev(rl:List Rl)(F:Nat)(b l r:Option Tree)(hsame:Hl l r=true\/Hl b l=true\/Hl b r=true):AtA rl (F+1) b l r:=by
 intro i w0 sm pb RV cfs path PA pc x y z hI hdp hpn;obtain⟨S,hSo,hT⟩:=hI.tri;obtain⟨hx,hy,hz⟩:=Ip hT;refine Fa func27 O ntmps27 Ib (Pk _ _ _) ?_;have hF:FR w0 (ids sm) ([]++(sm++[])) w0:=hI.mi.start;refine Ha (Qp (v:=V pb) (cs:=#[V pb]) hF O O ?_);rintro b1 w hb1 hF -;refine Qp (v:=.agg ((th x y z)).toArray) (cs:=((th x y z)).toArray) hF O O ?_;rintro b2 w hb2 hF -;refine Md (cs:=#[.bool false,J 0,I [],aQ,aQ]) hF oX O ?_;rintro b3 w hb3 hF -;refine Ea (Ja (Za (Ha (Ka (v:=.pointer (some ⟨b2,5,none⟩)) (Yd Tk O) (Ka (v:=.agg (y.cells).toArray) (Va (l:=y.cells) bZ qZ O O (hF.part 1 5 O O)) (Ka (v:=.pointer (some ⟨b2,10,none⟩)) (Yd Am O) (Ka (v:=.agg (z.cells).toArray) (Va (l:=z.cells) bZ qZ O O (hF.part 1 10 O O)) ?_)))))));refine Hb hF (Lg (Wt (Jl l) (Jl r) y z _ _ _ (hF.repM hSo hy) (hF.repM hSo hz) hI.tl.ok hI.tr.ok (hI.g.same hF.same hI.off)) (congrArg Value.bool (Xx hI.tl hI.tr))) (Ya CD O O O) ?_;intro w hF;refine D9 (Ea ?_);refine X2 (d:=9) (b:=Hl l r) O (λhc0=>?_) (λhc0=>?_);refine Le O (Ha (Ka (v:=.pointer (some ⟨b2,5,none⟩)) (Yd Tk O) (Ka (v:=.agg (y.cells).toArray) (Va (l:=y.cells) bZ qZ O O (hF.part 1 5 O O)) ?_)));refine Fb (Kk (Jl l) y _ _ (hF.repM hSo hy) hI.tl.ok (hI.g.same hF.same hI.off)) (Ra Pv O O) ?_;rintro _ w ⟨q,rfl,hRt,hE⟩;rw[Pu hI.tl]at hRt;have hQ:=RX.made (ids:=[b3,b2,b1]++i) hF.same.size (hF.ltD hI.mi.low Da) hRt;have hF:=hF.ext hE;clear hE hRt;refine Of 0 (l:=[.bool (q.h),J (q.v.k),I (q.v.t),.slice q.v.A q.v.n q.v.c,.slice q.v.B q.v.m q.v.e]) (cs':=(q.cells).toArray) hF qZ O (v:=.agg (q.cells).toArray) O O Re O Ib O ?_;intro w hF hE;have hQ:=hQ.store hE (by grind);have hF:FR w0 (ids sm) ([(b3,.cells (q.cells).toArray 39),(b2,.cells ((th x y z)).toArray 66),(b1,.cells #[V pb] 60)]++(sm++[])) w:=hF;refine Ea (Cc (Bc (Ua (Uf O (l:=q.cells) O bZ qZ O (hF.cellsAll 0 O)) ?_)))
 rw[at_l hc0];exact Out.keep hI.mi hF hQ;refine Bg O (Ha (Ka (v:=V b2) (Yd Gm O) (Ka (v:=.agg (x.cells).toArray) (Va (l:=x.cells) bZ qZ O O (hF.part 1 0 O O)) (Ka (v:=.pointer (some ⟨b2,5,none⟩)) (Yd Tk O) (Ka (v:=.agg (y.cells).toArray) (Va (l:=y.cells) bZ qZ O O (hF.part 1 5 O O)) ?_)))));refine Hb hF (Lg (Wt (Jl b) (Jl l) x y _ _ _ (hF.repM hSo hx) (hF.repM hSo hy) hI.tb.ok hI.tl.ok (hI.g.same hF.same hI.off)) (congrArg Value.bool (Xx hI.tb hI.tl))) (Ya CD O O O) ?_;intro w hF;refine D9 (Ea ?_);refine X2 (d:=18) (b:=Hl b l) O (λhc1=>?_) (λhc1=>?_);refine Le O (Ha (Ka (v:=.pointer (some ⟨b2,10,none⟩)) (Yd Am O) (Ka (v:=.agg (z.cells).toArray) (Va (l:=z.cells) bZ qZ O O (hF.part 1 10 O O)) ?_)));refine Fb (Kk (Jl r) z _ _ (hF.repM hSo hz) hI.tr.ok (hI.g.same hF.same hI.off)) (Ra Pv O O) ?_;rintro _ w ⟨q,rfl,hRt,hE⟩;rw[Pu hI.tr]at hRt;have hQ:=RX.made (ids:=[b3,b2,b1]++i) hF.same.size (hF.ltD hI.mi.low Da) hRt;have hF:=hF.ext hE;clear hE hRt;refine Of 0 (l:=[.bool (q.h),J (q.v.k),I (q.v.t),.slice q.v.A q.v.n q.v.c,.slice q.v.B q.v.m q.v.e]) (cs':=(q.cells).toArray) hF qZ O (v:=.agg (q.cells).toArray) O O Re O Ib O ?_;intro w hF hE;have hQ:=hQ.store hE (by grind);have hF:FR w0 (ids sm) ([(b3,.cells (q.cells).toArray 39),(b2,.cells ((th x y z)).toArray 66),(b1,.cells #[V pb] 60)]++(sm++[])) w:=hF;refine Ea (Cc (Bc (Ua (Uf O (l:=q.cells) O bZ qZ O (hF.cellsAll 0 O)) ?_)));rw[at_r (by rw[hc0];simp) hc1];exact Out.keep hI.mi hF hQ;refine Bg O (Ha (Ka (v:=V b2) (Yd Gm O) (Ka (v:=.agg (x.cells).toArray) (Va (l:=x.cells) bZ qZ O O (hF.part 1 0 O O)) (Ka (v:=.pointer (some ⟨b2,10,none⟩)) (Yd Am O) (Ka (v:=.agg (z.cells).toArray) (Va (l:=z.cells) bZ qZ O O (hF.part 1 10 O O)) ?_)))));refine Hb hF (Lg (Wt (Jl b) (Jl r) x z _ _ _ (hF.repM hSo hx) (hF.repM hSo hz) hI.tb.ok hI.tr.ok (hI.g.same hF.same hI.off)) (congrArg Value.bool (Xx hI.tb hI.tr))) (Ya CD O O O) ?_
 intro w hF;refine D9 (Ea ?_);refine X2 (d:=27) (b:=Hl b r) O (λhc2=>?_) (λhc2=>?_);refine Le O (Ha (Ka (v:=.pointer (some ⟨b2,5,none⟩)) (Yd Tk O) (Ka (v:=.agg (y.cells).toArray) (Va (l:=y.cells) bZ qZ O O (hF.part 1 5 O O)) ?_)));refine Fb (Kk (Jl l) y _ _ (hF.repM hSo hy) hI.tl.ok (hI.g.same hF.same hI.off)) (Ra Pv O O) ?_;rintro _ w ⟨q,rfl,hRt,hE⟩;rw[Pu hI.tl]at hRt;have hQ:=RX.made (ids:=[b3,b2,b1]++i) hF.same.size (hF.ltD hI.mi.low Da) hRt;have hF:=hF.ext hE;clear hE hRt;refine Of 0 (l:=[.bool (q.h),J (q.v.k),I (q.v.t),.slice q.v.A q.v.n q.v.c,.slice q.v.B q.v.m q.v.e]) (cs':=(q.cells).toArray) hF qZ O (v:=.agg (q.cells).toArray) O O Re O Ib O ?_;intro w hF hE;have hQ:=hQ.store hE (by grind);have hF:FR w0 (ids sm) ([(b3,.cells (q.cells).toArray 39),(b2,.cells ((th x y z)).toArray 66),(b1,.cells #[V pb] 60)]++(sm++[])) w:=hF;refine Ea (Cc (Bc (Ua (Uf O (l:=q.cells) O bZ qZ O (hF.cellsAll 0 O)) ?_)));rw[at_b (by rw[hc0];simp) (by rw[hc1];simp) hc2];exact Out.keep hI.mi hF hQ;exact absurd hsame (by rw[hc0,hc1,hc2];simp)
end Go.Scarf
