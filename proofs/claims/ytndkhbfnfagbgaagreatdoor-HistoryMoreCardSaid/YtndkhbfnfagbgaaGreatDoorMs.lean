/- A part of the proof. -/
import Derived.Test.YtndkhbfnfagbgaaGreatDoorHm
set_option linter.all false
set_option maxHeartbeats 8000000
set_option maxRecDepth 10000
namespace Go.Scarf
open Go.RowKit
def AllO(Q:Tree->Prop)(o:Option Tree):Prop:=∀x,o=some x->Q x
section
variable {Q:Tree->Prop}{f:Str->Nat->Mo}{n:Nat}{ks:List Str}{gl gr:Str->Option Tree}
theorem H7(H:∀k n,(f k n).2.length<=Vi (gl k)+Vi (gr k))(HN:∀k n,n+Vi (gl k)+Vi (gr k)<1000->AllO Q (f k n).1):∀j,j<=ks.length->n+Up gl ks+Up gr ks<1000->∀z∈(Gn f n ks j).1,Q z.2
  | 0,_,_=>λz hz=>by cases hz
  | j + 1, hj, hb => by
    have h1:=Gw (n:=n) (ks:=ks) H j sX;have h2:=En gl (ks:=ks) (j:=j) sX;have h3:=En gr (ks:=ks) (j:=j) sX;have h4:=Cq gl ks (j+1);have h5:=Cq gr ks (j+1);rw[Gn];intro z hz;rcases mQ.1 hz with hz|hz
    ·exact H7 H HN j sX hb z hz
    have hc := HN (ks.getD j []) (n + (Gn f n ks j).2.length) sX;generalize (f (ks.getD j []) (n+(Gn f n ks j).2.length)).1=o at hz hc;cases o with
    | none=>cases hz
    | some x=>rw[pQ.1 hz];exact hc x rfl
theorem HE(H:∀k n,Vi (f k n).1<=Vi (gl k)+Vi (gr k)):∀j,j<=ks.length->Rb ((Gn f n ks j).1.map (·.2))<=Up gl (ks.take j)+Up gr (ks.take j)
  | 0,_=>by simp[Gn,Rb]
  | j + 1, hj => by
    have ih:=HE H j sX;have h1:=H (ks.getD j []) (n+(Gn f n ks j).2.length);rw[Gn,jQ,Qe,En gl sX,En gr sX];have h2:∀o:Option Tree,Rb ((AW (ks.getD j []) o).map (·.2))=Vi o:=λo=>by cases o <;> simp[AW,Rb,Vi]
    rw[h2];omega
end
section
variable {Q:Tree->Prop}
theorem PG(hq:∀i,i<1000->Q (Lv i)){p:List Str}{g n:Nat}{xs ys:List Tree}(hx:∀z∈xs,Q z)(hy:∀z∈ys,Q z)(hn:n+Rb xs+Rb ys<=1000):∀z∈(Gm p g n xs ys).1,Q z:=by
  unfold Gm;split
  ·exact hy
  rename_i h
  split
  ·exact hx
  have := Mj xs;intro z hz;rw[pQ.1 hz];exact hq _ sX
theorem DH(hq:∀i,i<1000->Q (Lv i)){f:Fm}{p:List Str}{n:Nat}{base:List Tree}{x y:By}(hx:∀z∈x.items,Q z)(hy:∀z∈y.items,Q z)
    (H:∀s n k,(f (p++[s]) n base[k]? (x.item k) (y.item k)).2.length<=Vi (x.item k)+Vi (y.item k))
    (HN:∀s n k,k<base.length->n+Vi (x.item k)+Vi (y.item k)<1000->AllO Q (f (p++[s]) n base[k]? (x.item k) (y.item k)).1):∀j,j<=base.length->n+wG x j+wG y j<1000->∀z∈(Ii f p n base x y j).1,Q z
  | 0,_,_=>λz hz=>by cases hz
  | j + 1, hj, hb => by
    have h1:=Fx (n:=n) H j;rw[wG,wG]at hb;have h2:=Y2 p j (n+(Ii f p n base x y j).2.length) (x.put j) (y.put j);rw[Ii];intro z hz;rcases mQ.1 hz with hz|hz
    ·rcases mQ.1 hz with hz|hz
     ·exact DH hq hx hy H HN j sX sX z hz
     exact PG hq (λw hw=>hx w (R1 hw)) (λw hw=>hy w (R1 hw)) sX z hz
    have hc := HN (Lib.itoa j) (n + ((Ii f p n base x y j).2 ++ (Gm p j (n + (Ii f p n base x y j).2.length) (x.put j) (y.put j)).2).length) j sX (by rw[dQ];omega);generalize (f (p++[Lib.itoa j]) (n+((Ii f p n base x y j).2++(Gm p j (n+(Ii f p n base x y j).2.length) (x.put j) (y.put j)).2).length) base[j]? (x.item j) (y.item j)).1=o at hz hc;cases o with
    | none=>cases hz
    | some v=>rw[pQ.1 hz];exact hc v rfl
theorem XT{a:List (Str × Tree)}(h:∀z∈a,Q z.2){id:Str}(hm:id∈a.map (·.1)):Q (Q5 a id):=by
  obtain⟨y,hy⟩:=BX (ks:=a.map (·.1)) (xs:=a.map (·.2)) Da hm;unfold Q5;rw[hy,Option.getD_some];obtain⟨z,hz,rfl⟩:=nQ.1 (Dy hy);exact h z hz
end
theorem DR(p:List Str)(g n:Nat)(xs ys:List Tree):Rb (Gm p g n xs ys).1<=Rb xs+Rb ys:=by
  unfold Gm;split
  ·show Rb ys<=_;omega
  rename_i h
  split
  ·show Rb xs<=_;omega
  have := Mj xs;show Rb [Lv n]<=_;simp only[Lv,Rb,Wb];omega
theorem MR{f:Fm}{p:List Str}{n:Nat}{base:List Tree}{x y:By}(H:∀s n k,Vi (f (p++[s]) n base[k]? (x.item k) (y.item k)).1<=Vi (x.item k)+Vi (y.item k)):∀j,Rb (Ii f p n base x y j).1<=wG x j+wG y j
  | 0=>by simp[Ii,Rb]
  | j + 1 => by
    have ih:=MR (n:=n) H j;have h1:=DR p j (n+(Ii f p n base x y j).2.length) (x.put j) (y.put j);have h2:=H (Lib.itoa j) (n+((Ii f p n base x y j).2++(Gm p j (n+(Ii f p n base x y j).2.length) (x.put j) (y.put j)).2).length) j;have h3:∀o:Option Tree,Rb o.toList=Vi o:=λo=>by cases o <;> simp[Rb,Vi]
    rw[Ii,Qe,Qe,h3,wG,wG];omega
theorem Kv{p:List Str}{cls:Int}{n:Nat}{b l r:Option Tree}(h:¬Km l r=true):Vi (Mw p cls n b l r).1<=Vi l+Vi r:=by
  have h1:=Lp (p:=p) (cls:=cls) (n:=n) (b:=b) h;have h2:Vi (Mw p cls n b l r).1=1:=by simp[Mw,Lv,Vi,Wb,Rb]
  simp only[Mw,kQ,List.length_nil]at h1;omega
theorem Gu(v:Tree):Rb v.items+1<=Wb v:=by cases v;rw[Wb];simp only[Tree.items];omega
theorem atM_sz{rl:List Rl}:∀(F:Nat)(p:List Str)(n:Nat)(b l r:Option Tree),Vi (Nj rl F p n b l r).1<=Vi l+Vi r:=by
  intro F
  induction F with
  | zero=>intro p n b l r;simp[Nj]
  | succ F ih =>
    intro p n b l r;rw[Nj];split
    ·show Vi l<=_;omega
    rename_i c1
    split
    ·show Vi r<=_;omega
    split
    ·show Vi l<=_;omega
    cases b with
    | none=>exact Kv c1
    | some x =>
      cases l with
      | none=>exact Kv c1
      | some y =>
        cases r with
        | none=>exact Kv c1
        | some z =>
          simp only[I0];split
          ·split
           ·have h1 := HE (n := n) (λk n => ih (p ++ [k]) n (Ze x k) (Ze y k) (Ze z k)) (Yf [y.keys, z.keys]).length (gQ _)
            rw[List.take_length]at h1;have h2:=Cs (Lh [y.keys,z.keys]) y;have h3:=Cs (Lh [y.keys,z.keys]) z;unfold TO;simp only[Vi,Wb];omega
           split
           ·have hgap:Vi (Qs.gapM (Nj rl F) p n x y z).1<=Vi (some y)+Vi (some z):=by
              unfold Qs.gapM;split
              ·unfold KC
               have h1:=MR (n:=n) (base:=x.items) (x:=Ie x.items y.items) (y:=Ie x.items z.items) (λs n k=>ih (p++[s]) n _ _ _) x.items.length;have h2:=DR p x.items.length (n+(Ii (Nj rl F) p n x.items (Ie x.items y.items) (Ie x.items z.items) x.items.length).2.length) ((Ie x.items y.items).put x.items.length) ((Ie x.items z.items).put x.items.length);have h3:=Em x.items y.items x.items.length (gQ _);have h4:=Em x.items z.items x.items.length (gQ _);rw[if_pos rfl]at h3 h4;have h6:=Gu y;have h7:=Gu z;simp only[Vi,Wb,Qe];omega
              exact Kv c1
            rw[Qs];cases O2 rl p with
            | none=>exact hgap
            | some key =>
              simp only;split
              ·have h1 := HE (n := n) (λk n => ih (p ++ [QM k]) n (Dj x key k) (Dj y key k) (Dj z key k)) (Yf [Uj y key, Uj z key]).length (gQ _)
               rw[List.take_length]at h1;have hnd:=Lh [Uj y key,Uj z key];have h2:=Dt hnd y key;have h3:=Dt hnd z key;have hsub:=Mu (f:=λk m=>Nj rl F (p++[QM k]) m (Dj x key k) (Dj y key k) (Dj z key k)) (n:=n) (ks:=Yf [Uj y key,Uj z key]) _ (gQ _);rw[List.take_length]at hsub;unfold keyM;simp only;split
               ·rename_i o ho
                have hp:=(YL ho).map (Q5 (Gn (λk m=>Nj rl F (p++[QM k]) m (Dj x key k) (Dj y key k) (Dj z key k)) n (Yf [Uj y key,Uj z key]) (Yf [Uj y key,Uj z key]).length).1);rw[YG _ (hnd.sublist hsub)]at hp;have:=Hx hp;simp only[Vi,Wb];omega
               exact Kv c1
              exact hgap
           exact Kv c1
          exact Kv c1
def MaxO(M:Nat)(o:Option Tree):Prop:=AllO (λx=>Yd x<=M) o
theorem Yj{M:Nat}{x:Tree}(h:Yd x<=M):∀y∈x.items,Yd y<=M:=λy hy=>by
  cases x with
  | node k t ks xs =>
    have:=Ai (show y∈xs from hy);rw[Yd]at h;omega
theorem PJ{M:Nat}{x:Tree}(h:Yd x<=M):∀k∈x.keys,k.length<=M:=λk hk=>by
  cases x with
  | node _ t ks xs =>
    have:=Ql (show k∈ks from hk);rw[Yd]at h;omega
theorem D8{M:Nat}(hM:20<=M){i:Nat}(h:i<1000):Yd (Lv i)<=M:=by
  have:=(DM h).2.2.2;simp only[Lv,Yd,Wm,Tj];omega
theorem BQ{M:Nat}{k:Int}{xs:List Tree}(h:∀x∈xs,Yd x<=M):Yd (.node k [] [] xs)<=M:=by
  have:=Zv h;simp only[Yd,Wm,List.length_nil];omega
theorem max_obj{M:Nat}{k:Int}{ks:List Str}{xs:List Tree}(h:∀x∈xs,Yd x<=M)(h2:∀s∈ks,s.length<=M):Yd (.node k [] ks xs)<=M:=by
  have:=Zv h;have:=G2 h2;simp only[Yd,List.length_nil];omega
theorem atM_max{rl:List Rl}{M:Nat}(hM:20<=M):∀(F:Nat)(p:List Str)(n:Nat)(b l r:Option Tree),MaxO M l->MaxO M r->n+Vi l+Vi r<1000->MaxO M (Nj rl F p n b l r).1:=by
  intro F
  induction F with
  | zero=>intro p n b l r hl _ _;exact hl
  | succ F ih =>
    intro p n b l r hl hr hn;have con:∀cls b l r,MaxO M (Mw p cls n b l r).1:=λcls b l r v hv=>by
      obtain rfl:=lQ hv;exact D8 hM sX
    rw[Nj];split
    ·exact hl
    split
    ·exact hr
    split
    ·exact hl
    cases b with
    | none=>exact con _ _ _ _
    | some x =>
      cases l with
      | none=>exact con _ _ _ _
      | some y =>
        cases r with
        | none=>exact con _ _ _ _
        | some z =>
          have hy:=hl y rfl;have hz:=hr z rfl;simp only[Vi]at hn;simp only[I0];split
          ·split
           ·have hnd := Lh [y.keys, z.keys]
            have h1:=Cs hnd y;have h2:=Cs hnd z;have:=H7 (Q:=λx=>Yd x<=M) (n:=n) (ks:=Yf [y.keys,z.keys]) (λk n=>Ey F (p++[k]) n (Ze x k) (Ze y k) (Ze z k)) (λk n h=>ih (p++[k]) n _ _ _ (λw hw=>Yj hy w (S6 hw)) (λw hw=>Yj hz w (S6 hw)) h) _ (gQ _) sX;intro v hv;obtain rfl:=lQ hv;have hsub:=Mu (f:=λk m=>Nj rl F (p++[k]) m (Ze x k) (Ze y k) (Ze z k)) (n:=n) (ks:=Yf [y.keys,z.keys]) _ (gQ _);rw[List.take_length]at hsub;refine max_obj (λu hu=>?_) λs hs=>?_
            ·obtain⟨q, hq, rfl⟩ := nQ.1 hu
             exact this q hq
            have hin : s ∈ Yf [y.keys, z.keys] := hsub.subset hs;unfold Yf at hin;rw[R4]at hin;simp only[List.not_mem_nil,List.flatten_cons,List.flatten_nil,qQ,mQ,false_or]at hin;exact hin.elim (PJ hy s) (PJ hz s)
           split
           ·have hgap:MaxO M (Qs.gapM (Nj rl F) p n x y z).1:=by
              unfold Qs.gapM;split
              ·have s1 := Em x.items y.items x.items.length (gQ _)
               have s2:=Em x.items z.items x.items.length (gQ _);rw[if_pos rfl]at s1 s2;have h6:=Gu y;have h7:=Gu z;have hc:=Fx (n:=n) (base:=x.items) (x:=Ie x.items y.items) (y:=Ie x.items z.items) (λs n k=>Ey (rl:=rl) F (p++[s]) n _ _ _) x.items.length;intro v hv;obtain rfl:=lQ hv;refine BQ λu hu=>?_;rcases mQ.1 hu with hu|hu
               ·exact DH (Q:=λx=>Yd x<=M) (λi hi=>D8 hM hi) (x:=Ie x.items y.items) (y:=Ie x.items z.items) (Yj hy) (Yj hz) (λs n k=>Ey F (p++[s]) n _ _ _) (λs n k hk h=>ih (p++[s]) n _ _ _ (λw hw=>Yj hy w (OF hw)) (λw hw=>Yj hz w (OF hw)) h) _ (gQ _) sX u hu
               exact PG (Q:=λx=>Yd x<=M) (λi hi=>D8 hM hi) (λw hw=>Yj hy w (R1 hw)) (λw hw=>Yj hz w (R1 hw)) sX u hu
              exact con _ _ _ _
            rw[Qs];cases O2 rl p with
            | none=>exact hgap
            | some key =>
              simp only;split
              ·have hnd := Lh [Uj y key, Uj z key]
               have h1:=Dt hnd y key;have h2:=Dt hnd z key;have:=H7 (Q:=λx=>Yd x<=M) (n:=n) (ks:=Yf [Uj y key,Uj z key]) (λk n=>Ey F (p++[QM k]) n (Dj x key k) (Dj y key k) (Dj z key k)) (λk n h=>ih (p++[QM k]) n _ _ _ (λw hw=>Yj hy w (E9 hw)) (λw hw=>Yj hz w (E9 hw)) h) _ (gQ _) sX;unfold keyM;simp only;split
               ·rename_i o ho
                intro v hv;obtain rfl:=lQ hv;refine BQ λu hu=>?_;obtain⟨q,hq,rfl⟩:=nQ.1 hu;exact XT (Q:=λx=>Yd x<=M) this (NU ho q hq)
               exact con _ _ _ _
              exact hgap
           exact con _ _ _ _
          exact con _ _ _ _
open Go.RowKit Go.Proofs Go.Proofs.Tryz
theorem SE{n last:Int}{l:List Int}{j:Nat}(hj:j<l.length):Hp n last (l.drop j)=(decide (last<l[j])&&(decide (l[j]<n)&&Hp n l[j] (l.drop (j+1)))):=by rw[List.drop_eq_getElem_cons hj];rfl
theorem FK{n last R:Int}{l:List Int}{j:Nat}{b:Bool}(hj:j<l.length)(h:Hp n last (l.drop j)=b)(h1:l[j]<=last):b=false:=by
  rw[SE hj,decide_eq_false sX]at h;exact h.symm
theorem JH{n last R:Int}{l:List Int}{j:Nat}{b:Bool}(hj:j<l.length)(h:Hp n last (l.drop j)=b)(h1:n<=l[j]):b=false:=by
  rw[SE hj,decide_eq_false (p:=l[j]<n) sX,Bool.false_and,Bool.and_false]at h;exact h.symm
theorem ZT{n last:Int}{l:List Int}{j:Nat}{b:Bool}(hj:j<l.length)(h:Hp n last (l.drop j)=b)(h1:¬l[j]<=last)(h2:¬n<=l[j]):Hp n l[j] (l.drop (j+1))=b:=by
  rw[SE hj,decide_eq_true sX,decide_eq_true sX]at h;exact h
theorem rise_end{n last:Int}{l:List Int}{j:Nat}{b:Bool}(hj:l.length<=j)(h:Hp n last (l.drop j)=b):b=true:=by
  rw[List.drop_of_length_le hj]at h;exact h.symm
theorem Xx{x:Cm}{n:Nat}(h:Hp (n:Int) (-1) x.par=false):Sf x n=false:=by unfold Sf;rw[h];rfl
theorem JN{x:Cm}{n:Nat}(h:Hp (n:Int) (-1) x.par=true):Sf x n=Kd x.val:=by unfold Sf;rw[h];rfl
theorem EV{h:List Cm}{j:Nat}(hj:j<h.length)(hc:Sf h[j] j=false):Ld h=false:=by
  rw[Bool.eq_false_iff];intro hr;rw[Kq hr hj]at hc;cases hc
theorem PO{h:List Cm}(hl:64<h.length):Ld h=false:=by unfold Ld;rw[decide_eq_false sX];rfl
theorem R9{h:List Cm}(hl:h.length<=64)(ha:∀i (hi:i<h.length),Sf h[i] i=true):Ld h=true:=by
  unfold Ld;rw[decide_eq_true hl,Bool.true_and,List.all_eq_true];intro i hi;have hi':=List.mem_range.1 hi;rw[List.getD,List.getElem?_eq_getElem hi',Option.getD_some];exact ha i hi'
theorem IU{h:List Cm}{j:Nat}(hn:∀i (hi:i<h.length),i<j->Sf h[i] i=true)(hj:∀hj:j<h.length,Sf h[j] j=true):∀i (hi:i<h.length),i<j+1->Sf h[i] i=true:=λi hi h2=>by
  by_cases e:i=j
  ·subst e;exact hj hi
  exact hn i hi sX
def Xm(x:Cm):Prop:=Wb x.val<=1000000000/\Yz x.val
theorem NI(x:Cm)(q:Mv)(n:Nat)(S:Nat->Prop)(w0:World)(hq:q.n=x.par.length)(hP:Rep S w0 (.slice (x.par.map Zd)) [.slice q.A q.n q.c])(hV:Rep S w0 (Zb x.val) q.v.cells)(hT:Xm x)(hG:Gl w0):Calls prog 21 #[.agg q.cells.toArray,J (n:Int)] w0 (Td λv w'=>v=.bool (Sf x n)/\Same [] w0 w'):=by
 have hPl:=hP.slice_len;refine Ga func21 O ntmps21 Fb (Zc _ _) ?_;have hF:=FR.start w0 [];refine Ja (Ve hF O ?_);rintro b1 w hb1 hF -;refine Ca (Hc O) (Fc (Ca (Sc O) (Ea (Ha (Ja (Ca (Xb U1 O) (Yc (Rf vQ O hF.F 0 O O) (Ca (Ye bX O) ?_))))))));refine Ca (Kb O) (Ea (Va ?_));refine Rc (λμ σ w=>∃(j:Nat),∃(last:Int),μ=x.par.length-j/\(j<=x.par.length)/\(Hp (n:Int) last (x.par.drop j)=Hp (n:Int) (-1) x.par)/\AllEq σ [(1,J ((n:Int))),(2,V b1),(5,J last),(9,.slice q.A q.n q.c),(10,J ((q.n:Nat))),(11,J ((j:Int)))]/\FR w0 [] [(b1,.cells (q.cells).toArray 29)] w) _ ⟨0,-1,O,(Nat.zero_le _),(O),I6,hF⟩ ?_;rintro μ σ w ⟨j,last,rfl,hj,hr,hs,hF⟩;refine Cg.slots hs ?_;clear hs;intro σ;refine Ja (Ca (Kl O O) (Ea (Ha ?_)));refine Pc O O (λhc0=>?_) (λhc0=>?_);refine Ta (Ia (Ha (Va (Ja ?_))));obtain⟨ad0,hA0,hk0,hx0⟩:=hP.int_elem (i:=j) sX;refine Ka (v:=.pointer (some (ad0.add (j*1)))) (Pa (i:=(j:Int)) Ef O hA0 O sX sX) (Ka (v:=J (x.par[j])) (Jb bZ O (hF.cell0 hk0)) (Ca (Sc O) (Ea (Ha (Ja (Ca (Kb O) (Ca (Kb O) (Ca (HW O O) (Ca (Ae O) ?_)))))))));refine Dd (d:=18) O (λhg1=>?_) (λhg1=>?_);refine Oa (Oa (Oa (Ca (Nd O O) (Ea (Ge O (Ja (Ca (Hc O) (Ea ?_))))))));refine Qd (v:=.bool false) O O ?_
 first|exact⟨congrArg Value.bool (Xx (FK (R:=0) sX hr sX)).symm,hF.same⟩|exact⟨congrArg Value.bool (Xx (JH (R:=0) sX hr sX)).symm,hF.same⟩
 refine Ca (Kb O) (Ca (Kb O) (Ca (GC O O) (Ca (Md O O) (Ea ?_))));refine Pc O O (λhc1=>?_) (λhc1=>?_);refine Ja (Ca (Hc O) (Ea ?_));refine Qd (v:=.bool false) O O ?_
 first|exact⟨congrArg Value.bool (Xx (FK (R:=0) sX hr sX)).symm,hF.same⟩|exact⟨congrArg Value.bool (Xx (JH (R:=0) sX hr sX)).symm,hF.same⟩
 refine Ta (Ia (Fa (Ca (Kb O) (Ca (Sc O) (Db (Ib (Ia (Fa (Ca (Ok (((j+1:Nat):Int)) O O) (Ca (Kb O) (Db ?_)))))))))));refine Yb ⟨_,?_,j+1,x.par[j],O,sX,(ZT sX hr sX sX),I6,hF⟩;omega;refine Nc (Kc O ?_);refine Ia (Ja (Ca (Xb Un O) (Ka (v:=.agg (q.v.cells).toArray) (Ya (l:=q.v.cells) aZ oZ O O (hF.part 0 1 O O)) ?_)));refine Gb hF (G0 x.val hT.1 _ _ q.v.cells (hF.rep hV) hT.2 (hG.ext hF.same)) (Ra CJ O O) ?_;intro w hF;refine Ca (Hc O) (Ea ?_);refine Qd (v:=.bool _) O O ?_;exact⟨congrArg Value.bool (JN (rise_end sX hr)).symm,hF.same⟩
theorem M9(h:List Cm)(A:Option Addr)(c:Nat)(S:Nat->Prop)(w0:World)(hX:Rep S w0 (Nr h) [.slice A h.length c])(hT:∀x∈h,Xm x)(hG:Gl w0):Calls prog 9 #[.slice A h.length c] w0 (Td λv w'=>v=.bool (Ld h)/\Same [] w0 w'):=by
 have hXl:=hX.slice_len;simp only[rQ]at hXl;refine Ga func9 O ntmps9 Fb (Ad _) ?_;have hF:=FR.start w0 [];refine Ja (Ca (Hc O) (Ea (Ha (Ja (Ca (Pd O) (Ca (Ye aX O) (Ca (QB O O) (Ea ?_))))))));refine Pc O O (λhc0=>?_) (λhc0=>?_);refine Ja (Ca (Hc O) (Ea ?_));refine Qd (v:=.bool false) O O ?_;exact⟨congrArg Value.bool (PO sX).symm,hF.same⟩;refine Ta (Ia (Ha (Ja (Ca (Pd O) (Ca (Ye aX O) (Ca (Kb O) (Ea (Va ?_))))))));refine Rc (λμ σ w=>∃(j:Nat),μ=h.length-j/\(j<=h.length)/\(∀i (hi:i<h.length),i<j->Sf h[i] i=true)/\AllEq σ [(8,.slice A h.length c),(9,J ((h.length:Nat))),(10,J ((j:Int)))]/\FR w0 [] [] w) _ ⟨0,O,(Nat.zero_le _),(λi _ h=>by omega),I7,hF⟩ ?_;rintro μ σ w ⟨j,rfl,hj,hall,hs,hF⟩;refine Cg.slots hs ?_;clear hs;intro σ;refine Ja (Ca (Kl O O) (Ea (Ha ?_)));refine Pc O O (λhc1=>?_) (λhc1=>?_);refine Ta (Ia (Ha (Va (Ja (Ca (Kb O) ?_)))));obtain⟨ad0,q0,hA0,hk0,hn0,hx0,hy0⟩:=hX.cm_elem (i:=j) sX;refine Ka (v:=.pointer (some (ad0.add (j*5)))) (Pa (i:=(j:Int)) Pt O hA0 O sX sX) (Ka (v:=.agg (q0.cells).toArray) (Ya (l:=q0.cells) isAgg29 pZ O O (hF.cells0 hk0)) ?_);refine Od (cs:=#[aQ,J 0,I [],aQ,aQ]) hF zeroValue29 O ?_;rintro b1 w hb1 hF -;refine Ca (Sc O) (Qf hF pZ O O Mh ?_);rintro w hF -;refine Fc (Yc (Ch isAgg29 pZ O hF.F 0 O O) (Ca (Kb O) ?_));refine Gb hF (NI h[j] q0 j _ _ hn0 (hF.rep hx0) (hF.rep hy0) (hT _ (List.getElem_mem (l:=h) (n:=j) sX)) (hG.ext hF.same)) (Za en_21 O O O) ?_;intro w hF;refine Ca (Zj O) (Ea ?_);refine Uf O O (λhc2=>?_) (λhc2=>?_);refine Ja (Ca (Hc O) (Ea ?_));refine Qd (v:=.bool false) O O ?_;exact⟨congrArg Value.bool (EV (j:=j) sX (by simp_all)).symm,hF.same⟩;refine Ta (Ib (Ia (Fa (Ca (Ok (((j+1:Nat):Int)) O O) (Ca (Kb O) (Db ?_))))));refine Yb ⟨_,?_,j+1,O,sX,(IU hall (λ_=>by simp_all)),I7,hF.drop 1⟩;omega;refine Nc (Kc O ?_)
 refine Ia (Ja (Ca (Hc O) (Ea ?_)));refine Qd (v:=.bool true) O O ?_;exact⟨congrArg Value.bool (R9 sX (λi hi=>hall i hi sX)).symm,hF.same⟩
end Go.Scarf
