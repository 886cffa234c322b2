/- A part of the proof. -/
import Derived.Test.YtbhneplafiapdaaGreatDoorMg5
set_option linter.all false
set_option maxHeartbeats 8000000
set_option maxRecDepth 10000
namespace Go.Scarf
open Go.RowKit
def EV(Q:Tree->Prop)(o:Option Tree):Prop:=∀x,o=some x->Q x
section
variable {Q:Tree->Prop}{f:Str->Nat->Mo}{n:Nat}{ks:List Str}{gl gr:Str->Option Tree}
theorem Gz(H:∀k n,(f k n).2.length<=Zg (gl k)+Zg (gr k))(HN:∀k n,n+Zg (gl k)+Zg (gr k)<1000->EV Q (f k n).1):∀j,j<=ks.length->n+Pk gl ks+Pk gr ks<1000->∀z∈(Jn f n ks j).1,Q z.2
  | 0,_,_=>λz hz=>by cases hz
  | j + 1, hj, hb => by
    have h1:=Zt (n:=n) (ks:=ks) H j U;have h2:=Fl gl (ks:=ks) (j:=j) U;have h3:=Fl gr (ks:=ks) (j:=j) U;have h4:=Ou gl ks (j+1);have h5:=Ou gr ks (j+1);rw[Jn];intro z hz;rcases mQ.1 hz with hz|hz
    ·exact Gz H HN j U hb z hz
    have hc := HN (ks.getD j []) (n + (Jn f n ks j).2.length) U;generalize (f (ks.getD j []) (n+(Jn f n ks j).2.length)).1=o at hz hc;cases o with
    | none=>cases hz
    | some x=>rw[pQ.1 hz];exact hc x rfl
theorem N6(H:∀k n,Zg (f k n).1<=Zg (gl k)+Zg (gr k)):∀j,j<=ks.length->Ob ((Jn f n ks j).1.map (·.2))<=Pk gl (ks.take j)+Pk gr (ks.take j)
  | 0,_=>by simp[Jn,Ob]
  | j + 1, hj => by
    have ih:=N6 H j U;have h1:=H (ks.getD j []) (n+(Jn f n ks j).2.length);rw[Jn,jQ,Ud,Fl gl U,Fl gr U];have h2:∀o:Option Tree,Ob ((IV (ks.getD j []) o).map (·.2))=Zg o:=λo=>by cases o <;> simp[IV,Ob,Zg]
    rw[h2];omega
end
section
variable {Q:Tree->Prop}
theorem V7(hq:∀i,i<1000->Q (Gu i)){p:List Str}{g n:Nat}{xs ys:List Tree}(hx:∀z∈xs,Q z)(hy:∀z∈ys,Q z)(hn:n+Ob xs+Ob ys<=1000):∀z∈(Ux p g n xs ys).1,Q z:=by
  unfold Ux;split
  ·exact hy
  rename_i h
  split
  ·exact hx
  have := Mj xs;intro z hz;rw[pQ.1 hz];exact hq _ U
theorem U7(hq:∀i,i<1000->Q (Gu i)){f:Fm}{p:List Str}{n:Nat}{base:List Tree}{x y:By}(hx:∀z∈x.items,Q z)(hy:∀z∈y.items,Q z)
    (H:∀s n k,(f (p++[s]) n base[k]? (x.item k) (y.item k)).2.length<=Zg (x.item k)+Zg (y.item k))
    (HN:∀s n k,k<base.length->n+Zg (x.item k)+Zg (y.item k)<1000->EV Q (f (p++[s]) n base[k]? (x.item k) (y.item k)).1):∀j,j<=base.length->n+wG x j+wG y j<1000->∀z∈(Yl f p n base x y j).1,Q z
  | 0,_,_=>λz hz=>by cases hz
  | j + 1, hj, hb => by
    have h1:=Mu (n:=n) H j;rw[wG,wG]at hb;have h2:=Z0 p j (n+(Yl f p n base x y j).2.length) (x.put j) (y.put j);rw[Yl];intro z hz;rcases mQ.1 hz with hz|hz
    ·rcases mQ.1 hz with hz|hz
     ·exact U7 hq hx hy H HN j U U z hz
     exact V7 hq (λw hw=>hx w (Qy hw)) (λw hw=>hy w (Qy hw)) U z hz
    have hc := HN (Lib.itoa j) (n + ((Yl f p n base x y j).2 ++ (Ux p j (n + (Yl f p n base x y j).2.length) (x.put j) (y.put j)).2).length) j U (by rw[dQ];omega);generalize (f (p++[Lib.itoa j]) (n+((Yl f p n base x y j).2++(Ux p j (n+(Yl f p n base x y j).2.length) (x.put j) (y.put j)).2).length) base[j]? (x.item j) (y.item j)).1=o at hz hc;cases o with
    | none=>cases hz
    | some v=>rw[pQ.1 hz];exact hc v rfl
theorem CH{a:List (Str × Tree)}(h:∀z∈a,Q z.2){id:Str}(hm:id∈a.map (·.1)):Q (Uw a id):=by
  obtain⟨y,hy⟩:=IL (ks:=a.map (·.1)) (xs:=a.map (·.2)) Ua hm;unfold Uw;rw[hy,Option.getD_some];obtain⟨z,hz,rfl⟩:=nQ.1 (Qv hy);exact h z hz
end
theorem XC(p:List Str)(g n:Nat)(xs ys:List Tree):Ob (Ux p g n xs ys).1<=Ob xs+Ob ys:=by
  unfold Ux;split
  ·show Ob ys<=_;omega
  rename_i h
  split
  ·show Ob xs<=_;omega
  have := Mj xs;show Ob [Gu n]<=_;simp only[Gu,Ob,Ub];omega
theorem JF{f:Fm}{p:List Str}{n:Nat}{base:List Tree}{x y:By}(H:∀s n k,Zg (f (p++[s]) n base[k]? (x.item k) (y.item k)).1<=Zg (x.item k)+Zg (y.item k)):∀j,Ob (Yl f p n base x y j).1<=wG x j+wG y j
  | 0=>by simp[Yl,Ob]
  | j + 1 => by
    have ih:=JF (n:=n) H j;have h1:=XC p j (n+(Yl f p n base x y j).2.length) (x.put j) (y.put j);have h2:=H (Lib.itoa j) (n+((Yl f p n base x y j).2++(Ux p j (n+(Yl f p n base x y j).2.length) (x.put j) (y.put j)).2).length) j;have h3:∀o:Option Tree,Ob o.toList=Zg o:=λo=>by cases o <;> simp[Ob,Zg]
    rw[Yl,Ud,Ud,h3,wG,wG];omega
theorem So{p:List Str}{cls:Int}{n:Nat}{b l r:Option Tree}(h:¬Yk l r=true):Zg (Zx p cls n b l r).1<=Zg l+Zg r:=by
  have h1:=Wj (p:=p) (cls:=cls) (n:=n) (b:=b) h;have h2:Zg (Zx p cls n b l r).1=1:=by simp[Zx,Gu,Zg,Ub,Ob]
  simp only[Zx,kQ,List.length_nil]at h1;omega
theorem Zo(v:Tree):Ob v.items+1<=Ub v:=by cases v;rw[Ub];simp only[Tree.items];omega
theorem UT{rl:List Rl}:∀(F:Nat)(p:List Str)(n:Nat)(b l r:Option Tree),Zg (Rp rl F p n b l r).1<=Zg l+Zg r:=by
  intro F
  induction F with
  | zero=>intro p n b l r;simp[Rp]
  | succ F ih =>
    intro p n b l r;rw[Rp];split
    ·show Zg l<=_;omega
    rename_i c1
    split
    ·show Zg r<=_;omega
    split
    ·show Zg l<=_;omega
    cases b with
    | none=>exact So c1
    | some x =>
      cases l with
      | none=>exact So c1
      | some y =>
        cases r with
        | none=>exact So c1
        | some z =>
          simp only[HD];split
          ·split
           ·have h1 := N6 (n := n) (λk n => ih (p ++ [k]) n (Np x k) (Np y k) (Np z k)) (Li [y.keys, z.keys]).length (gQ _)
            rw[List.take_length]at h1;have h2:=Br (Vf [y.keys,z.keys]) y;have h3:=Br (Vf [y.keys,z.keys]) z;unfold KU;simp only[Zg,Ub];omega
           split
           ·have hgap:Zg (X2.gapM (Rp rl F) p n x y z).1<=Zg (some y)+Zg (some z):=by
              unfold X2.gapM;split
              ·unfold XM
               have h1:=JF (n:=n) (base:=x.items) (x:=Jg x.items y.items) (y:=Jg x.items z.items) (λs n k=>ih (p++[s]) n _ _ _) x.items.length;have h2:=XC p x.items.length (n+(Yl (Rp rl F) p n x.items (Jg x.items y.items) (Jg x.items z.items) x.items.length).2.length) ((Jg x.items y.items).put x.items.length) ((Jg x.items z.items).put x.items.length);have h3:=Mn x.items y.items x.items.length (gQ _);have h4:=Mn x.items z.items x.items.length (gQ _);rw[if_pos rfl]at h3 h4;have h6:=Zo y;have h7:=Zo z;simp only[Zg,Ub,Ud];omega
              exact So c1
            rw[X2];cases FF rl p with
            | none=>exact hgap
            | some key =>
              simp only;split
              ·have h1 := N6 (n := n) (λk n => ih (p ++ [HC k]) n (Rg x key k) (Rg y key k) (Rg z key k)) (Li [Ch y key, Ch z key]).length (gQ _)
               rw[List.take_length]at h1;have hnd:=Vf [Ch y key,Ch z key];have h2:=En hnd y key;have h3:=En hnd z key;have hsub:=Js (f:=λk m=>Rp rl F (p++[HC k]) m (Rg x key k) (Rg y key k) (Rg z key k)) (n:=n) (ks:=Li [Ch y key,Ch z key]) _ (gQ _);rw[List.take_length]at hsub;unfold CP;simp only;split
               ·rename_i o ho
                have hp:=(TB ho).map (Uw (Jn (λk m=>Rp rl F (p++[HC k]) m (Rg x key k) (Rg y key k) (Rg z key k)) n (Li [Ch y key,Ch z key]) (Li [Ch y key,Ch z key]).length).1);rw[P9 _ (hnd.sublist hsub)]at hp;have:=Ox hp;simp only[Zg,Ub];omega
               exact So c1
              exact hgap
           exact So c1
          exact So c1
def OL(M:Nat)(o:Option Tree):Prop:=EV (λx=>He x<=M) o
theorem Fh{M:Nat}{x:Tree}(h:He x<=M):∀y∈x.items,He y<=M:=λy hy=>by
  cases x with
  | node k t ks xs =>
    have:=Oj (show y∈xs from hy);rw[He]at h;omega
theorem Z6{M:Nat}{x:Tree}(h:He x<=M):∀k∈x.keys,k.length<=M:=λk hk=>by
  cases x with
  | node _ t ks xs =>
    have:=Yn (show k∈ks from hk);rw[He]at h;omega
theorem Mz{M:Nat}(hM:20<=M){i:Nat}(h:i<1000):He (Gu i)<=M:=by
  have:=(WV h).2.2.2;simp only[Gu,He,Rn,Gk];omega
theorem JD{M:Nat}{k:Int}{xs:List Tree}(h:∀x∈xs,He x<=M):He (.node k [] [] xs)<=M:=by
  have:=Vy h;simp only[He,Rn,List.length_nil];omega
theorem GP{M:Nat}{k:Int}{ks:List Str}{xs:List Tree}(h:∀x∈xs,He x<=M)(h2:∀s∈ks,s.length<=M):He (.node k [] ks xs)<=M:=by
  have:=Vy h;have:=K0 h2;simp only[He,List.length_nil];omega
theorem LO{rl:List Rl}{M:Nat}(hM:20<=M):∀(F:Nat)(p:List Str)(n:Nat)(b l r:Option Tree),OL M l->OL M r->n+Zg l+Zg r<1000->OL M (Rp rl F p n b l r).1:=by
  intro F
  induction F with
  | zero=>intro p n b l r hl _ _;exact hl
  | succ F ih =>
    intro p n b l r hl hr hn;have con:∀cls b l r,OL M (Zx p cls n b l r).1:=λcls b l r v hv=>by
      obtain rfl:=lQ hv;exact Mz hM U
    rw[Rp];split
    ·exact hl
    split
    ·exact hr
    split
    ·exact hl
    cases b with
    | none=>exact con _ _ _ _
    | some x =>
      cases l with
      | none=>exact con _ _ _ _
      | some y =>
        cases r with
        | none=>exact con _ _ _ _
        | some z =>
          have hy:=hl y rfl;have hz:=hr z rfl;simp only[Zg]at hn;simp only[HD];split
          ·split
           ·have hnd := Vf [y.keys, z.keys]
            have h1:=Br hnd y;have h2:=Br hnd z;have:=Gz (Q:=λx=>He x<=M) (n:=n) (ks:=Li [y.keys,z.keys]) (λk n=>Jy F (p++[k]) n (Np x k) (Np y k) (Np z k)) (λk n h=>ih (p++[k]) n _ _ _ (λw hw=>Fh hy w (K6 hw)) (λw hw=>Fh hz w (K6 hw)) h) _ (gQ _) U;intro v hv;obtain rfl:=lQ hv;have hsub:=Js (f:=λk m=>Rp rl F (p++[k]) m (Np x k) (Np y k) (Np z k)) (n:=n) (ks:=Li [y.keys,z.keys]) _ (gQ _);rw[List.take_length]at hsub;refine GP (λu hu=>?_) λs hs=>?_
            ·obtain⟨q, hq, rfl⟩ := nQ.1 hu
             exact this q hq
            have hin : s ∈ Li [y.keys, z.keys] := hsub.subset hs;unfold Li at hin;rw[M4]at hin;simp only[List.not_mem_nil,List.flatten_cons,List.flatten_nil,qQ,mQ,false_or]at hin;exact hin.elim (Z6 hy s) (Z6 hz s)
           split
           ·have hgap:OL M (X2.gapM (Rp rl F) p n x y z).1:=by
              unfold X2.gapM;split
              ·have s1 := Mn x.items y.items x.items.length (gQ _)
               have s2:=Mn x.items z.items x.items.length (gQ _);rw[if_pos rfl]at s1 s2;have h6:=Zo y;have h7:=Zo z;have hc:=Mu (n:=n) (base:=x.items) (x:=Jg x.items y.items) (y:=Jg x.items z.items) (λs n k=>Jy (rl:=rl) F (p++[s]) n _ _ _) x.items.length;intro v hv;obtain rfl:=lQ hv;refine JD λu hu=>?_;rcases mQ.1 hu with hu|hu
               ·exact U7 (Q:=λx=>He x<=M) (λi hi=>Mz hM hi) (x:=Jg x.items y.items) (y:=Jg x.items z.items) (Fh hy) (Fh hz) (λs n k=>Jy F (p++[s]) n _ _ _) (λs n k hk h=>ih (p++[s]) n _ _ _ (λw hw=>Fh hy w (ZA hw)) (λw hw=>Fh hz w (ZA hw)) h) _ (gQ _) U u hu
               exact V7 (Q:=λx=>He x<=M) (λi hi=>Mz hM hi) (λw hw=>Fh hy w (Qy hw)) (λw hw=>Fh hz w (Qy hw)) U u hu
              exact con _ _ _ _
            rw[X2];cases FF rl p with
            | none=>exact hgap
            | some key =>
              simp only;split
              ·have hnd := Vf [Ch y key, Ch z key]
               have h1:=En hnd y key;have h2:=En hnd z key;have:=Gz (Q:=λx=>He x<=M) (n:=n) (ks:=Li [Ch y key,Ch z key]) (λk n=>Jy F (p++[HC k]) n (Rg x key k) (Rg y key k) (Rg z key k)) (λk n h=>ih (p++[HC k]) n _ _ _ (λw hw=>Fh hy w (G2 hw)) (λw hw=>Fh hz w (G2 hw)) h) _ (gQ _) U;unfold CP;simp only;split
               ·rename_i o ho
                intro v hv;obtain rfl:=lQ hv;refine JD λu hu=>?_;obtain⟨q,hq,rfl⟩:=nQ.1 hu;exact CH (Q:=λx=>He x<=M) this (ZF ho q hq)
               exact con _ _ _ _
              exact hgap
           exact con _ _ _ _
          exact con _ _ _ _
end Go.Scarf
