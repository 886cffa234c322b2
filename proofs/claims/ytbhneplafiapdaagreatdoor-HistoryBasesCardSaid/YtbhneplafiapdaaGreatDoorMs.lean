/- A part of the proof. -/
import Derived.Test.YtbhneplafiapdaaGreatDoorMg5
set_option linter.all false
set_option maxHeartbeats 8000000
set_option maxRecDepth 10000
namespace Go.Scarf
open Go.RowKit
def EL(Q:Tree->Prop)(o:Option Tree):Prop:=∀x,o=some x->Q x
section
variable {Q:Tree->Prop}{f:Str->Nat->Mo}{n:Nat}{ks:List Str}{gl gr:Str->Option Tree}
theorem Av(H:∀k n,(f k n).2.length<=Ye (gl k)+Ye (gr k))(HN:∀k n,n+Ye (gl k)+Ye (gr k)<1000->EL Q (f k n).1):∀j,j<=ks.length->n+Ci gl ks+Ci gr ks<1000->∀z∈(Hk f n ks j).1,Q z.2
  | 0,_,_=>λz hz=>by cases hz
  | j + 1, hj, hb => by
    have h1:=Wp (n:=n) (ks:=ks) H j Ca;have h2:=Ri gl (ks:=ks) (j:=j) Ca;have h3:=Ri gr (ks:=ks) (j:=j) Ca;have h4:=Kp gl ks (j+1);have h5:=Kp gr ks (j+1);rw[Hk];intro z hz;rcases mQ.1 hz with hz|hz
    ·exact Av H HN j Ca hb z hz
    have hc := HN (ks.getD j []) (n + (Hk f n ks j).2.length) Ca;generalize (f (ks.getD j []) (n+(Hk f n ks j).2.length)).1=o at hz hc;cases o with
    | none=>cases hz
    | some x=>rw[pQ.1 hz];exact hc x rfl
theorem Wz(H:∀k n,Ye (f k n).1<=Ye (gl k)+Ye (gr k)):∀j,j<=ks.length->Cb ((Hk f n ks j).1.map (·.2))<=Ci gl (ks.take j)+Ci gr (ks.take j)
  | 0,_=>by simp[Hk,Cb]
  | j + 1, hj => by
    have ih:=Wz H j Ca;have h1:=H (ks.getD j []) (n+(Hk f n ks j).2.length);rw[Hk,jQ,Tc,Ri gl Ca,Ri gr Ca];have h2:∀o:Option Tree,Cb ((CL (ks.getD j []) o).map (·.2))=Ye o:=λo=>by cases o <;> simp[CL,Cb,Ye]
    rw[h2];omega
end
section
variable {Q:Tree->Prop}
theorem C2(hq:∀i,i<1000->Q (Xp i)){p:List Str}{g n:Nat}{xs ys:List Tree}(hx:∀z∈xs,Q z)(hy:∀z∈ys,Q z)(hn:n+Cb xs+Cb ys<=1000):∀z∈(Ls p g n xs ys).1,Q z:=by
  unfold Ls;split
  ·exact hy
  rename_i h
  split
  ·exact hx
  have := Cj xs;intro z hz;rw[pQ.1 hz];exact hq _ Ca
theorem Q2(hq:∀i,i<1000->Q (Xp i)){f:Fm}{p:List Str}{n:Nat}{base:List Tree}{x y:By}(hx:∀z∈x.items,Q z)(hy:∀z∈y.items,Q z)
    (H:∀s n k,(f (p++[s]) n base[k]? (x.item k) (y.item k)).2.length<=Ye (x.item k)+Ye (y.item k))
    (HN:∀s n k,k<base.length->n+Ye (x.item k)+Ye (y.item k)<1000->EL Q (f (p++[s]) n base[k]? (x.item k) (y.item k)).1):∀j,j<=base.length->n+wG x j+wG y j<1000->∀z∈(Zi f p n base x y j).1,Q z
  | 0,_,_=>λz hz=>by cases hz
  | j + 1, hj, hb => by
    have h1:=Dp (n:=n) H j;rw[wG,wG]at hb;have h2:=Kv p j (n+(Zi f p n base x y j).2.length) (x.put j) (y.put j);rw[Zi];intro z hz;rcases mQ.1 hz with hz|hz
    ·rcases mQ.1 hz with hz|hz
     ·exact Q2 hq hx hy H HN j Ca Ca z hz
     exact C2 hq (λw hw=>hx w (Zs hw)) (λw hw=>hy w (Zs hw)) Ca z hz
    have hc := HN (Lib.itoa j) (n + ((Zi f p n base x y j).2 ++ (Ls p j (n + (Zi f p n base x y j).2.length) (x.put j) (y.put j)).2).length) j Ca (by rw[dQ];omega);generalize (f (p++[Lib.itoa j]) (n+((Zi f p n base x y j).2++(Ls p j (n+(Zi f p n base x y j).2.length) (x.put j) (y.put j)).2).length) base[j]? (x.item j) (y.item j)).1=o at hz hc;cases o with
    | none=>cases hz
    | some v=>rw[pQ.1 hz];exact hc v rfl
theorem CB{a:List (Str × Tree)}(h:∀z∈a,Q z.2){id:Str}(hm:id∈a.map (·.1)):Q (Sr a id):=by
  obtain⟨y,hy⟩:=C3 (ks:=a.map (·.1)) (xs:=a.map (·.2)) Pa hm;unfold Sr;rw[hy,Option.getD_some];obtain⟨z,hz,rfl⟩:=nQ.1 (Mk hy);exact h z hz
end
theorem T9(p:List Str)(g n:Nat)(xs ys:List Tree):Cb (Ls p g n xs ys).1<=Cb xs+Cb ys:=by
  unfold Ls;split
  ·show Cb ys<=_;omega
  rename_i h
  split
  ·show Cb xs<=_;omega
  have := Cj xs;show Cb [Xp n]<=_;simp only[Xp,Cb,Jb];omega
theorem B8{f:Fm}{p:List Str}{n:Nat}{base:List Tree}{x y:By}(H:∀s n k,Ye (f (p++[s]) n base[k]? (x.item k) (y.item k)).1<=Ye (x.item k)+Ye (y.item k)):∀j,Cb (Zi f p n base x y j).1<=wG x j+wG y j
  | 0=>by simp[Zi,Cb]
  | j + 1 => by
    have ih:=B8 (n:=n) H j;have h1:=T9 p j (n+(Zi f p n base x y j).2.length) (x.put j) (y.put j);have h2:=H (Lib.itoa j) (n+((Zi f p n base x y j).2++(Ls p j (n+(Zi f p n base x y j).2.length) (x.put j) (y.put j)).2).length) j;have h3:∀o:Option Tree,Cb o.toList=Ye o:=λo=>by cases o <;> simp[Cb,Ye]
    rw[Zi,Tc,Tc,h3,wG,wG];omega
theorem Sl{p:List Str}{cls:Int}{n:Nat}{b l r:Option Tree}(h:¬Hi l r=true):Ye (Rs p cls n b l r).1<=Ye l+Ye r:=by
  have h1:=Uh (p:=p) (cls:=cls) (n:=n) (b:=b) h;have h2:Ye (Rs p cls n b l r).1=1:=by simp[Rs,Xp,Ye,Jb,Cb]
  simp only[Rs,kQ,List.length_nil]at h1;omega
theorem Ul(v:Tree):Cb v.items+1<=Jb v:=by cases v;rw[Jb];simp only[Tree.items];omega
theorem UL{rl:List Rl}:∀(F:Nat)(p:List Str)(n:Nat)(b l r:Option Tree),Ye (Dm rl F p n b l r).1<=Ye l+Ye r:=by
  intro F
  induction F with
  | zero=>intro p n b l r;simp[Dm]
  | succ F ih =>
    intro p n b l r;rw[Dm];split
    ·show Ye l<=_;omega
    rename_i c1
    split
    ·show Ye r<=_;omega
    split
    ·show Ye l<=_;omega
    cases b with
    | none=>exact Sl c1
    | some x =>
      cases l with
      | none=>exact Sl c1
      | some y =>
        cases r with
        | none=>exact Sl c1
        | some z =>
          simp only[I_];split
          ·split
           ·have h1 := Wz (n := n) (λk n => ih (p ++ [k]) n (Yl x k) (Yl y k) (Yl z k)) (Xf [y.keys, z.keys]).length (gQ _)
            rw[List.take_length]at h1;have h2:=An (Ie [y.keys,z.keys]) y;have h3:=An (Ie [y.keys,z.keys]) z;unfold YL;simp only[Ye,Jb];omega
           split
           ·have hgap:Ye (Ex.gapM (Dm rl F) p n x y z).1<=Ye (some y)+Ye (some z):=by
              unfold Ex.gapM;split
              ·unfold SD
               have h1:=B8 (n:=n) (base:=x.items) (x:=Qe x.items y.items) (y:=Qe x.items z.items) (λs n k=>ih (p++[s]) n _ _ _) x.items.length;have h2:=T9 p x.items.length (n+(Zi (Dm rl F) p n x.items (Qe x.items y.items) (Qe x.items z.items) x.items.length).2.length) ((Qe x.items y.items).put x.items.length) ((Qe x.items z.items).put x.items.length);have h3:=Qk x.items y.items x.items.length (gQ _);have h4:=Qk x.items z.items x.items.length (gQ _);rw[if_pos rfl]at h3 h4;have h6:=Ul y;have h7:=Ul z;simp only[Ye,Jb,Tc];omega
              exact Sl c1
            rw[Ex];cases F_ rl p with
            | none=>exact hgap
            | some key =>
              simp only;split
              ·have h1 := Wz (n := n) (λk n => ih (p ++ [E5 k]) n (Te x key k) (Te y key k) (Te z key k)) (Xf [Bf y key, Bf z key]).length (gQ _)
               rw[List.take_length]at h1;have hnd:=Ie [Bf y key,Bf z key];have h2:=Fk hnd y key;have h3:=Fk hnd z key;have hsub:=Io (f:=λk m=>Dm rl F (p++[E5 k]) m (Te x key k) (Te y key k) (Te z key k)) (n:=n) (ks:=Xf [Bf y key,Bf z key]) _ (gQ _);rw[List.take_length]at hsub;unfold JI;simp only;split
               ·rename_i o ho
                have hp:=(K5 ho).map (Sr (Hk (λk m=>Dm rl F (p++[E5 k]) m (Te x key k) (Te y key k) (Te z key k)) n (Xf [Bf y key,Bf z key]) (Xf [Bf y key,Bf z key]).length).1);rw[K4 _ (hnd.sublist hsub)]at hp;have:=Es hp;simp only[Ye,Jb];omega
               exact Sl c1
              exact hgap
           exact Sl c1
          exact Sl c1
def YD(M:Nat)(o:Option Tree):Prop:=EL (λx=>Zd x<=M) o
theorem Df{M:Nat}{x:Tree}(h:Zd x<=M):∀y∈x.items,Zd y<=M:=λy hy=>by
  cases x with
  | node k t ks xs =>
    have:=Gk (show y∈xs from hy);rw[Zd]at h;omega
theorem O3{M:Nat}{x:Tree}(h:Zd x<=M):∀k∈x.keys,k.length<=M:=λk hk=>by
  cases x with
  | node _ t ks xs =>
    have:=Mn (show k∈ks from hk);rw[Zd]at h;omega
theorem Fu{M:Nat}(hM:20<=M){i:Nat}(h:i<1000):Zd (Xp i)<=M:=by
  have:=(QM h).2.2.2;simp only[Xp,Zd,Nk,Vh];omega
theorem S8{M:Nat}{k:Int}{xs:List Tree}(h:∀x∈xs,Zd x<=M):Zd (.node k [] [] xs)<=M:=by
  have:=Bv h;simp only[Zd,Nk,List.length_nil];omega
theorem YH{M:Nat}{k:Int}{ks:List Str}{xs:List Tree}(h:∀x∈xs,Zd x<=M)(h2:∀s∈ks,s.length<=M):Zd (.node k [] ks xs)<=M:=by
  have:=Bv h;have:=Dv h2;simp only[Zd,List.length_nil];omega
theorem XI{rl:List Rl}{M:Nat}(hM:20<=M):∀(F:Nat)(p:List Str)(n:Nat)(b l r:Option Tree),YD M l->YD M r->n+Ye l+Ye r<1000->YD M (Dm rl F p n b l r).1:=by
  intro F
  induction F with
  | zero=>intro p n b l r hl _ _;exact hl
  | succ F ih =>
    intro p n b l r hl hr hn;have con:∀cls b l r,YD M (Rs p cls n b l r).1:=λcls b l r v hv=>by
      obtain rfl:=lQ hv;exact Fu hM Ca
    rw[Dm];split
    ·exact hl
    split
    ·exact hr
    split
    ·exact hl
    cases b with
    | none=>exact con _ _ _ _
    | some x =>
      cases l with
      | none=>exact con _ _ _ _
      | some y =>
        cases r with
        | none=>exact con _ _ _ _
        | some z =>
          have hy:=hl y rfl;have hz:=hr z rfl;simp only[Ye]at hn;simp only[I_];split
          ·split
           ·have hnd := Ie [y.keys, z.keys]
            have h1:=An hnd y;have h2:=An hnd z;have:=Av (Q:=λx=>Zd x<=M) (n:=n) (ks:=Xf [y.keys,z.keys]) (λk n=>Us F (p++[k]) n (Yl x k) (Yl y k) (Yl z k)) (λk n h=>ih (p++[k]) n _ _ _ (λw hw=>Df hy w (D0 hw)) (λw hw=>Df hz w (D0 hw)) h) _ (gQ _) Ca;intro v hv;obtain rfl:=lQ hv;have hsub:=Io (f:=λk m=>Dm rl F (p++[k]) m (Yl x k) (Yl y k) (Yl z k)) (n:=n) (ks:=Xf [y.keys,z.keys]) _ (gQ _);rw[List.take_length]at hsub;refine YH (λu hu=>?_) λs hs=>?_
            ·obtain⟨q, hq, rfl⟩ := nQ.1 hu
             exact this q hq
            have hin : s ∈ Xf [y.keys, z.keys] := hsub.subset hs;unfold Xf at hin;rw[Ty]at hin;simp only[List.not_mem_nil,List.flatten_cons,List.flatten_nil,qQ,mQ,false_or]at hin;exact hin.elim (O3 hy s) (O3 hz s)
           split
           ·have hgap:YD M (Ex.gapM (Dm rl F) p n x y z).1:=by
              unfold Ex.gapM;split
              ·have s1 := Qk x.items y.items x.items.length (gQ _)
               have s2:=Qk x.items z.items x.items.length (gQ _);rw[if_pos rfl]at s1 s2;have h6:=Ul y;have h7:=Ul z;have hc:=Dp (n:=n) (base:=x.items) (x:=Qe x.items y.items) (y:=Qe x.items z.items) (λs n k=>Us (rl:=rl) F (p++[s]) n _ _ _) x.items.length;intro v hv;obtain rfl:=lQ hv;refine S8 λu hu=>?_;rcases mQ.1 hu with hu|hu
               ·exact Q2 (Q:=λx=>Zd x<=M) (λi hi=>Fu hM hi) (x:=Qe x.items y.items) (y:=Qe x.items z.items) (Df hy) (Df hz) (λs n k=>Us F (p++[s]) n _ _ _) (λs n k hk h=>ih (p++[s]) n _ _ _ (λw hw=>Df hy w (V5 hw)) (λw hw=>Df hz w (V5 hw)) h) _ (gQ _) Ca u hu
               exact C2 (Q:=λx=>Zd x<=M) (λi hi=>Fu hM hi) (λw hw=>Df hy w (Zs hw)) (λw hw=>Df hz w (Zs hw)) Ca u hu
              exact con _ _ _ _
            rw[Ex];cases F_ rl p with
            | none=>exact hgap
            | some key =>
              simp only;split
              ·have hnd := Ie [Bf y key, Bf z key]
               have h1:=Fk hnd y key;have h2:=Fk hnd z key;have:=Av (Q:=λx=>Zd x<=M) (n:=n) (ks:=Xf [Bf y key,Bf z key]) (λk n=>Us F (p++[E5 k]) n (Te x key k) (Te y key k) (Te z key k)) (λk n h=>ih (p++[E5 k]) n _ _ _ (λw hw=>Df hy w (Mw hw)) (λw hw=>Df hz w (Mw hw)) h) _ (gQ _) Ca;unfold JI;simp only;split
               ·rename_i o ho
                intro v hv;obtain rfl:=lQ hv;refine S8 λu hu=>?_;obtain⟨q,hq,rfl⟩:=nQ.1 hu;exact CB (Q:=λx=>Zd x<=M) this (LB ho q hq)
               exact con _ _ _ _
              exact hgap
           exact con _ _ _ _
          exact con _ _ _ _
end Go.Scarf
