/- A part of the proof. -/
import Derived.Test.YtbhneplafiapdaaGreatDoorMg5
set_option linter.all false
set_option maxHeartbeats 8000000
set_option maxRecDepth 10000
namespace Go.Scarf
open Go.RowKit
def TK(Q:Tree->Prop)(o:Option Tree):Prop:=∀x,o=some x->Q x
section
variable {Q:Tree->Prop}{f:Str->Nat->Mo}{n:Nat}{ks:List Str}{gl gr:Str->Option Tree}
theorem Tu(H:∀k n,(f k n).2.length<=Ve (gl k)+Ve (gr k))(HN:∀k n,n+Ve (gl k)+Ve (gr k)<1000->TK Q (f k n).1):∀j,j<=ks.length->n+Di gl ks+Di gr ks<1000->∀z∈(Kk f n ks j).1,Q z.2
  | 0,_,_=>λz hz=>by cases hz
  | j + 1, hj, hb => by
    have h1:=Aq (n:=n) (ks:=ks) H j Ca;have h2:=Ri gl (ks:=ks) (j:=j) Ca;have h3:=Ri gr (ks:=ks) (j:=j) Ca;have h4:=Hq gl ks (j+1);have h5:=Hq gr ks (j+1);rw[Kk];intro z hz;rcases mQ.1 hz with hz|hz
    ·exact Tu H HN j Ca hb z hz
    have hc := HN (ks.getD j []) (n + (Kk f n ks j).2.length) Ca;generalize (f (ks.getD j []) (n+(Kk f n ks j).2.length)).1=o at hz hc;cases o with
    | none=>cases hz
    | some x=>rw[pQ.1 hz];exact hc x rfl
theorem M0(H:∀k n,Ve (f k n).1<=Ve (gl k)+Ve (gr k)):∀j,j<=ks.length->Za ((Kk f n ks j).1.map (·.2))<=Di gl (ks.take j)+Di gr (ks.take j)
  | 0,_=>by simp[Kk,Za]
  | j + 1, hj => by
    have ih:=M0 H j Ca;have h1:=H (ks.getD j []) (n+(Kk f n ks j).2.length);rw[Kk,jQ,Oc,Ri gl Ca,Ri gr Ca];have h2:∀o:Option Tree,Za ((IM (ks.getD j []) o).map (·.2))=Ve o:=λo=>by cases o <;> simp[IM,Za,Ve]
    rw[h2];omega
end
section
variable {Q:Tree->Prop}
theorem W2(hq:∀i,i<1000->Q (Zp i)){p:List Str}{g n:Nat}{xs ys:List Tree}(hx:∀z∈xs,Q z)(hy:∀z∈ys,Q z)(hn:n+Za xs+Za ys<=1000):∀z∈(Ws p g n xs ys).1,Q z:=by
  unfold Ws;split
  ·exact hy
  rename_i h
  split
  ·exact hx
  have := Cj xs;intro z hz;rw[pQ.1 hz];exact hq _ Ca
theorem B5(hq:∀i,i<1000->Q (Zp i)){f:Fm}{p:List Str}{n:Nat}{base:List Tree}{x y:By}(hx:∀z∈x.items,Q z)(hy:∀z∈y.items,Q z)
    (H:∀s n k,(f (p++[s]) n base[k]? (x.item k) (y.item k)).2.length<=Ve (x.item k)+Ve (y.item k))
    (HN:∀s n k,k<base.length->n+Ve (x.item k)+Ve (y.item k)<1000->TK Q (f (p++[s]) n base[k]? (x.item k) (y.item k)).1):∀j,j<=base.length->n+wG x j+wG y j<1000->∀z∈(Aj f p n base x y j).1,Q z
  | 0,_,_=>λz hz=>by cases hz
  | j + 1, hj, hb => by
    have h1:=Lp (n:=n) H j;rw[wG,wG]at hb;have h2:=Nw p j (n+(Aj f p n base x y j).2.length) (x.put j) (y.put j);rw[Aj];intro z hz;rcases mQ.1 hz with hz|hz
    ·rcases mQ.1 hz with hz|hz
     ·exact B5 hq hx hy H HN j Ca Ca z hz
     exact W2 hq (λw hw=>hx w (Ot hw)) (λw hw=>hy w (Ot hw)) Ca z hz
    have hc := HN (Lib.itoa j) (n + ((Aj f p n base x y j).2 ++ (Ws p j (n + (Aj f p n base x y j).2.length) (x.put j) (y.put j)).2).length) j Ca (by rw[dQ];omega);generalize (f (p++[Lib.itoa j]) (n+((Aj f p n base x y j).2++(Ws p j (n+(Aj f p n base x y j).2.length) (x.put j) (y.put j)).2).length) base[j]? (x.item j) (y.item j)).1=o at hz hc;cases o with
    | none=>cases hz
    | some v=>rw[pQ.1 hz];exact hc v rfl
theorem P_{a:List (Str × Tree)}(h:∀z∈a,Q z.2){id:Str}(hm:id∈a.map (·.1)):Q (Es a id):=by
  obtain⟨y,hy⟩:=F1 (ks:=a.map (·.1)) (xs:=a.map (·.2)) Pa hm;unfold Es;rw[hy,Option.getD_some];obtain⟨z,hz,rfl⟩:=nQ.1 (Ik hy);exact h z hz
end
theorem W8(p:List Str)(g n:Nat)(xs ys:List Tree):Za (Ws p g n xs ys).1<=Za xs+Za ys:=by
  unfold Ws;split
  ·show Za ys<=_;omega
  rename_i h
  split
  ·show Za xs<=_;omega
  have := Cj xs;show Za [Zp n]<=_;simp only[Zp,Za,Gb];omega
theorem B9{f:Fm}{p:List Str}{n:Nat}{base:List Tree}{x y:By}(H:∀s n k,Ve (f (p++[s]) n base[k]? (x.item k) (y.item k)).1<=Ve (x.item k)+Ve (y.item k)):∀j,Za (Aj f p n base x y j).1<=wG x j+wG y j
  | 0=>by simp[Aj,Za]
  | j + 1 => by
    have ih:=B9 (n:=n) H j;have h1:=W8 p j (n+(Aj f p n base x y j).2.length) (x.put j) (y.put j);have h2:=H (Lib.itoa j) (n+((Aj f p n base x y j).2++(Ws p j (n+(Aj f p n base x y j).2.length) (x.put j) (y.put j)).2).length) j;have h3:∀o:Option Tree,Za o.toList=Ve o:=λo=>by cases o <;> simp[Za,Ve]
    rw[Aj,Oc,Oc,h3,wG,wG];omega
theorem Ol{p:List Str}{cls:Int}{n:Nat}{b l r:Option Tree}(h:¬Ii l r=true):Ve (Ts p cls n b l r).1<=Ve l+Ve r:=by
  have h1:=Ai (p:=p) (cls:=cls) (n:=n) (b:=b) h;have h2:Ve (Ts p cls n b l r).1=1:=by simp[Ts,Zp,Ve,Gb,Za]
  simp only[Ts,kQ,List.length_nil]at h1;omega
theorem Hl(v:Tree):Za v.items+1<=Gb v:=by cases v;rw[Gb];simp only[Tree.items];omega
theorem XK{rl:List Rl}:∀(F:Nat)(p:List Str)(n:Nat)(b l r:Option Tree),Ve (Em rl F p n b l r).1<=Ve l+Ve r:=by
  intro F
  induction F with
  | zero=>intro p n b l r;simp[Em]
  | succ F ih =>
    intro p n b l r;rw[Em];split
    ·show Ve l<=_;omega
    rename_i c1
    split
    ·show Ve r<=_;omega
    split
    ·show Ve l<=_;omega
    cases b with
    | none=>exact Ol c1
    | some x =>
      cases l with
      | none=>exact Ol c1
      | some y =>
        cases r with
        | none=>exact Ol c1
        | some z =>
          simp only[N8];split
          ·split
           ·have h1 := M0 (n := n) (λk n => ih (p ++ [k]) n (Am x k) (Am y k) (Am z k)) (Bg [y.keys, z.keys]).length (gQ _)
            rw[List.take_length]at h1;have h2:=Jn (He [y.keys,z.keys]) y;have h3:=Jn (He [y.keys,z.keys]) z;unfold VM;simp only[Ve,Gb];omega
           split
           ·have hgap:Ve (Hx.gapM (Em rl F) p n x y z).1<=Ve (some y)+Ve (some z):=by
              unfold Hx.gapM;split
              ·unfold AE
               have h1:=B9 (n:=n) (base:=x.items) (x:=Le x.items y.items) (y:=Le x.items z.items) (λs n k=>ih (p++[s]) n _ _ _) x.items.length;have h2:=W8 p x.items.length (n+(Aj (Em rl F) p n x.items (Le x.items y.items) (Le x.items z.items) x.items.length).2.length) ((Le x.items y.items).put x.items.length) ((Le x.items z.items).put x.items.length);have h3:=Tk x.items y.items x.items.length (gQ _);have h4:=Tk x.items z.items x.items.length (gQ _);rw[if_pos rfl]at h3 h4;have h6:=Hl y;have h7:=Hl z;simp only[Ve,Gb,Oc];omega
              exact Ol c1
            rw[Hx];cases Z8 rl p with
            | none=>exact hgap
            | some key =>
              simp only;split
              ·have h1 := M0 (n := n) (λk n => ih (p ++ [C6 k]) n (Pe x key k) (Pe y key k) (Pe z key k)) (Bg [Bf y key, Bf z key]).length (gQ _)
               rw[List.take_length]at h1;have hnd:=He [Bf y key,Bf z key];have h2:=Yk hnd y key;have h3:=Yk hnd z key;have hsub:=To (f:=λk m=>Em rl F (p++[C6 k]) m (Pe x key k) (Pe y key k) (Pe z key k)) (n:=n) (ks:=Bg [Bf y key,Bf z key]) _ (gQ _);rw[List.take_length]at hsub;unfold SG;simp only;split
               ·rename_i o ho
                have hp:=(S6 ho).map (Es (Kk (λk m=>Em rl F (p++[C6 k]) m (Pe x key k) (Pe y key k) (Pe z key k)) n (Bg [Bf y key,Bf z key]) (Bg [Bf y key,Bf z key]).length).1);rw[E4 _ (hnd.sublist hsub)]at hp;have:=Bs hp;simp only[Ve,Gb];omega
               exact Ol c1
              exact hgap
           exact Ol c1
          exact Ol c1
def MF(M:Nat)(o:Option Tree):Prop:=TK (λx=>Rd x<=M) o
theorem Ef{M:Nat}{x:Tree}(h:Rd x<=M):∀y∈x.items,Rd y<=M:=λy hy=>by
  cases x with
  | node k t ks xs =>
    have:=Ak (show y∈xs from hy);rw[Rd]at h;omega
theorem G1{M:Nat}{x:Tree}(h:Rd x<=M):∀k∈x.keys,k.length<=M:=λk hk=>by
  cases x with
  | node _ t ks xs =>
    have:=Dn (show k∈ks from hk);rw[Rd]at h;omega
theorem Eu{M:Nat}(hM:20<=M){i:Nat}(h:i<1000):Rd (Zp i)<=M:=by
  have:=(UK h).2.2.2;simp only[Zp,Rd,Vk,Ph];omega
theorem B8{M:Nat}{k:Int}{xs:List Tree}(h:∀x∈xs,Rd x<=M):Rd (.node k [] [] xs)<=M:=by
  have:=Qw h;simp only[Rd,Vk,List.length_nil];omega
theorem AI{M:Nat}{k:Int}{ks:List Str}{xs:List Tree}(h:∀x∈xs,Rd x<=M)(h2:∀s∈ks,s.length<=M):Rd (.node k [] ks xs)<=M:=by
  have:=Qw h;have:=Wu h2;simp only[Rd,List.length_nil];omega
theorem FH{rl:List Rl}{M:Nat}(hM:20<=M):∀(F:Nat)(p:List Str)(n:Nat)(b l r:Option Tree),MF M l->MF M r->n+Ve l+Ve r<1000->MF M (Em rl F p n b l r).1:=by
  intro F
  induction F with
  | zero=>intro p n b l r hl _ _;exact hl
  | succ F ih =>
    intro p n b l r hl hr hn;have con:∀cls b l r,MF M (Ts p cls n b l r).1:=λcls b l r v hv=>by
      obtain rfl:=lQ hv;exact Eu hM Ca
    rw[Em];split
    ·exact hl
    split
    ·exact hr
    split
    ·exact hl
    cases b with
    | none=>exact con _ _ _ _
    | some x =>
      cases l with
      | none=>exact con _ _ _ _
      | some y =>
        cases r with
        | none=>exact con _ _ _ _
        | some z =>
          have hy:=hl y rfl;have hz:=hr z rfl;simp only[Ve]at hn;simp only[N8];split
          ·split
           ·have hnd := He [y.keys, z.keys]
            have h1:=Jn hnd y;have h2:=Jn hnd z;have:=Tu (Q:=λx=>Rd x<=M) (n:=n) (ks:=Bg [y.keys,z.keys]) (λk n=>Ft F (p++[k]) n (Am x k) (Am y k) (Am z k)) (λk n h=>ih (p++[k]) n _ _ _ (λw hw=>Ef hy w (Dz hw)) (λw hw=>Ef hz w (Dz hw)) h) _ (gQ _) Ca;intro v hv;obtain rfl:=lQ hv;have hsub:=To (f:=λk m=>Em rl F (p++[k]) m (Am x k) (Am y k) (Am z k)) (n:=n) (ks:=Bg [y.keys,z.keys]) _ (gQ _);rw[List.take_length]at hsub;refine AI (λu hu=>?_) λs hs=>?_
            ·obtain⟨q, hq, rfl⟩ := nQ.1 hu
             exact this q hq
            have hin : s ∈ Bg [y.keys, z.keys] := hsub.subset hs;unfold Bg at hin;rw[Wx]at hin;simp only[List.not_mem_nil,List.flatten_cons,List.flatten_nil,qQ,mQ,false_or]at hin;exact hin.elim (G1 hy s) (G1 hz s)
           split
           ·have hgap:MF M (Hx.gapM (Em rl F) p n x y z).1:=by
              unfold Hx.gapM;split
              ·have s1 := Tk x.items y.items x.items.length (gQ _)
               have s2:=Tk x.items z.items x.items.length (gQ _);rw[if_pos rfl]at s1 s2;have h6:=Hl y;have h7:=Hl z;have hc:=Lp (n:=n) (base:=x.items) (x:=Le x.items y.items) (y:=Le x.items z.items) (λs n k=>Ft (rl:=rl) F (p++[s]) n _ _ _) x.items.length;intro v hv;obtain rfl:=lQ hv;refine B8 λu hu=>?_;rcases mQ.1 hu with hu|hu
               ·exact B5 (Q:=λx=>Rd x<=M) (λi hi=>Eu hM hi) (x:=Le x.items y.items) (y:=Le x.items z.items) (Ef hy) (Ef hz) (λs n k=>Ft F (p++[s]) n _ _ _) (λs n k hk h=>ih (p++[s]) n _ _ _ (λw hw=>Ef hy w (Z7 hw)) (λw hw=>Ef hz w (Z7 hw)) h) _ (gQ _) Ca u hu
               exact W2 (Q:=λx=>Rd x<=M) (λi hi=>Eu hM hi) (λw hw=>Ef hy w (Ot hw)) (λw hw=>Ef hz w (Ot hw)) Ca u hu
              exact con _ _ _ _
            rw[Hx];cases Z8 rl p with
            | none=>exact hgap
            | some key =>
              simp only;split
              ·have hnd := He [Bf y key, Bf z key]
               have h1:=Yk hnd y key;have h2:=Yk hnd z key;have:=Tu (Q:=λx=>Rd x<=M) (n:=n) (ks:=Bg [Bf y key,Bf z key]) (λk n=>Ft F (p++[C6 k]) n (Pe x key k) (Pe y key k) (Pe z key k)) (λk n h=>ih (p++[C6 k]) n _ _ _ (λw hw=>Ef hy w (Lv hw)) (λw hw=>Ef hz w (Lv hw)) h) _ (gQ _) Ca;unfold SG;simp only;split
               ·rename_i o ho
                intro v hv;obtain rfl:=lQ hv;refine B8 λu hu=>?_;obtain⟨q,hq,rfl⟩:=nQ.1 hu;exact P_ (Q:=λx=>Rd x<=M) this (X_ ho q hq)
               exact con _ _ _ _
              exact hgap
           exact con _ _ _ _
          exact con _ _ _ _
end Go.Scarf
