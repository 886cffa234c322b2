/- A part of the proof. -/
import Derived.Test.YteedfdfinodcaaaGreatDoorA7
set_option linter.all false
set_option maxHeartbeats 8000000
set_option maxRecDepth 10000
namespace Go.Scarf
open List renaming length->aL
open Go.RowKit
variable {D' S S' i j:Nat}{x:Tree}{xs y ys:List Tree}{b l o r u:Option Tree}{names:List Str}{rl:List Rl}{a:Mo}{d:List Cf}
theorem HE(h:i<1000):Zb nodeB (Lj i)=true:=by grind [Lj,Zb,Uq,nodeB,hole_ok]
def Hp(o:Option Tree):Prop:=∀x,o=some x->Zb nodeB x=true
def Zd(h:Zb nodeB x=true):∀y∈x.items,Zb nodeB y=true:=by
  cases x;exact (Yc h).2
theorem C8(h:Zb nodeB x=true)(key:Str):Hp (Hd x key):=λy hy=>Zd h y<|Oo hy
def Ks(h:Zb nodeB x=true)(key id:Str):Hp (Pb x key id):=λy hy=>Zd h y<|Pl hy
def AX(h:Zb nodeB x=true)(hk:x.kind=6):∀k∈x.keys,Lib.validD k=true:=by
  obtain⟨k,t,ks,xs⟩:=x;have h1:=(Yc h).1;simp only[Tree.kind]at hk;subst hk;simp[nodeB,Aj]at h1;exact h1.1.1.2
theorem YB(h:∀x∈xs,Zb nodeB x=true):Zb nodeB (.node 5 [] [] xs)=true:=by
  rw[Zb,Vs h];rfl
theorem node_obj{m:List (Str × Tree)}(h:∀z∈m,Zb nodeB z.2=true)(hn:(m.map (·.1)).Nodup)(hv:∀z∈m,Lib.validD z.1=true):Zb nodeB (.node 6 [] (m.map (·.1)) (m.map (·.2)))=true:=by grind [Zb,Vs,nodeB,Aj]
theorem Em(p:List Str)(cls:Int){n:Nat}(b l r:Option Tree)(hn:n<1000):Hp (Fj p cls n b l r).1:=λx hx=>by
  obtain rfl:=lQ hx;grind [HE]
section
variable {f:Str->Nat->Mo}{n:Nat}{ks:List Str}
theorem Wh:∀j,j<=aL ks->((Cd f n ks j).1.map (·.1)).Sublist (ks.take j)
  | 0,_=>by simp[Cd]
  | j + 1, hj => by
    have e:ks.getD j []=ks[j]:=by simp[List.getD,show j<aL ks by omega]
    rw[Cd,jQ,iQ kX,e];refine (Wh j kX).append ?_;cases (f ks[j] (n+aL (Cd f n ks j).2)).1 with
    | none=>exact List.nil_sublist _
    | some x=>exact List.Sublist.refl _
theorem J5{gl gr:Str->Option Tree}(H:∀k n,aL (f k n).2<=Af (gl k)+Af (gr k))(HN:∀k n,n+Af (gl k)+Af (gr k)<1000->Hp (f k n).1):∀j,j<=aL ks->n+Wm gl ks+Wm gr ks<1000->∀z∈(Cd f n ks j).1,Zb nodeB z.2=true
  | 0,_,_=>λz hz=>by cases hz
  | j + 1, hj, hb => by
    have h1:=Ip (n:=n) (ks:=ks) H j kX;have h2:=Yf gl (ks:=ks) (j:=j) kX;have h3:=Yf gr (ks:=ks) (j:=j) kX;have h4:=Rg gl ks<|j+1;have h5:=Rg gr ks<|j+1;rw[Cd];intro z hz;rcases mQ.1 hz with hz|hz
    ·exact J5 H HN j kX hb z hz
    have hc := HN (ks.getD j []) (n + (aL (Cd f n ks j).2)) kX;generalize (f (ks.getD j [])<|n+aL (Cd f n ks j).2).1=o at hz hc;cases o with
    | none=>cases hz
    | some x=>rw[pQ.1 hz];exact hc x rfl
end
theorem LE{p:List Str}{g n:Nat}(hx:∀z∈xs,Zb nodeB z=true)(hy:∀z∈ys,Zb nodeB z=true)(hn:n+Qa xs+Qa ys<=1000):∀z∈(He p g n xs ys).1,Zb nodeB z=true:=by grind [He,Ee,HE]
theorem GG{f:Fm}{p:List Str}{n:Nat}{base:List Tree}{x y:By}(hx:∀z∈x.items,Zb nodeB z=true)(hy:∀z∈y.items,Zb nodeB z=true)
    (H:∀s n k,aL (f (p++[s]) n base[k]? (x.item k) (y.item k)).2<=Af (x.item k)+Af (y.item k))
    (HN:∀s n k,k<aL base->n+Af (x.item k)+Af (y.item k)<1000->Hp (f (p++[s]) n base[k]? (x.item k) (y.item k)).1):∀j,j<=aL base->n+wG x j+wG y j<1000->∀z∈(Jd f p n base x y j).1,Zb nodeB z=true
  | 0,_,_=>λz hz=>by cases hz
  | j + 1, hj, hb => by
    have h1:=Ep (n:=n) H j;rw[wG,wG]at hb;have h2:=Kw p j (n+aL (Jd f p n base x y j).2) (x.put j)<|y.put j;rw[Jd];intro z hz;rcases mQ.1 hz with hz|hz
    ·rcases mQ.1 hz with hz|hz
     ·exact GG hx hy H HN j kX kX z hz
     exact LE (λw hw=>hx w<|Ig hw) (λw hw=>hy w<|Ig hw) kX z hz
    have hc := HN (Lib.itoa j) (n + ((Jd f p n base x y j).2 ++ (He p j (n + (aL (Jd f p n base x y j).2)) (x.put j)<|y.put j).2).length) j kX wX;generalize (f (p++[Lib.itoa j]) (n+((Jd f p n base x y j).2++(He p j (n+aL (Jd f p n base x y j).2) (x.put j)<|y.put j).2).length) base[j]? (x.item j) (y.item j)).1=o at hz hc;cases o with
    | none=>cases hz
    | some v=>rw[pQ.1 hz];exact hc v rfl
theorem IQ{a:List (Str × Tree)}(h:∀z∈a,Zb nodeB z.2=true){id:Str}(hm:id∈a.map (·.1)):Zb nodeB (Qi a id)=true:=by
  obtain⟨y,hy⟩:=NB (ks:=a.map (·.1)) (xs:=a.map (·.2)) Da hm;unfold Qi;rw[hy,Option.getD_some];obtain⟨z,hz,rfl⟩:=nQ.1<|Oj hy;grind
theorem QM{b l r:List Str}:∀(F:Nat)(rest o:List Str),Hh b l r F rest=some o->∀s∈o,s∈rest
  | 0,_,o,h=>by rw[Hh]at h;obtain rfl:=lQ h;simp
  | F + 1, rest, o, h => by
    rw[Hh]at h;split at h
    ·rename_i s hs
     obtain⟨o',h1,rfl⟩:=Option.map_eq_some_iff.1 h;intro q hq;rcases oQ.1 hq with rfl|hq
     ·exact List.mem_of_find?_eq_some hs
     exact List.mem_of_mem_erase<|QM F _ _ h1 q hq
    cases h
theorem HG{b l r o:List Str}(h:Pf b l r names=some o):∀s∈o,s∈names:=by
  unfold Pf at h;split at h
  ·intro s hs
   have:=QM _ _ _ h s hs;unfold Me at this;simp_all
  cases h
theorem WN:∀(F:Nat)(p:List Str)(n:Nat)(b l r:Option Tree),Hp b->Hp l->Hp r->n+Af l+Af r<1000->Hp (Je rl F p n b l r).1:=by
  intro F
  induction F with
  | zero =>
    intro p n b l r _ hl _ _;exact hl
  | succ F ih =>
    intro p n b l r hb hl hr hn;have hn':n<1000:=by_Om
    rw[Je];split
    ·exact hl
    split
    ·exact hr
    split
    ·exact hl
    cases b with
    | none=>exact Em _ _ _ _ _ hn'
    | some x =>
      cases l with
      | none=>exact Em _ _ _ _ _ hn'
      | some y =>
        cases r with
        | none=>exact Em _ _ _ _ _ hn'
        | some z =>
          have hx:=hb x rfl;have hy:=hl y rfl;have hz:=hr z rfl;simp only[Af]at hn;simp only[Lo];split
          ·rename_i hkk
           split
           ·rename_i h6
            have hnd:=Zc [y.keys,z.keys];have h1:=En hnd y;have h2:=En hnd z;have:=J5 (n:=n) (ks:=Ec [y.keys,z.keys]) (λk n=>Ll F (p++[k]) n (Hd x k) (Hd y k)<|Hd z k) (λk n h=>ih (p++[k]) n _ _ _ (C8 hx k) (C8 hy k) (C8 hz k) h) _ (gQ _) kX;intro v hv;obtain rfl:=lQ hv;have hsub:=Wh (f:=λk m=>Je rl F (p++[k]) m (Hd x k) (Hd y k)<|Hd z k) (n:=n) (ks:=Ec [y.keys,z.keys]) _<|gQ _;rw[List.take_length]at hsub;refine node_obj this (hnd.sublist hsub) λq hq=>?_;have hin:q.1∈Ec [y.keys,z.keys]:=hsub.subset<|List.mem_map_of_mem hq;unfold Ec at hin;rw[Uo]at hin;simp only[List.not_mem_nil,List.flatten_cons,List.flatten_nil,qQ,mQ,false_or]at hin;rcases hin with hin|hin
            ·exact AX hy (by rw[<-hkk.1];exact h6) _ hin
            exact AX hz (by rw[<-hkk.2];exact h6) _ hin
           split
           ·have hgap:Hp (Sf.gapM (Je rl F) p n x y z).1:=by
              unfold Sf.gapM;split
              ·have s1 := Gi x.items y.items (aL x.items) (gQ _)
               have s2:=Gi x.items z.items (aL x.items)<|gQ _;rw[uQ rfl]at s1 s2;have h5:∀v:Tree,Qa v.items+1<=Ka v:=λv=>by cases v;rw[Ka];simp only[Tree.items];omega
               have h6:=h5 y;have h7:=h5 z;have hc:=Ep (n:=n) (base:=x.items) (x:=Fc x.items y.items) (y:=Fc x.items z.items) (λs n k=>Ll (rl:=rl) F (p++[s]) n _ _ _) (aL x.items);intro v hv;obtain rfl:=lQ hv;refine YB λu hu=>?_;rcases mQ.1 hu with hu|hu
               ·exact GG (x:=Fc x.items y.items) (y:=Fc x.items z.items) (Zd hy) (Zd hz) (λs n k=>Ll F (p++[s]) n _ _ _) (λs n k hk h=>ih (p++[s]) n _ _ _ (λw hw=>Zd hx w<|List.mem_of_getElem? hw) (λw hw=>Zd hy w<|Qm hw) (λw hw=>Zd hz w<|Qm hw) h) _ (gQ _) kX u hu
               exact LE (λw hw=>Zd hy w<|Ig hw) (λw hw=>Zd hz w<|Ig hw) kX u hu
              grind [Em]
            rw[Sf];cases Lh rl p with
            | none=>grind
            | some key =>
              simp only;split
              ·have hnd := Zc [Jb y key, Jb z key]
               have h1:=Ek hnd y key;have h2:=Ek hnd z key;have:=J5 (n:=n) (ks:=Ec [Jb y key,Jb z key]) (λk n=>Ll F (p++[Wi k]) n (Pb x key k) (Pb y key k)<|Pb z key k) (λk n h=>ih (p++[Wi k]) n _ _ _ (Ks hx key k) (Ks hy key k) (Ks hz key k) h) _ (gQ _) kX;unfold Av;simp only;split
               ·rename_i o ho
                intro v hv;obtain rfl:=lQ hv;refine YB λu hu=>?_;obtain⟨q,hq,rfl⟩:=nQ.1 hu;exact IQ this<|HG ho q hq
               exact Em _ _ _ _ _ hn'
              exact hgap
           exact Em _ _ _ _ _ hn'
          exact Em _ _ _ _ _ hn'
theorem at_l{F:Nat}{p:List Str}{n:Nat}(h:Ih l r=true):Je rl (F+1) p n b l r=(l,[]):=by rw[Je,uQ h]
theorem at_r{F:Nat}{p:List Str}{n:Nat}(h:¬Ih l r=true)(h2:Ih b l=true):Je rl (F+1) p n b l r=(r,[]):=by grind [Je]
theorem at_b{F:Nat}{p:List Str}{n:Nat}(h:¬Ih l r=true)(h2:¬Ih b l=true)(h3:Ih b r=true):Je rl (F+1) p n b l r=(l,[]):=by grind [Je]
theorem at_m{F:Nat}{p:List Str}{n:Nat}(h:¬Ih l r=true)(h2:¬Ih b l=true)(h3:¬Ih b r=true):Je rl (F+1) p n b l r=Lo rl (Je rl F) p n b l r:=by grind [Je]
theorem Xr{b l r:Tree}(h:¬okM rl b l r):Qe rl b l r=(zeroT,[],1):=tQ h
def Rm{b l r:Tree}(h:okM rl b l r):Qe rl b l r=UR (Je rl (39+1) [] 0 (some b) (some l) (some r)):=uQ h
theorem Hw{y:Tree}(hx:Ob x=true)(hy:Ob y=true):Zn x y=We x y:=by grind [Zn,Gj]
theorem PP(F:Nat)(p:List Str)(n:Nat)(b:Option Tree)(y z:Tree):∃v,(Je rl F p n b (some y) (some z)).1=some v:=by
  cases F with
  | zero=>exact⟨y,rfl⟩
  | succ F =>
    rw[Je];split
    ·grind
    split
    ·grind
    split
    ·grind
    cases b with
    | none=>exact⟨_,rfl⟩
    | some x =>
      simp only[Lo];split
      ·split
       ·exact⟨_,O⟩
       split
       ·have hg:∃v,(Sf.gapM (Je rl F) p n x y z).1=some v:=by
          unfold Sf.gapM;split <;> exact⟨_,rfl⟩
        rw[Sf];cases Lh rl p with
        | none=>exact hg
        | some key =>
          simp only;split
          ·unfold Av
           simp only;split <;> exact⟨_,rfl⟩
          exact hg
       exact⟨_,O⟩
      exact⟨_,O⟩
theorem twin_self{F:Nat}(p:List Str)(n m:Nat)(b l r:Option Tree)(h:Ic l<F):∃R:List Cf,(Je rl F p n b l r).2=R.map (pre p)/\(Je rl F p m b l r).2=R.map (pre p):=by
  obtain⟨R,h1,h2,-⟩:=GL (rl:=rl) (rl':=rl) F F p p (λ_=>rfl) n m b l r h h;grind
def QR{F:Nat}{p:List Str}{n:Nat}(h:Ic l<F):∀c∈(Je rl F p n b l r).2,∃s,c.path=p++s:=λc hc=>by
  obtain⟨R,h1,-⟩:=twin_self (rl:=rl) p n n b l r h;rw[h1]at hc;obtain⟨d,_,rfl⟩:=nQ.1 hc;exact⟨d.path,O⟩
theorem MG(h:Fd x=true)(hk:x.kind=6)(key:Str):Xi x key=((Hd x key).getD zeroT,(Hd x key).isSome):=by grind [Xi,Hd,zeroT]
def Jt(x:Tree):Ka (blankT x)=Ka x/\Cb (blankT x)=Cb x:=Tree.ind (Q:=λx=>Ka (blankT x)=Ka x/\Cb (blankT x)=Cb x) (λk t ks xs ih=>by
  rw[blankT,Ka,Ka,Cb,Cb];have:∀ys:List Tree,(∀y∈ys,Ka (blankT y)=Ka y/\Cb (blankT y)=Cb y)->Qa (Wq ys)=Qa ys/\Fb (Wq ys)=Fb ys:=λys=>by
    induction ys with
    | nil=>intro _;exact⟨rfl,rfl⟩
    | cons y ys ihy =>
      intro h;obtain⟨h1,h2⟩:=h y Da;obtain⟨h3,h4⟩:=ihy λz hz=>h z zG;rw[Wq,Qa,Qa,Fb,Fb,h1,h2,h3,h4];exact⟨O,O⟩
  obtain⟨h1,h2⟩:=this xs ih;rw[h1,h2];exact⟨O,O⟩) x
theorem findR_nil(p:List Str):Lh [] p=none:=rfl
abbrev Kf:=List Str × Int × Option Tree × Option Tree × Option Tree
def nfS(s:Sd):Option Tree:=if s.has=true then some (sortT s.val) else none
def K1(c:Cf):Kf:=(c.path,c.cls,nfS c.b,nfS c.l,nfS c.r)
def K2(c:Cf):Kf:=(c.path,c.cls,nfS c.b,nfS c.r,nfS c.l)
theorem U2{α β:Type}{f g:α->List β}:∀{l:List α},(∀a∈l,(f a).Perm (g a))->(l.flatMap f).Perm (l.flatMap g)
  | [],_=>.refl _
  | a :: l, h => by
    rw[List.flatMap_cons,List.flatMap_cons];exact (h a Da).append (U2 λb hb=>h b kH)
def Wu:List Nat->Nat
  | []=>0
  | a::l=>max a (Wu l)
theorem VM(l m:List Nat):Wu (l++m)=max (Wu l) (Wu m):=by
  induction l with
  | nil=>simp[Wu]
  | cons a l ih=>grind [Wu]
theorem maxN_perm{l m:List Nat}(h:l.Perm m):Wu l=Wu m:=by
  induction h with
  | nil=>rfl
  | cons a _ ih=>grind [Wu]
  | swap a b l=>grind [Wu]
  | trans _ _ i1 i2=>grind
theorem JO(xs:List Tree):Fb xs=Wu (xs.map Cb):=by
  induction xs with
  | nil=>rfl
  | cons x xs ih=>grind [Fb,Wu]
structure Tn (a b:Mo):Prop where
  perm:(a.2.map K1).Perm (b.2.map K2)
  size:Af a.1=Af b.1
  depth:Ic a.1=Ic b.1
  same:a.2=[]->a.1.map sortT=b.1.map sortT
theorem Tn.nil{b:Mo}(h:Tn a b):a.2=[]↔b.2=[]:=by
  have:=h.perm.length_eq;grind
def Tn.some_{b:Mo}(h:Tn a b):a.1.isSome=b.1.isSome:=by
  have:=h.size;obtain⟨a1,a2⟩:=a;obtain⟨b1,b2⟩:=b;cases a1 with
  | none => cases b1 with
    | none=>rfl
    | some y =>
      have:=Vo y;simp[Af]at *;omega
  | some x => cases b1 with
    | none =>
      have:=Vo x;simp[Af]at *;omega
    | some y=>rfl
def Dt(f:Str->Nat->Mo):Prop:=∀k n m,(f k n).2=(f k m).2/\Ul (f k n).1=Ul (f k m).1
def blank_szO(h:Ul o=Ul u):Af o=Af u/\Ic o=Ic u/\o.isSome=u.isSome:=by
  cases o with
  | none => cases u with
    | none=>exact⟨rfl,rfl,rfl⟩
    | some y=>cases h
  | some x => cases u with
    | none=>cases h
    | some y =>
      have h':blankT x=blankT y:=lQ h;exact⟨by rw[Af,Af,<-(Jt x).1,<-(Jt y).1,h'],by rw[Ic,Ic,<-(Jt x).2,<-(Jt y).2,h'],O⟩
section
variable {f g:Str->Nat->Mo}{n m:Nat}{ks ks':List Str}
theorem Hx(hf:Dt f):∀j,j<=aL ks->(Cd f n ks j).2=(ks.take j).flatMap (λk=>(f k 0).2) /\
    ((Cd f n ks j).1.map (·.1))=(ks.take j).filter (λk=>(f k 0).1.isSome) /\
    ((Cd f n ks j).1.map λz=>Ka z.2).sum=((ks.take j).map λk=>Af (f k 0).1).sum /\
    Wu ((Cd f n ks j).1.map λz=>Cb z.2)=Wu ((ks.take j).map λk=>Ic (f k 0).1)
  | 0,_=>by simp[Cd]
  | j + 1, hj => by
    obtain⟨h1,h2,h3,h4⟩:=Hx hf j kX;have e:ks.getD j []=ks[j]:=by simp[List.getD,show j<aL ks by omega]
    obtain⟨k1,k2⟩:=hf ks[j] (n+aL (Cd f n ks j).2) 0;obtain⟨k3,k4,k5⟩:=blank_szO k2;rw[Cd,e,iQ kX];simp only[List.flatMap_append,jQ,List.filter_append,List.sum_append,VM,<-h1,<-h2,<-h3,<-h4,<-k1,<-k3,<-k4,<-k5,List.flatMap_cons,List.flatMap_nil,qQ,jZ,List.map_nil,List.sum_cons,List.sum_nil,List.filter_cons,List.filter_nil];refine⟨trivial,?_,?_,?_⟩
    all_goals cases (f ks[j] (n+aL (Cd f n ks j).2)).1 <;> simp[Af,Ic,Wu,ID]
theorem Z4(H:∀k∈ks,∀n m,(f k n).1.map sortT=(f k m).1.map sortT):∀j,j<=aL ks->(Cd f n ks j).1.map (λz=>(z.1,sortT z.2))=(ks.take j).filterMap λk=>((f k 0).1.map sortT).map λx=>(k,x)
  | 0,_=>by simp[Cd]
  | j + 1, hj => by
    have e:ks.getD j []=ks[j]:=by simp[List.getD,show j<aL ks by omega]
    have h1:=H ks[j] (eQ _) (n+aL (Cd f n ks j).2) 0;rw[Cd,e,iQ kX,jQ,Z4 H j kX,List.filterMap_append,List.filterMap_cons,List.filterMap_nil,<-h1];cases (f ks[j] (n+aL (Cd f n ks j).2)).1 <;> rfl
theorem Bj{F:Str->Option Tree}{key:Str}:∀{l:List Str},key∈l->Wb ((l.filterMap λk=>(F k).map λx=>(k,x)).map (·.1)) ((l.filterMap λk=>(F k).map λx=>(k,x)).map (·.2)) key=F key
  | k :: l, h => by
    rw[List.filterMap_cons];by_cases e:k=key
    ·subst e
     cases hF:F k with
     | none =>
       simp only[Option.map_none];by_cases hm:k∈l
       ·rw[Bj hm,hF]
       cases hh : Wb ((l.filterMap λk => (F k).map λx => (k, x)).map (·.1)) ((l.filterMap λk => (F k).map λx => (k, x)).map (·.2)) k with
       | none=>rfl
       | some y =>
         have:=Ss hh;obtain⟨z,hz,e⟩:=nQ.1 this;obtain⟨q,hq,e2⟩:=List.mem_filterMap.1 hz;obtain⟨x,_,rfl⟩:=Option.map_eq_some_iff.1 e2;exact absurd (e▸hq) hm
     | some x=>simp[Wb]
    have hm : key ∈ l := by rcases oQ.1 h with rfl|h;exact absurd rfl e;exact h
    cases hF:F k with
    | none=>simp only[Option.map_none];exact Bj hm
    | some x=>simp only[Option.map_some,jZ,Wb,tQ e];exact Bj hm
def QG(hf:Dt f)(hg:Dt g)(hp:ks.Perm ks')(H:∀k n m,Tn (f k n) (g k m)) :
    ((Cd f n ks (aL ks)).2.map K1).Perm ((Cd g m ks' (aL ks')).2.map K2) /\
    ((Cd f n ks (aL ks)).1.map (·.1)).Perm ((Cd g m ks' (aL ks')).1.map (·.1)) /\
    ((Cd f n ks (aL ks)).1.map λz=>Ka z.2).sum=((Cd g m ks' (aL ks')).1.map λz=>Ka z.2).sum /\
    Wu ((Cd f n ks (aL ks)).1.map λz=>Cb z.2)=Wu ((Cd g m ks' (aL ks')).1.map λz=>Cb z.2):=by
  obtain⟨h1,h2,h3,h4⟩:=Hx (n:=n) (ks:=ks) hf _<|gQ _;obtain⟨k1,k2,k3,k4⟩:=Hx (n:=m) (ks:=ks') hg _<|gQ _;rw[List.take_length]at h1 h2 h3 h4 k1 k2 k3 k4;refine⟨?_,?_,?_,?_⟩
  ·rw[h1, k1, List.map_flatMap, List.map_flatMap]
   exact (U2 λk _=>(H k 0 0).perm).trans (hp.flatMap_right _)
  ·rw[h2, k2]
   have e:(λk=>(f k 0).1.isSome)=λk=>(g k 0).1.isSome:=funext λk=>(H k 0 0).some_;rw[e];exact hp.filter _
  ·rw[h3, k3]
   have e:(λk=>Af (f k 0).1)=λk=>Af (g k 0).1:=funext λk=>(H k 0 0).size;rw[e];exact (hp.map _).sum_nat
  rw[h4, k4];have e:(λk=>Ic (f k 0).1)=λk=>Ic (g k 0).1:=funext λk=>(H k 0 0).depth;rw[e];exact maxN_perm<|hp.map _
def W8(hf:Dt f)(hg:Dt g)(hp:ks.Perm ks')(H:∀k n m,Tn (f k n) (g k m))(h0:(Cd f n ks (aL ks)).2=[])(key:Str) :
    (Wb ((Cd f n ks (aL ks)).1.map (·.1)) ((Cd f n ks (aL ks)).1.map (·.2)) key).map sortT=(Wb ((Cd g m ks' (aL ks')).1.map (·.1)) ((Cd g m ks' (aL ks')).1.map (·.2)) key).map sortT:=by
  have h1:=(Hx (n:=n) (ks:=ks) hf _<|gQ _).1;rw[List.take_length,h0]at h1;have hz:∀k∈ks,∀n,(f k n).2=[]:=λk hk n=>by
    rw[(hf k n 0).1];exact List.flatMap_eq_nil_iff.1 h1.symm k hk
  have hfs:∀k∈ks,∀n m,(f k n).1.map sortT=(f k m).1.map sortT:=λk hk n m=>((H k n 0).same (hz k hk n)).trans ((H k m 0).same (hz k hk m)).symm;have hgs:∀k∈ks',∀n m,(g k n).1.map sortT=(g k m).1.map sortT:=λk hk n m=>by
    have hk':=hp.mem_iff.2 hk;exact ((H k 0 n).same (hz k hk' 0)).symm.trans ((H k 0 m).same (hz k hk' 0))
  have e1:=Z4 (n:=n) hfs _<|gQ _;have e2:=Z4 (n:=m) hgs _<|gQ _;rw[List.take_length]at e1 e2;have lk:∀a:List (Str × Tree),(Wb (a.map (·.1)) (a.map (·.2)) key).map sortT=Wb ((a.map λz=>(z.1,sortT z.2)).map (·.1)) ((a.map λz=>(z.1,sortT z.2)).map (·.2)) key:=λa=>by
    rw[<-Xh,Hf,List.map_map,List.map_map,List.map_map];rfl
  rw[lk,lk,e1,e2];by_cases hm:key∈ks
  ·rw[Bj hm, Bj (hp.mem_iff.1 hm)]
   exact (H key 0 0).same (hz key hm 0)
  have no:∀{F:Str->Option Tree}{l:List Str},key∉l->Wb ((l.filterMap λk=>(F k).map λx=>(k,x)).map (·.1)) ((l.filterMap λk=>(F k).map λx=>(k,x)).map (·.2)) key=none:=fun {F l} hm=>by
    cases hh:Wb ((l.filterMap λk=>(F k).map λx=>(k,x)).map (·.1)) ((l.filterMap λk=>(F k).map λx=>(k,x)).map (·.2)) key with
    | none=>rfl
    | some y =>
      have:=Ss hh;obtain⟨z,hz,e⟩:=nQ.1 this;obtain⟨q,hq,e2⟩:=List.mem_filterMap.1 hz;obtain⟨x,_,rfl⟩:=Option.map_eq_some_iff.1 e2;exact absurd (e▸hq) hm
  rw[no hm,no λh=>hm<|hp.mem_iff.2 h]
end
theorem VO(p:List Str)(x y:Str):Cc p x y = -1\/Cc p x y=0\/Cc p x y=1:=by
  unfold Cc;split
  ·unfold Lib.compareInt
   grind
  grind
theorem ME(p:List Str)(x y:Str):Cc p y x = - Cc p x y:=by
  unfold Cc;by_cases h:x∈p/\y∈p
  ·rw[uQ h, uQ ⟨h.2, h.1⟩]
   unfold Lib.compareInt;grind
  grind
theorem X9(b l r:List Str)(x y:Str):Dc b r l x y=Dc b l r x y:=by grind [Dc,VO,Cc]
theorem VS(b l r:List Str)(x y:Str):Dc b l r y x=(Dc b l r x y).map λz=>-z:=by grind [Dc,ME,VO,Cc]
theorem RU(b l r:List Str)(x:Str):Dc b l r x x=some 0:=by grind [Cc,ME,Dc]
theorem clash_iff(b l r names:List Str):Uj b l r names=true↔∃x∈names,∃y∈names,Dc b l r x y=none:=by
  unfold Uj;rw[List.any_eq_true];constructor
  ·grind
  rintro⟨x, hx, y, hy, h⟩;obtain⟨i,hi,rfl⟩:=List.mem_iff_getElem.1 hx;obtain⟨j,hj,rfl⟩:=List.mem_iff_getElem.1 hy;have key:∀i j (hi:i<aL names) (hj:j<aL names),j<i->Dc b l r names[i] names[j]=none->∃x,x∈List.range (aL names)/\((names.take x).any λy=>decide (Dc b l r (names.getD x []) y=none))=true:=λi j hi hj hlt h=>by
    refine⟨i,List.mem_range.2 hi,List.any_eq_true.2 ⟨names[j],List.mem_take_iff_getElem.2 ⟨j,by_Om,O⟩,?_⟩⟩;rw[List.getD,List.getElem?_eq_getElem hi,Option.getD_some];exact fZ h
  grind [VS,RU]
theorem XE(b l r:List Str):∀(F:Nat)(rest:List Str),Hh b r l F rest=Hh b l r F rest
  | 0,_=>rfl
  | F + 1, rest => by
    have e:Lu b r l rest=Lu b l r rest:=funext λs=>by unfold Lu;simp only[X9]
    rw[Hh,Hh,e];cases rest.find? (Lu b l r rest)with
    | none=>rfl
    | some s=>simp only[XE b l r F]
theorem NQ(b l r:List Str){names':List Str}(h:names.Perm names'):Pf b r l names'=Pf b l r names:=by
  have h1:Xe names'=Xe names:=by
    unfold Xe;rw[h.length_eq];grind
  have h2:Uj b r l names'=Uj b l r names:=by grind [clash_iff,X9]
  have h3:Me names'=Me names:=Vr h.symm;unfold Pf;rw[h1,h2,h3,XE,h.length_eq];grind
theorem ZF{b l r:List Str}:∀(F:Nat)(rest o:List Str),aL rest=F->Hh b l r F rest=some o->o.Perm rest
  | 0, rest, o, hl, h => by
    rw[Hh]at h;obtain rfl:=lQ h;rw[List.eq_nil_of_length_eq_zero hl]
  | F + 1, rest, o, hl, h => by
    rw[Hh]at h;split at h
    ·rename_i s hs
     obtain⟨o',h1,rfl⟩:=Option.map_eq_some_iff.1 h;have hm:=List.mem_of_find?_eq_some hs;have:=ZF F _ _ (by rw[List.length_erase_of_mem hm,hl];rfl) h1;exact (this.cons s).trans (List.perm_cons_erase hm).symm
    cases h
def Iz{b l r o:List Str}(h:Pf b l r names=some o):o.Perm names:=by
  unfold Pf at h;split at h
  ·exact (ZF _ _ _ (Ae names) h).trans (Nk names)
  cases h
def Xw(ho:Hp o)(hu:Hp u):Ih o u=true↔o.map sortT=u.map sortT:=by
  cases o with
  | none => cases u with
    | none=>simp[Ih]
    | some y=>simp[Ih]
  | some x => cases u with
    | none=>simp[Ih]
    | some y =>
      rw[Option.map_some,Option.map_some,Option.some.injEq];exact EB x (ho x O) y<|hu y O
def JL(ho:Hp o)(hu:Hp u)(h:o.map sortT=u.map sortT):Af o=Af u/\Ic o=Ic u:=by
  cases o with
  | none => cases u with
    | none=>exact⟨rfl,rfl⟩
    | some y=>cases h
  | some x => cases u with
    | none=>cases h
    | some y =>
      have h':sortT x=sortT y:=lQ h;have h1:=An x<|ho x rfl;have h2:=An y<|hu y rfl;rw[h']at h1;exact⟨h1.1.symm.trans h2.1,h1.2.symm.trans h2.2⟩
theorem CK(ho:Hp o)(hu:Hp u)(h:o.map sortT=u.map sortT):Tn (o,[]) (u,[]) :=
  ⟨.refl _,(JL ho hu h).1,(JL ho hu h).2,λ_=>h⟩
theorem Gm(p:List Str)(cls:Int)(n m:Nat)(b l r:Option Tree):Tn (Fj p cls n b l r) (Fj p cls m b r l) :=
  ⟨.refl _,by simp[Fj,Af,Lj,Ka,Qa],by simp[Fj,Ic,Lj,Cb,Fb],λh=>absurd h<|conM_some _ _ _ _ _ _⟩
def cls_turn(b l r:Option Tree):Wj b l r=Wj b r l:=by
  cases b with
  | none=>rfl
  | some x => cases l with
    | none=>cases r <;> rfl
    | some y => cases r with
      | none=>rfl
      | some z =>
        simp only[Wj];by_cases h:x.kind=y.kind/\x.kind=z.kind
        ·rw[uQ h,uQ ⟨h.2,h.1⟩]
        rw[tQ h,tQ λk=>h ⟨k.2,k.1⟩]
structure Ln (x y:List Tree) (c d:List Cf):Prop where
  perm:(c.map K1).Perm (d.map K2)
  size:Qa x=Qa y
  depth:Fb x=Fb y
  same:c=[]->x.map sortT=y.map sortT
def Ln.append{x x' y':List Tree}{c c' d':List Cf}(h:Ln x y c d)(k:Ln x' y' c' d'):Ln (x++x') (y++y') (c++c') (d++d') :=
  ⟨by rw[jQ,jQ];exact h.perm.append k.perm,by rw[Tc,Tc,h.size,k.size],by rw[Sl,Sl,h.depth,k.depth],
    λe=>by
      obtain⟨e1,e2⟩:=List.append_eq_nil_iff.1 e;rw[jQ,jQ,h.same e1,k.same e2]⟩
theorem Ln.refl(x:List Tree):Ln x x [] []:=⟨.refl _,rfl,rfl,λ_=>rfl⟩
theorem Ln.of{b:Mo}(h:Tn a b):Ln a.1.toList b.1.toList a.2 b.2:=by
  obtain⟨a1,a2⟩:=a;obtain⟨b1,b2⟩:=b;have hs:=h.some_;refine⟨h.perm,?_,?_,λe=>?_⟩
  ·have := h.size
   cases a1 <;> cases b1 <;> simp[Af,Qa]at *;grind
  ·have := h.depth
   cases a1 <;> cases b1 <;> simp[Ic,Fb]at *;grind
  have := h.same e;cases a1 <;> cases b1 <;> simp at *;grind
theorem V6:∀{x y:List Tree},(∀z∈x,Zb nodeB z=true)->(∀z∈y,Zb nodeB z=true)->x.map sortT=y.map sortT->Qa x=Qa y/\Fb x=Fb y
  | [],[],_,_,_=>⟨rfl,rfl⟩
  | [],_::_,_,_,h=>by cases h
  | _::_,[],_,_,h=>by cases h
  | a :: x, b :: y, hx, hy, h => by
    simp only[jZ,List.cons.injEq]at h;obtain⟨h1,h2⟩:=V6 (λz hz=>hx z zG) (λz hz=>hy z zG) h.2;have h3:=An a<|hx a Da;have h4:=An b<|hy b Da;rw[h.1]at h3;rw[Qa,Qa,Fb,Fb,h1,h2,<-h3.1,<-h4.1,<-h3.2,<-h4.2];exact⟨O,O⟩
theorem F1{x:List Tree}(hx:∀z∈x,Zb nodeB z=true)(hy:∀z∈y,Zb nodeB z=true):We (.node 5 [] [] x) (.node 5 [] [] y)=true↔x.map sortT=y.map sortT:=by grind [EB,YB,Km,Hf]
def VD(p:List Str)(g n m:Nat){x:List Tree}(hx:∀z∈x,Zb nodeB z=true)(hy:∀z∈y,Zb nodeB z=true):Ln (He p g n x y).1 (He p g m y x).1 (He p g n x y).2 (He p g m y x).2:=by
  unfold He;by_cases h1:aL x=0
  ·rw[uQ h1]
   by_cases h2:aL y=0
   ·rw[uQ h2, List.eq_nil_of_length_eq_zero h1, List.eq_nil_of_length_eq_zero h2]
    exact .refl _
   rw[tQ h2, uQ (.inl h1)];exact .refl _
  rw[tQ h1];by_cases h2:aL y=0
  ·rw[uQ<|.inl h2, uQ h2]
   exact .refl _
  rw[tQ h2];by_cases h3:We (.node 5 [] [] x) (.node 5 [] [] y)=true
  ·have h4 := (F1 hx hy).1 h3
   rw[uQ<|.inr h3,uQ<|.inr<|(F1 hy hx).2 h4.symm];have h5:=V6 hx hy h4;exact⟨.refl _,h5.1,h5.2,λ_=>h4⟩
  have h4 : ¬ We (.node 5 [] [] y) (.node 5 [] [] x) = true := λh => h3 ((F1 hx hy).2 ((F1 hy hx).1 h).symm);rw[tQ λh=>h.elim h2 h3,tQ λh=>h.elim h1 h4];exact⟨.refl _,by simp[Qa,Lj,Ka],by simp[Fb,Lj,Cb],λh=>by cases h⟩
theorem EG{f:Fm}{p:List Str}{base:List Tree}{x y:By}(hx:∀z∈x.items,Zb nodeB z=true)(hy:∀z∈y.items,Zb nodeB z=true)
    (H:∀s n m k,Tn (f (p++[s]) n base[k]? (x.item k) (y.item k)) (f (p++[s]) m base[k]? (y.item k) (x.item k))) (n m:Nat) :
    ∀j,Ln (Jd f p n base x y j).1 (Jd f p m base y x j).1 (Jd f p n base x y j).2 (Jd f p m base y x j).2
  | 0=>.refl _
  | j + 1 => by
    rw[Jd,Jd];exact ((EG hx hy H n m j).append (VD p j _ _ (λz hz=>hx z<|Ig hz) λz hz=>hy z<|Ig hz)).append (Ln.of<|H _ _ _ j)
def tn_arr{x:List Tree}{c:List Cf}(h:Ln x y c d):Tn (some (.node 5 [] [] x),c) (some (.node 5 [] [] y),d) :=
  ⟨h.perm,by simp only[Af,Ka,h.size],by simp only[Ic,Cb,h.depth],λe=>by
    rw[Option.map_some,Option.map_some,Km,Km,tQ Ra,tQ Ra,Hf,Hf,h.same e]⟩
def ER{f:Fm}{p:List Str}{base:List Tree}{x y:By}(hx:∀z∈x.items,Zb nodeB z=true)(hy:∀z∈y.items,Zb nodeB z=true)
    (H:∀s n m k,Tn (f (p++[s]) n base[k]? (x.item k) (y.item k)) (f (p++[s]) m base[k]? (y.item k) (x.item k))) (n m:Nat):Tn (Rq f p n base x y) (Rq f p m base y x) :=
  tn_arr ((EG hx hy H n m (aL base)).append (VD p (aL base) _ _ (λz hz=>hx z<|Ig hz) λz hz=>hy z<|Ig hz))
theorem BA(a b:List Str):(Ec [a,b]).Perm (Ec [b,a]):=by grind [Zc,Ec,Uo]
theorem H0:∀(a:List (Str × Tree)),(a.map (·.1)).Nodup->(a.map (·.1)).map (Qi a)=a.map (·.2)
  | [],_=>rfl
  | x :: a, h => by
    rw[jZ,List.nodup_cons]at h;have ih:=H0 a h.2;rw[jZ,jZ,jZ,<-ih];have e1:Qi (x::a) x.1=x.2:=by simp[Qi,Wb]
    rw[e1]
    congr 1
    refine List.map_congr_left λk hk=>?_;have hne:¬x.1=k:=λe=>h.1<|e▸hk;simp[Qi,Wb,hne]
def sort_pick(a:List (Str × Tree))(id:Str):sortT (Qi a id)=((Wb (a.map (·.1)) (a.map (·.2)) id).map sortT).getD zeroT:=by
  unfold Qi;cases Wb (a.map (·.1)) (a.map (·.2)) id with
  | none=>rfl
  | some y=>rfl
theorem Yo(l:List (Str × Tree)):Qa (l.map (·.2))=(l.map λz=>Ka z.2).sum/\Fb (l.map (·.2))=Wu (l.map λz=>Cb z.2):=by
  rw[Ez,JO,List.map_map,List.map_map];exact⟨O,O⟩
theorem atM_turn:∀(F:Nat)(p:List Str)(n m:Nat)(b l r:Option Tree),Hp b->Hp l->Hp r->Ic l<F->Ic r<F->Tn (Je rl F p n b l r) (Je rl F p m b r l):=by
  intro F
  induction F with
  | zero=>grind
  | succ F ih =>
    intro p n m b l r hb hl hr dl dr;have i1:=Xw hl hr;have i2:=Xw hr hl;have i3:=Xw hb hl;have i4:=Xw hb hr;by_cases c1:Ih l r=true
    ·grind [at_l,CK]
    have c1' : ¬ Ih r l = true := by grind
    by_cases c2:Ih b l=true
    ·grind [Ih,at_r,at_b,CK]
    by_cases c3 : Ih b r = true
    ·grind [at_b,at_r,CK]
    rw[at_m c1 c2 c3, at_m c1' c3 c2];have sub:∀(s:Str)(n m:Nat)(b' l' r':Option Tree),Hp b'->Hp l'->Hp r'->Ic l'<F->Ic r'<F->Tn (Je rl F (p++[s]) n b' l' r') (Je rl F (p++[s]) m b' r' l'):=qK
    have st:∀(s:Str)(n m:Nat)(b' l' r':Option Tree),Ic l'<F->(Je rl F (p++[s]) n b' l' r').2=(Je rl F (p++[s]) m b' l' r').2/\Ul (Je rl F (p++[s]) n b' l' r').1=Ul (Je rl F (p++[s]) m b' l' r').1:=λs n m b' l' r' h=>by
      obtain⟨R,h1,h2,h3⟩:=GL (rl:=rl) (rl':=rl) F F (p++[s]) (p++[s]) (λ_=>rfl) n m b' l' r' h h;exact⟨h1.trans h2.symm,h3⟩
    cases b with
    | none =>
      show Tn (Fj p (Wj none l r) n none l r) (Fj p (Wj none r l) m none r l);rw[cls_turn none l r];grind [Gm]
    | some x =>
      cases l with
      | none => cases r with
        | none=>exact absurd rfl c1
        | some z=>exact Gm ..
      | some y =>
        cases r with
        | none=>exact Gm ..
        | some z =>
          have hx:=hb x rfl;have hy:=hl y rfl;have hz:=hr z rfl;simp only[Ic]at dl dr;simp only[Lo];by_cases c4:x.kind=y.kind/\x.kind=z.kind
          ·rw[uQ c4, uQ (show x.kind = z.kind /\ x.kind = y.kind from⟨c4.2, c4.1⟩)]
           by_cases c5:x.kind=6
           ·rw[uQ c5, uQ c5]
            have hd:∀k,Ic (Hd y k)<F/\Ic (Hd z k)<F:=λk=>⟨by have:=Vm y k;omega,by have:=Vm z k;omega⟩;have sf:Dt λk m=>Je rl F (p++[k]) m (Hd x k) (Hd y k) (Hd z k):=λk n m=>st k n m _ _ _ (hd k).1;have sg:Dt λk m=>Je rl F (p++[k]) m (Hd x k) (Hd z k) (Hd y k):=λk n m=>st k n m _ _ _ (hd k).2;have H:∀k n m,Tn (Je rl F (p++[k]) n (Hd x k) (Hd y k)<|Hd z k) (Je rl F (p++[k]) m (Hd x k) (Hd z k)<|Hd y k):=by grind [Hd,C8]
            have hp:=BA y.keys z.keys;obtain⟨t1,t2,t3,t4⟩:=QG (n:=n) (m:=m) sf sg hp H;refine⟨t1,?_,?_,λh0=>?_⟩
            ·grind [L9,Af,Ka,Yo]
            ·grind [L9,Ic,Cb,Yo]
            have t5 := W8 (n := n) (m := m) sf sg hp H h0;simp only[L9,Option.map_some];rw[Km,Km,uQ rfl,uQ rfl];have e1:=Vr t2;have e1':Me ((Cd (λk m=>Je rl F (p++[k]) m (Hd x k) (Hd y k)<|Hd z k) n (Ec [y.keys,z.keys]) (aL (Ec [y.keys,z.keys]))).1.map (·.1))=Me ((Cd (λk m=>Je rl F (p++[k]) m (Hd x k) (Hd z k)<|Hd y k) m (Ec [z.keys,y.keys]) (aL (Ec [z.keys,y.keys]))).1.map (·.1)):=e1;have e2:∀(a c:List (Str × Tree)),Me (a.map (·.1))=Me (c.map (·.1))->(∀key,(Wb (a.map (·.1)) (a.map (·.2)) key).map sortT=(Wb (c.map (·.1)) (c.map (·.2)) key).map sortT)->R4 (a.map (·.1)) (a.map (·.2))=R4 (c.map (·.1)) (c.map (·.2)):=λa c h1 h2=>by
              unfold R4;rw[h1];refine List.map_congr_left λkey _=>?_;rw[Xh,Xh,h2]
            grind
           rw[tQ c5, tQ c5];by_cases c6:x.kind=5
           ·rw[uQ c6, uQ c6]
            have hgap:Tn (Sf.gapM (Je rl F) p n x y z) (Sf.gapM (Je rl F) p m x z y):=by
              unfold Sf.gapM;by_cases c7:Pe x.items=0/\Pe y.items=0/\Pe z.items=0
              ·rw[uQ c7, uQ (show Pe x.items = 0 /\ Pe z.items = 0 /\ Pe y.items = 0 from⟨c7.1, c7.2.2, c7.2.1⟩)]
               exact ER (x:=Fc x.items y.items) (y:=Fc x.items z.items) (Zd hy) (Zd hz) (λs n m k=>sub s n m _ _ _ (λw hw=>Zd hx w<|List.mem_of_getElem? hw) (λw hw=>Zd hy w<|Qm hw) (λw hw=>Zd hz w<|Qm hw)
                 bP (by have:=Ps (k:=0) (t:=[]) (ks:=[]) (base:=x.items) z k;omega)) n m
              rw[tQ c7, tQ (show ¬ (Pe x.items = 0 /\ Pe z.items = 0 /\ Pe y.items = 0) from λh => c7 ⟨h.1, h.2.2, h.2.1⟩)];exact Gm ..
            rw[Sf,Sf];cases Lh rl p with
            | none=>exact hgap
            | some key =>
              have hk:LI key x z y=LI key x y z:=by
                unfold LI;rw[Bool.and_comm (Fl z key).isSome]
              simp only[hk];split
              ·have hd : ∀k, Ic (Pb y key k)<F /\ Ic (Pb z key k)<F := λk => ⟨by have := Lk y key k;omega, by have := Lk z key k;omega⟩
               have sf:Dt λk m=>Je rl F (p++[Wi k]) m (Pb x key k) (Pb y key k) (Pb z key k):=λk n m=>st (Wi k) n m _ _ _ (hd k).1;have sg:Dt λk m=>Je rl F (p++[Wi k]) m (Pb x key k) (Pb z key k) (Pb y key k):=λk n m=>st (Wi k) n m _ _ _ (hd k).2;have H:∀k n m,Tn (Je rl F (p++[Wi k]) n (Pb x key k) (Pb y key k)<|Pb z key k) (Je rl F (p++[Wi k]) m (Pb x key k) (Pb z key k)<|Pb y key k):=λk n m=>sub (Wi k) n m _ _ _ (Ks hx key k) (Ks hy key k) (Ks hz key k) (hd k).1 (hd k).2;have hp:=BA (Jb y key)<|Jb z key;obtain⟨t1,t2,t3,t4⟩:=QG (n:=n) (m:=m) sf sg hp H;have n1:=Wh (f:=λk m=>Je rl F (p++[Wi k]) m (Pb x key k) (Pb y key k)<|Pb z key k) (n:=n) (ks:=Ec [Jb y key,Jb z key]) _<|gQ _;have n2:=Wh (f:=λk m=>Je rl F (p++[Wi k]) m (Pb x key k) (Pb z key k)<|Pb y key k) (n:=m) (ks:=Ec [Jb z key,Jb y key]) _<|gQ _;rw[List.take_length]at n1 n2;have d1:=(Zc [Jb y key,Jb z key]).sublist n1;have d2:=(Zc [Jb z key,Jb y key]).sublist n2;have t5:=λh0=>W8 (n:=n) (m:=m) sf sg hp H h0;unfold Av;simp only;generalize Cd (λk m=>Je rl F (p++[Wi k]) m (Pb x key k) (Pb y key k)<|Pb z key k) n (Ec [Jb y key,Jb z key]) (aL (Ec [Jb y key,Jb z key]))=a at t1 t2 t3 t4 t5 d1 ⊢;generalize Cd (λk m=>Je rl F (p++[Wi k]) m (Pb x key k) (Pb z key k)<|Pb y key k) m (Ec [Jb z key,Jb y key]) (aL (Ec [Jb z key,Jb y key]))=c at t1 t2 t3 t4 t5 d2 ⊢;rw[NQ (Jb x key) (Jb y key) (Jb z key) t2];cases ho:Pf (Jb x key) (Jb y key) (Jb z key) (a.1.map (·.1))with
               | none=>exact Gm ..
               | some o =>
                 have hpo:=Iz ho;have p1:(o.map<|Qi a.1).Perm (a.1.map (·.2)):=by rw[<-H0 a.1 d1];exact hpo.map _
                 have p2:(o.map<|Qi c.1).Perm (c.1.map (·.2)):=by rw[<-H0 c.1 d2];exact (hpo.trans t2).map _
                 refine tn_arr ⟨t1,?_,?_,λh0=>?_⟩
                 ·rw[Hn p1,Hn p2,(Yo _).1,(Yo _).1,t3]
                 ·rw[St p1,St p2,(Yo _).2,(Yo _).2,t4]
                 rw[List.map_map, List.map_map];refine List.map_congr_left λid _=>?_;simp only[Function.comp_def,sort_pick,t5 h0 id]
              exact hgap
           rw[tQ c6, tQ c6];exact Gm ..
          rw[tQ c4,tQ (show ¬(x.kind=z.kind/\x.kind=y.kind) from λh=>c4 ⟨h.2,h.1⟩)];exact Gm ..
def itB(i:Nat):Bool:=(Lib.itoa i).head? != some 43&&(List.range 65).all λj=>i==j || Lib.itoa i != Lib.itoa j
def it_all:(List.range 65).all itB=true:=by kernel_rfl
theorem it_is(h:i<65):(Lib.itoa i).head?≠some 43/\∀j:Nat,j<65->Lib.itoa i=Lib.itoa j->i=j:=by
  have:=List.all_eq_true.1 it_all i<|List.mem_range.2 h;grind [itB]
theorem UJ(h:j<65):Ws i≠Lib.itoa j:=λe=>(it_is h).1 (by rw[<-e];rfl)
theorem VY(hi:i<65)(hj:j<65)(h:Ws i=Ws j):i=j:=(it_is hi).2 j hj (by injection h)
theorem Kx{α:Type}{x y:List α}(hx:x.Nodup)(hy:y.Nodup)(h:∀a∈x,a∉y):(x++y).Nodup:=qK
theorem Qy{f:Str->Nat->Mo}{n:Nat}{ks:List Str}(hn:ks.Nodup)(st:Str->Str)(p:List Str)(hst:∀a b,st a=st b->a=b)(hp:∀k n,∀c∈(f k n).2,∃s,c.path=p++(st k::s))(hN:∀k n,((f k n).2.map (·.path)).Nodup):∀j,j<=aL ks ->
    ((Cd f n ks j).2.map (·.path)).Nodup/\∀c∈(Cd f n ks j).2,∃k∈ks.take j,∃s,c.path=p++(st k::s)
  | 0,_=>⟨List.nodup_nil,λc hc=>by cases hc⟩
  | j + 1, hj => by
    obtain⟨i1,i2⟩:=Qy (n:=n) hn st p hst hp hN j kX;have e:ks.getD j []=ks[j]:=by simp[List.getD,show j<aL ks by omega]
    rw[iQ (show j<aL ks by omega),Cd,e,jQ];refine⟨Kx i1 (hN _ _) λa ha hb=>?_,λc hc=>?_⟩
    ·obtain⟨c, hc, rfl⟩ := nQ.1 ha
     obtain⟨d,hd,e2⟩:=nQ.1 hb;obtain⟨k,hk,s,hs⟩:=i2 c hc;obtain⟨s',hs'⟩:=hp _ _ d hd;rw[hs,hs']at e2;have e3:=List.append_cancel_left e2;injection e3 with e4 _
     have e5:=hst _ _ e4;obtain⟨i,hi,e6⟩:=List.mem_iff_getElem.1 hk;rw[iZ]at hi;rw[List.getElem_take]at e6;exact List.pairwise_iff_getElem.1 hn i j kX kX kX<|e6.trans e5.symm
    rcases mQ.1 hc with hc|hc
    ·obtain⟨k, hk, h⟩ := i2 c hc
     exact⟨k,mQ.2<|.inl hk,h⟩
    exact⟨ks[j],mQ.2<|.inr<|pQ.2 O,hp _ _ c hc⟩
theorem M9(p:List Str)(g n:Nat)(x y:List Tree):((He p g n x y).2.map (·.path)).Nodup/\∀c∈(He p g n x y).2,c.path=p++[Ws g]:=by grind [He]
theorem Y8{f:Fm}{p:List Str}{n:Nat}{base:List Tree}{x y:By}(hp:∀s n k,∀c∈(f (p++[s]) n base[k]? (x.item k) (y.item k)).2,∃t,c.path=p++(s::t))
    (hN:∀s n k,((f (p++[s]) n base[k]? (x.item k) (y.item k)).2.map (·.path)).Nodup):∀j,j<=64 ->
    ((Jd f p n base x y j).2.map (·.path)).Nodup/\∀c∈(Jd f p n base x y j).2,∃i,i<j/\((∃t,c.path=p++(Ws i::t))\/∃t,c.path=p++(Lib.itoa i::t))
  | 0,_=>⟨List.nodup_nil,λc hc=>by cases hc⟩
  | j + 1, hj => by
    obtain⟨i1,i2⟩:=Y8 (n:=n) hp hN j kX;obtain⟨q1,q2⟩:=M9 p j (n+aL (Jd f p n base x y j).2) (x.put j)<|y.put j;have g1:=hN (Lib.itoa j) (n+((Jd f p n base x y j).2++(He p j (n+aL (Jd f p n base x y j).2) (x.put j)<|y.put j).2).length) j;have g2:=hp (Lib.itoa j) (n+((Jd f p n base x y j).2++(He p j (n+aL (Jd f p n base x y j).2) (x.put j)<|y.put j).2).length) j;rw[Jd,jQ,jQ];have cut:∀{s t:Str}{u v:List Str},p++(s::u)=p++(t::v)->s=t:=λh=>by have:=List.append_cancel_left h;injection this
    refine⟨Kx (Kx i1 q1 λa ha hb=>?_) g1 λa ha hb=>?_,λc hc=>?_⟩
    ·obtain⟨c, hc, rfl⟩ := nQ.1 ha
     obtain⟨d,hd,e2⟩:=nQ.1 hb;rw[q2 d hd]at e2;obtain⟨i,hi,⟨t,ht⟩|⟨t,ht⟩⟩:=i2 c hc
     ·rw[ht]at e2;have:=VY kX kX<|cut e2;omega
     rw[ht]at e2;exact UJ kX<|cut e2
    ·obtain⟨d, hd, e2⟩ := nQ.1 hb
     obtain⟨s',hs'⟩:=g2 d hd;rw[hs']at e2;rw[<-jQ]at ha;obtain⟨c,hc,rfl⟩:=nQ.1 ha;rcases mQ.1 hc with hc|hc
     ·obtain⟨i, hi, ⟨t, ht⟩|⟨t, ht⟩⟩ := i2 c hc
      ·rw[ht]at e2;exact UJ kX (cut e2).symm
      rw[ht]at e2;have:=(it_is (i:=j) kX).2 i kX (cut e2);omega
     rw[q2 c hc]at e2;exact UJ kX (cut e2).symm
    rcases mQ.1 hc with hc|hc
    ·rcases mQ.1 hc with hc|hc
     ·obtain⟨i,hi,h⟩:=i2 c hc;exact⟨i,by_Om,h⟩
     exact⟨j,by_Om,.inl ⟨[],q2 c hc⟩⟩
    obtain⟨t,ht⟩:=g2 c hc;exact⟨j,by_Om,.inr ⟨t,ht⟩⟩
theorem Jk(p:List Str)(cls:Int)(n:Nat)(b l r:Option Tree):((Fj p cls n b l r).2.map (·.path)).Nodup:=by simp[Fj]
theorem atM_paths:∀(F:Nat)(p:List Str)(n:Nat)(b l r:Option Tree),Ic l<F->((Je rl F p n b l r).2.map (·.path)).Nodup:=by
  intro F
  induction F with
  | zero=>grind
  | succ F ih =>
    intro p n b l r h;rw[Je];split
    ·grind
    split
    ·grind
    split
    ·grind
    have pf:∀(s:Str)(n:Nat)(b' l' r':Option Tree),Ic l'<F->∀c∈(Je rl F (p++[s]) n b' l' r').2,∃t,c.path=p++(s::t):=λs n b' l' r' hd c hc=>by
      obtain⟨t,ht⟩:=QR hd c hc;exact⟨t,by rw[ht,sQ];rfl⟩
    cases b with
    | none=>exact Jk ..
    | some x =>
      cases l with
      | none=>exact Jk ..
      | some y =>
        cases r with
        | none=>exact Jk ..
        | some z =>
          simp only[Ic]at h;simp only[Lo];split
          ·split
           ·have hd : ∀k, Ic (Hd y k)<F := λk => by have := Vm y k;omega
            exact (Qy (n:=n) (Zc [y.keys,z.keys]) id p (λ_ _ e=>e) (λk n=>pf k n _ _ _<|hd k) (λk n=>ih (p++[k]) n _ _ _<|hd k) _<|gQ _).1
           split
           ·have hgap:((Sf.gapM (Je rl F) p n x y z).2.map (·.path)).Nodup:=by
              unfold Sf.gapM;split
              ·rename_i he
               have hl:=(E2 he.1).2.1;have hd:∀k,Ic ((Fc x.items y.items).item k)<F:=λk=>by have:=Ps (k:=0) (t:=[]) (ks:=[]) (base:=x.items) y k;omega
               obtain⟨a1,a2⟩:=Y8 (n:=n) (base:=x.items) (x:=Fc x.items y.items) (y:=Fc x.items z.items) (λs n k=>pf s n _ _ _<|hd k) (λs n k=>ih (p++[s]) n _ _ _<|hd k) (aL x.items) hl;obtain⟨q1,q2⟩:=M9 p (aL x.items) (n+(Jd (Je rl F) p n x.items (Fc x.items y.items) (Fc x.items z.items) (aL x.items)).2.length) ((Fc x.items y.items).put (aL x.items))<|(Fc x.items z.items).put (aL x.items);unfold Rq;simp only[jQ];refine Kx a1 q1 λa ha hb=>?_;obtain⟨c,hc,rfl⟩:=nQ.1 ha;obtain⟨d,hd,e2⟩:=nQ.1 hb;rw[q2 d hd]at e2;have cut:∀{s t:Str}{u v:List Str},p++(s::u)=p++(t::v)->s=t:=qB
               grind [VY,UJ]
              grind [Jk]
            rw[Sf];cases Lh rl p with
            | none=>grind
            | some key =>
              simp only;split
              ·have hd : ∀k, Ic (Pb y key k)<F := λk => by have := Lk y key k;omega
               unfold Av;simp only;split
               ·exact (Qy (n:=n) (Zc [Jb y key,Jb z key]) Wi p (λ_ _ e=>by injection e) (λk n=>pf (Wi k) n _ _ _<|hd k) (λk n=>ih (p++[Wi k]) n _ _ _<|hd k) _<|gQ _).1
               grind [Jk]
              grind
           grind [Jk]
          grind [Jk]
def RigO(o:Option Tree):Prop:=∀x,o=some x->Ob x=true
def RigO.nod(h:RigO o):Hp o:=λx hx=>U4<|h x hx
def As(h:Ob x=true):∀y∈x.items,Ob y=true:=λy hy=>by cases x;exact T5 h hy
def XI(h:Ob x=true)(key:Str):RigO (Hd x key):=λy hy=>As h y<|Oo hy
def FA(h:Ob x=true)(key id:Str):RigO (Pb x key id):=λy hy=>As h y<|Pl hy
def RR(h:RigO o):SdR (Ni o):=by
  cases o with
  | none=>exact .inl rfl
  | some x=>exact .inr ⟨rfl,h x rfl⟩
theorem cls_rng(b l r:Option Tree):1<=Wj b l r/\Wj b l r<=4:=by
  unfold Wj;grind
theorem Zu{p:List Str}{cls:Int}{n:Nat}(hb:RigO b)(hl:RigO l)(hr:RigO r)(h1:1<=cls)(h2:cls<=6)(h5:cls≠5):∀c∈(Fj p cls n b l r).2,AQ c:=λc hc=>by
  rw[pQ.1 hc];exact⟨RR hb,RR hl,RR hr,λh=>absurd h h5,h1,h2⟩
theorem ON{x:List Tree}(h:∀z∈x,z∈y):Fb x<=Fb y:=by
  have key:∀{z:Tree}{y:List Tree},z∈y->Cb z<=Fb y:=fun {z y} hz=>by
    induction y with
    | nil=>cases hz
    | cons a y ih =>
      rw[Fb];rcases oQ.1 hz with rfl|hz
      ·omega
      have:=ih hz;omega
  induction x with
  | nil=>simp[Fb]
  | cons a x ih =>
    rw[Fb];have h1:=key<|h a Da;grind
def D8(h:Ob x=true){p:List Tree}(hp:∀z∈p,z∈x.items)(hs:Qa p<=Qa x.items):Ob (.node 5 [] [] p)=true:=by
  have hd:=ON hp;have h0:=h;obtain⟨k,t,ks,xs⟩:=x;simp only[Tree.items]at hp hs hd;unfold Ob Ji at h ⊢;simp only[vQ,wQ]at h ⊢;rw[Ka,Cb]at h ⊢;refine⟨⟨by_Om,by_Om⟩,?_⟩;rw[Zb,Vs λz hz=>(Yc h.2).2 z (hp z hz)];rfl
theorem F_(base v:List Tree)(g:Nat)(hg:g<=aL base):Qa ((Fc base v).put g)<=Qa v:=by
  by_cases h:g=aL base
  ·have := Gi base v g hg
   grind
  have := B6 base v g kX;omega
theorem putM_rig{p:List Str}{g n:Nat}{y:Tree}{u v:List Tree}(hx:Ob x=true)(hy:Ob y=true)(hu:∀z∈u,z∈x.items)(hv:∀z∈v,z∈y.items)(su:Qa u<=Qa x.items)(sv:Qa v<=Qa y.items):∀c∈(He p g n u v).2,AQ c:=by
  unfold He;split
  ·grind
  split
  ·grind
  intro c hc;rw[pQ.1 hc];exact⟨.inr ⟨O,D8 hx (p:=[]) (λz hz=>by cases hz) (by simp[Qa])⟩,.inr ⟨O,D8 hx hu su⟩,.inr ⟨O,D8 hy hv sv⟩,λ_=>⟨O,O,O⟩,(by decide:(1:Int)<=5),(by decide:(5:Int)<=6)⟩
theorem HC{f:Str->Nat->Mo}{n:Nat}{ks:List Str}(H:∀k n,∀c∈(f k n).2,AQ c):∀j,∀c∈(Cd f n ks j).2,AQ c
  | 0=>λc hc=>by cases hc
  | j + 1 => λc hc => by
    rw[Cd]at hc;rcases mQ.1 hc with hc|hc
    ·exact HC H j c hc
    exact H _ _ c hc
theorem EL{f:Fm}{p:List Str}{n:Nat}{base:List Tree}{x y:By}(H:∀s n k,∀c∈(f (p++[s]) n base[k]? (x.item k) (y.item k)).2,AQ c)(HP:∀g n,g<aL base->∀c∈(He p g n (x.put g) (y.put g)).2,AQ c):∀j,j<=aL base->∀c∈(Jd f p n base x y j).2,AQ c
  | 0,_=>λc hc=>by cases hc
  | j + 1, hj => λc hc => by
    rw[Jd]at hc;rcases mQ.1 hc with hc|hc
    ·rcases mQ.1 hc with hc|hc
     ·exact EL H HP j kX c hc
     exact HP _ _ kX c hc
    exact H _ _ _ c hc
theorem AJ:∀(F:Nat)(p:List Str)(n:Nat)(b l r:Option Tree),RigO b->RigO l->RigO r->∀c∈(Je rl F p n b l r).2,AQ c:=by
  intro F
  induction F with
  | zero =>
    intro p n b l r _ _ _ c hc;cases hc
  | succ F ih =>
    intro p n b l r hb hl hr;rw[Je];split
    ·grind
    split
    ·grind
    split
    ·grind
    have hc4 : ∀b l r : Option Tree, Wj b l r ≠ 5 /\ 1 <= Wj b l r /\ Wj b l r <= 6 := λb l r => by have := cls_rng b l r;omega
    have con:∀b l r:Option Tree,RigO b->RigO l->RigO r->∀c∈(Fj p (Wj b l r) n b l r).2,AQ c:=by grind [AQ,Zu]
    cases b with
    | none=>exact con _ _ _ hb hl hr
    | some x =>
      cases l with
      | none=>exact con _ _ _ hb hl hr
      | some y =>
        cases r with
        | none=>exact con _ _ _ hb hl hr
        | some z =>
          have hx:=hb x rfl;have hy:=hl y rfl;have hz:=hr z rfl;simp only[Lo];split
          ·split
           ·exact HC (λk n=>ih (p++[k]) n _ _ _ (XI hx k) (XI hy k)<|XI hz k) _
           split
           ·have hgap:∀c∈(Sf.gapM (Je rl F) p n x y z).2,AQ c:=by
              unfold Sf.gapM;split
              ·have hp : ∀g n, g <= (aL x.items) -> ∀c ∈ (He p g n ((Fc x.items y.items).put g)<|(Fc x.items z.items).put g).2, AQ c := λg n hg => putM_rig hy hz (λw hw => Ig hw) (λw hw => Ig hw) (F_ _ _ _ hg) (F_ _ _ _ hg)
               intro c hc;unfold Rq at hc;rcases mQ.1 hc with hc|hc
               ·exact EL (λs n k=>ih (p++[s]) n _ _ _ (λw hw=>As hx w<|List.mem_of_getElem? hw) (λw hw=>As hy w<|Qm hw) λw hw=>As hz w<|Qm hw) (λg n hg=>hp g n kX) _ (gQ _) c hc
               exact hp _ _ (gQ _) c hc
              exact Zu hb hl hr Ra Ra Ra
            rw[Sf];cases Lh rl p with
            | none=>grind
            | some key =>
              simp only;split
              ·unfold Av
               simp only;split
               ·exact HC (λk n=>ih (p++[Wi k]) n _ _ _ (FA hx key k) (FA hy key k)<|FA hz key k) _
               exact Zu hb hl hr Ra Ra Ra
              grind
           exact Zu hb hl hr Ra Ra Ra
          exact Zu hb hl hr Ra Ra Ra
def Mr(a b:Sd):Bool:=if a.has=false\/b.has=false then a.has==b.has else Zn a.val b.val
theorem Q5{a b:Sd}(ha:SdR a)(hb:SdR b):Mr a b=true↔nfS a=nfS b:=by
  unfold Mr nfS;rcases ha with rfl|⟨ha,ra⟩ <;> rcases hb with rfl|⟨hb,rb⟩
  ·simp[noS]
  ·grind [noS]
  ·grind [noS]
  rw[ha,hb,tQ Da,uQ rfl,uQ rfl,EF (Gj ra)<|Gj rb,Option.some.injEq]
def Rs(c d:Cf):Bool:=decide (c.path=d.path)&&(decide (c.cls=d.cls)&&(Mr c.b d.b&&(Mr c.l d.r&&Mr c.r d.l)))
theorem turn_iff{c d:Cf}(hc:AQ c)(hd:AQ d):Rs c d=true↔K1 c=K2 d:=by
  unfold Rs K1 K2;rw[vQ,vQ,vQ,vQ,wQ,wQ,Q5 hc.1 hd.1,Q5 hc.2.1 hd.2.2.1,Q5 hc.2.2.1 hd.2.1];grind
theorem count_one{l:List Cf}(hn:(l.map (·.path)).Nodup){q:Cf->Bool}{p:List Str}(hq:∀d∈l,q d=true->d.path=p){d:Cf}(hd:d∈l)(h:q d=true):l.countP q=1:=by
  induction l with
  | nil=>cases hd
  | cons a l ih =>
    rw[jZ,List.nodup_cons]at hn;rw[List.countP_cons];rcases oQ.1 hd with rfl|hd'
    ·simp_all
    grind
theorem IZ{b l r:Tree}(hsz:Ka l+Ka r<1000) :
    (Qe rl b l r).2.2=(Qe rl b r l).2.2/\aL (Qe rl b l r).2.1=aL (Qe rl b r l).2.1 /\
    (∀c∈(Qe rl b l r).2.1,(Qe rl b r l).2.1.countP (Rs c)=1)/\((Qe rl b l r).2.2=0->(Qe rl b l r).2.1=[]->Zn (Qe rl b l r).1 (Qe rl b r l).1=true):=by
  by_cases hk:okM rl b l r
  ·have hk' : okM rl b r l := ⟨hk.1, hk.2.2.1, hk.2.1, hk.2.2.2⟩
   rw[Rm hk,Rm hk'];have rO:∀{x:Tree},Ob x=true->RigO (some x):=λh y e=>by obtain rfl:=lQ e;exact h
   have hb:=rO hk.1;have hl:=rO hk.2.1;have hr:=rO hk.2.2.1;have dl:Ic (some l)<39+1:=Nat.lt_of_le_of_lt (Bl hk.2.1) kX;have dr:Ic (some r)<39+1:=Nat.lt_of_le_of_lt (Bl hk.2.2.1) kX;have ht:=atM_turn (rl:=rl) (39+1) [] 0 0 (some b) (some l) (some r) hb.nod hl.nod hr.nod dl dr;have n1:=WN (rl:=rl) (39+1) [] 0 (some b) (some l) (some r) hb.nod hl.nod hr.nod (by simp only[Af];omega);have n2:=WN (rl:=rl) (39+1) [] 0 (some b) (some r) (some l) hb.nod hr.nod hl.nod (by simp only[Af];omega);have r1:=AJ (rl:=rl) (39+1) [] 0 (some b) (some l) (some r) hb hl hr;have r2:=AJ (rl:=rl) (39+1) [] 0 (some b) (some r) (some l) hb hr hl;have p2:=atM_paths (rl:=rl) (39+1) [] 0 (some b) (some r) (some l) dr;obtain⟨v,hv⟩:=PP (rl:=rl) (39+1) [] 0 (some b) l r;obtain⟨u,hu⟩:=PP (rl:=rl) (39+1) [] 0 (some b) r l;generalize Je rl (39+1) [] 0 (some b) (some l) (some r)=q at ht n1 r1 hv ⊢;generalize Je rl (39+1) [] 0 (some b) (some r) (some l)=q' at ht n2 r2 p2 hu ⊢;obtain⟨q1,c⟩:=q;obtain⟨q2,d⟩:=q';simp only at hv hu;subst hv hu;have hs:Ji v=Ji u:=by
     have h1:=ht.size;have h2:=ht.depth;grind [Af,Ic,Ji]
   have ho:Fd v=Fd u:=by
     unfold Fd;rw[hs,n1 v rfl,n2 u rfl]
   unfold UR;simp only[Option.getD_some,<-ho];by_cases h:Fd v=true
   ·rw[uQ h, uQ h]
    refine⟨O,?_,λa ha=>?_,λ_ h0=>?_⟩
    ·have := ht.perm.length_eq
     grind
    ·have hm : K1 a ∈ c.map K1 := by grind
     obtain⟨e,he,hk⟩:=nQ.1<|ht.perm.mem_iff.1 hm;have hte:Rs a e=true:=by grind [turn_iff]
     refine count_one p2 (p:=a.path) (λf _ hf=>?_) he hte;grind [Rs]
    have := ht.same h0;grind [EF]
   grind
  have hk' : ¬ okM rl b r l := λh => hk ⟨h.1, h.2.2.1, h.2.1, h.2.2.2⟩;grind [Xr]
def numR(n m:Nat):List Str:=(List.range m).map λi=>Il (n+i)
def numR_add(n a b:Nat):numR n (a+b)=numR n a++numR (n+a) b:=by
  unfold numR;rw[List.range_add,jQ,List.map_map]
  congr 1
  exact List.map_congr_left λi _=>by simp[Nat.add_assoc]
section
variable (L:List Cf)(pick:List Int)
def XC(x:Tree):List Tree:=(Lr L 5 [] (Ch x) (Xd L pick x)).2
def Cx(n:Nat)(c:List Cf):Prop:=∀i x,c[i]? = some x->L[n+i]? = some x
structure Fo (n:Nat) (a:Mo) (S D:Nat):Prop where
  holes:∀v,a.1=some v->(Ue v).Perm (numR n (aL a.2))
  val:∀v,a.1=some v->(Xd L pick v).has=true->Zb rnodeB (Xd L pick v).val=true/\Ka (Xd L pick v).val<=S/\Cb (Xd L pick v).val<=D
  five:∀v,a.1=some v->0<=Ch v->(L.getD (Ch v).toNat JC).cls≠5
  none:a.1=none->a.2=[]
structure Fg (n:Nat) (xs:List Tree) (c:List Cf) (S D:Nat):Prop where
  holes:(Ye xs).Perm (numR n (aL c))
  val:∀y∈xs.flatMap (XC L pick),Zb rnodeB y=true/\Cb y<=D
  size:Qa (xs.flatMap (XC L pick))<=S
end
section
variable {L:List Cf}{pick:List Int}
def Cx.left{n:Nat}{c:List Cf}(h:Cx L n (c++d)):Cx L n c:=λi x hx=>h i x (by rw[List.getElem?_append_left (List.getElem?_eq_some_iff.1 hx).1];exact hx)
theorem Cx.right{n:Nat}{c:List Cf}(h:Cx L n (c++d)):Cx L (n+aL c) d:=λi x hx=>by
  have:=h (aL c+i) x (by rw[List.getElem?_append_right kX,Nat.add_sub_cancel_left];exact hx);grind
theorem kidA_not(h:0<=Ch x->(L.getD (Ch x).toNat JC).cls≠5):XC L pick x=if (Xd L pick x).has=true then [(Xd L pick x).val] else []:=by grind [XC,Lr]
def Fg.append{n:Nat}{c:List Cf}{D:Nat}(h:Fg L pick n xs c S D)(k:Fg L pick (n+aL c) ys d S' D):Fg L pick n (xs++ys) (c++d) (S+S') D:=by
  refine⟨?_,λy hy=>?_,?_⟩
  ·rw[Lf, List.flatMap_append, <- Lf, <- Lf, dQ, numR_add]
   exact h.holes.append k.holes
  ·rw[List.flatMap_append]at hy
   rcases mQ.1 hy with hy|hy
   ·exact h.val y hy
   exact k.val y hy
  rw[List.flatMap_append, Tc];have:=h.size;have:=k.size;omega
def Fg.mono{n:Nat}{c:List Cf}{D:Nat}(h:Fg L pick n xs c S D)(hs:S<=S')(hd:D<=D'):Fg L pick n xs c S' D' :=
  ⟨h.holes,λy hy=>⟨(h.val y hy).1,fQ (h.val y hy).2 hd⟩,fQ h.size hs⟩
def Fg.nil{n D:Nat}:Fg L pick n [] [] 0 D:=⟨.refl _,(λy hy=>by cases hy),gQ _⟩
def Fo.row{n:Nat}{D:Nat}(h:Fo L pick n a S D):Fg L pick n a.1.toList a.2 S D:=by
  obtain⟨o,c⟩:=a;cases o with
  | none =>
    have hc:c=[]:=h.none rfl;subst hc;exact Fg.nil.mono (cZ _)<|gQ _
  | some v =>
    have hk:=kidA_not (pick:=pick)<|h.five v rfl;have e:[v].flatMap (XC L pick)=XC L pick v:=Da
    refine⟨?_,λy hy=>?_,?_⟩
    ·show (Ye [v]).Perm _
     rw[Ye,Ye,qQ];exact h.holes v O
    ·have hy' : y ∈ XC L pick v := by rw[<- e];exact hy
     rw[hk]at hy';split at hy'
     ·rename_i hh
      rw[pQ.1 hy'];have:=h.val v rfl hh;exact⟨this.1,this.2.2⟩
     cases hy'
    show Qa ([v].flatMap (XC L pick)) <= S;rw[e,hk];split
    ·rename_i hh
     have:=(h.val v rfl hh).2.1;simp only[Qa];omega
    simp[Qa]
end
section
variable {L:List Cf}{pick:List Int}
theorem Fg.perm{n:Nat}{c:List Cf}{D:Nat}(h:Fg L pick n xs c S D)(hp:ys.Perm xs):Fg L pick n ys c S D:=by
  have h1:(ys.flatMap<|XC L pick).Perm (xs.flatMap<|XC L pick):=qK
  refine⟨?_,λy hy=>h.val y<|h1.mem_iff.1 hy,?_⟩
  ·rw[Lf]
   have:=h.holes;grind [Lf]
  rw[Hn h1];exact h.size
end
def Fo.mono{L:List Cf}{pick:List Int}{n:Nat}{D:Nat}(h:Fo L pick n a S D)(hs:S<=S')(hd:D<=D'):Fo L pick n a S' D' :=
  ⟨h.holes,λv hv hh=>by obtain⟨h1,h2,h3⟩:=h.val v hv hh;exact⟨h1,by_Om,by_Om⟩,h.five,h.none⟩
end Go.Scarf
