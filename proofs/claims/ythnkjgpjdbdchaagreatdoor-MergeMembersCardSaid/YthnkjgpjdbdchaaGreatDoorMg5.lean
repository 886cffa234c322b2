/- A part of the proof. -/
import Derived.Test.YthnkjgpjdbdchaaGreatDoorMg1
set_option linter.all false
set_option maxHeartbeats 8000000
set_option maxRecDepth 10000
namespace Go.Scarf
open Go.RowKit
def numOk(i:Nat):Bool:=decide ((Hf (Si i)).2=0)&&(decide ((Hf (Si i)).1=TD i)&&(decide (KB (TD i)=((i:Int),true))&&decide ((Si i).length<=20)))
theorem num_all:(List.range 1000).all numOk=true:=by kernel_rfl
theorem CA{i:Nat}(h:i<1000):(Hf (Si i)).2=0/\(Hf (Si i)).1=TD i/\KB (TD i)=((i:Int),true)/\(Si i).length<=20:=by
  have:=List.all_eq_true.1 num_all i (List.mem_range.2 h);simpa[numOk]using this
theorem hole_ok{i:Nat}(h:i<1000):V3 (Si i)=true:=by
  obtain⟨h1,h2,h3,-⟩:=CA h;unfold V3 Qs;rw[h2,h3,h1];simp[Si]
theorem NR{i:Nat}(h:i<1000):Pi (Yn i)=i:=by
  obtain⟨h1,h2,h3,-⟩:=CA h;show (if (7:Int)≠7 then (-1:Int) else if (Hf (Si i)).2≠0 then -1 else (KB (Hf (Si i)).1).1)=_;rw[if_neg Pa,if_neg (by rw[h1];decide),h2,h3]
theorem HF{i:Nat}(h:i<1000):Pd nodeB (Yn i)=true:=by
  simp[Yn,Pd,Bt,nodeB,hole_ok h]
def W8(o:Option Tree):Prop:=∀x,o=some x->Pd nodeB x=true
theorem Ej{x:Tree}(h:Pd nodeB x=true):∀y∈x.items,Pd nodeB y=true:=by cases x;exact (De h).2
theorem BI{x:Tree}(h:Pd nodeB x=true)(key:Str):W8 (Rb x key):=λy hy=>Ej h y (Vp hy)
theorem Z8{x:Tree}(h:Pd nodeB x=true)(key id:Str):W8 (Lg x key id):=λy hy=>Ej h y (Lu hy)
theorem RS{x:Tree}(h:Pd nodeB x=true)(hk:x.kind=6):∀k∈x.keys,Lib.validD k=true:=by
  obtain⟨k,t,ks,xs⟩:=x;have h1:=(De h).1;simp only[Tree.kind]at hk;subst hk;simp[nodeB,Tp]at h1;exact h1.1.1.2
theorem GL{xs:List Tree}(h:∀x∈xs,Pd nodeB x=true):Pd nodeB (.node 5 [] [] xs)=true:=by
  rw[Pd,Ur h];rfl
theorem node_obj{m:List (Str × Tree)}(h:∀z∈m,Pd nodeB z.2=true)(hn:(m.map (·.1)).Nodup)(hv:∀z∈m,Lib.validD z.1=true):Pd nodeB (.node 6 [] (m.map (·.1)) (m.map (·.2)))=true:=by
  rw[Pd,Ur (λx hx=>by obtain⟨z,hz,rfl⟩:=nQ.1 hx;exact h z hz),nodeB,if_neg Pa,if_pos rfl,Tp,decide_eq_true hn,List.all_eq_true.2 (λk hk=>by obtain⟨z,hz,rfl⟩:=nQ.1 hk;exact hv z hz)];simp
theorem Fp(p:List Str)(cls:Int){n:Nat}(b l r:Option Tree)(hn:n<1000):W8 (Wq p cls n b l r).1:=λx hx=>by
  obtain rfl:=lQ hx;exact HF hn
section
variable {f:Str->Nat->Mo}{n:Nat}{ks:List Str}
theorem Ks:∀j,j<=ks.length->((Tg f n ks j).1.map (·.1)).Sublist (ks.take j)
  | 0,_=>by simp[Tg]
  | j + 1, hj => by
    have e:ks.getD j []=ks[j]:=by simp[List.getD,show j<ks.length by omega]
    rw[Tg,jQ,iQ tX,e];refine (Ks j tX).append ?_;cases (f ks[j] (n+(Tg f n ks j).2.length)).1 with
    | none=>exact List.nil_sublist _
    | some x=>exact List.Sublist.refl _
theorem C5{gl gr:Str->Option Tree}(H:∀k n,(f k n).2.length<=Ni (gl k)+Ni (gr k))(HN:∀k n,n+Ni (gl k)+Ni (gr k)<1000->W8 (f k n).1):∀j,j<=ks.length->n+Np gl ks+Np gr ks<1000->∀z∈(Tg f n ks j).1,Pd nodeB z.2=true
  | 0,_,_=>λz hz=>by cases hz
  | j + 1, hj, hb => by
    have h1:=Ku (n:=n) (ks:=ks) H j tX;have h2:=Bl gl (ks:=ks) (j:=j) tX;have h3:=Bl gr (ks:=ks) (j:=j) tX;have h4:=Mm gl ks (j+1);have h5:=Mm gr ks (j+1);rw[Tg];intro z hz;rcases mQ.1 hz with hz|hz
    ·exact C5 H HN j tX hb z hz
    have hc := HN (ks.getD j []) (n + (Tg f n ks j).2.length) tX;generalize (f (ks.getD j []) (n+(Tg f n ks j).2.length)).1=o at hz hc;cases o with
    | none=>cases hz
    | some x=>rw[pQ.1 hz];exact hc x rfl
end
theorem IE{p:List Str}{g n:Nat}{xs ys:List Tree}(hx:∀z∈xs,Pd nodeB z=true)(hy:∀z∈ys,Pd nodeB z=true)(hn:n+Kb xs+Kb ys<=1000):∀z∈(Ii p g n xs ys).1,Pd nodeB z=true:=by
  unfold Ii;split
  ·exact hy
  rename_i h
  split
  ·exact hx
  have := Uh xs;intro z hz;rw[pQ.1 hz];exact HF tX
theorem KD{f:Fm}{p:List Str}{n:Nat}{base:List Tree}{x y:By}(hx:∀z∈x.items,Pd nodeB z=true)(hy:∀z∈y.items,Pd nodeB z=true)
    (H:∀s n k,(f (p++[s]) n base[k]? (x.item k) (y.item k)).2.length<=Ni (x.item k)+Ni (y.item k))
    (HN:∀s n k,k<base.length->n+Ni (x.item k)+Ni (y.item k)<1000->W8 (f (p++[s]) n base[k]? (x.item k) (y.item k)).1):∀j,j<=base.length->n+wG x j+wG y j<1000->∀z∈(If f p n base x y j).1,Pd nodeB z=true
  | 0,_,_=>λz hz=>by cases hz
  | j + 1, hj, hb => by
    have h1:=Xr (n:=n) H j;rw[wG,wG]at hb;have h2:=Hx p j (n+(If f p n base x y j).2.length) (x.put j) (y.put j);rw[If];intro z hz;rcases mQ.1 hz with hz|hz
    ·rcases mQ.1 hz with hz|hz
     ·exact KD hx hy H HN j tX tX z hz
     exact IE (λw hw=>hx w (Om hw)) (λw hw=>hy w (Om hw)) tX z hz
    have hc := HN (Lib.itoa j) (n + ((If f p n base x y j).2 ++ (Ii p j (n + (If f p n base x y j).2.length) (x.put j) (y.put j)).2).length) j tX (by rw[dQ];omega);generalize (f (p++[Lib.itoa j]) (n+((If f p n base x y j).2++(Ii p j (n+(If f p n base x y j).2.length) (x.put j) (y.put j)).2).length) base[j]? (x.item j) (y.item j)).1=o at hz hc;cases o with
    | none=>cases hz
    | some v=>rw[pQ.1 hz];exact hc v rfl
theorem KO{a:List (Str × Tree)}(h:∀z∈a,Pd nodeB z.2=true){id:Str}(hm:id∈a.map (·.1)):Pd nodeB (Yq a id)=true:=by
  obtain⟨y,hy⟩:=R3 (ks:=a.map (·.1)) (xs:=a.map (·.2)) Da hm;unfold Yq;rw[hy,Option.getD_some];obtain⟨z,hz,rfl⟩:=nQ.1 (Sn hy);exact h z hz
theorem EL{b l r:List Str}:∀(F:Nat)(rest o:List Str),B7 b l r F rest=some o->∀s∈o,s∈rest
  | 0,_,o,h=>by rw[B7]at h;obtain rfl:=lQ h;simp
  | F + 1, rest, o, h => by
    rw[B7]at h;split at h
    ·rename_i s hs
     obtain⟨o',h1,rfl⟩:=Option.map_eq_some_iff.1 h;intro q hq;rcases oQ.1 hq with rfl|hq
     ·exact List.mem_of_find?_eq_some hs
     exact List.mem_of_mem_erase (EL F _ _ h1 q hq)
    cases h
theorem ND{b l r names o:List Str}(h:NB b l r names=some o):∀s∈o,s∈names:=by
  unfold NB at h;split at h
  ·intro s hs
   have:=EL _ _ _ h s hs;unfold Yj at this;exact List.mem_mergeSort.1 this
  cases h
theorem atM_node{rl:List Rl}:∀(F:Nat)(p:List Str)(n:Nat)(b l r:Option Tree),W8 b->W8 l->W8 r->n+Ni l+Ni r<1000->W8 (Yg rl F p n b l r).1:=by
  intro F
  induction F with
  | zero=>intro p n b l r _ hl _ _;exact hl
  | succ F ih =>
    intro p n b l r hb hl hr hn;have hn':n<1000:=by omega
    rw[Yg];split
    ·exact hl
    split
    ·exact hr
    split
    ·exact hl
    cases b with
    | none=>exact Fp _ _ _ _ _ hn'
    | some x =>
      cases l with
      | none=>exact Fp _ _ _ _ _ hn'
      | some y =>
        cases r with
        | none=>exact Fp _ _ _ _ _ hn'
        | some z =>
          have hx:=hb x rfl;have hy:=hl y rfl;have hz:=hr z rfl;simp only[Ni]at hn;simp only[Et];split
          ·rename_i hkk
           split
           ·rename_i h6
            have hnd:=Ig [y.keys,z.keys];have h1:=Bq hnd y;have h2:=Bq hnd z;have:=C5 (n:=n) (ks:=Te [y.keys,z.keys]) (λk n=>Zp F (p++[k]) n (Rb x k) (Rb y k) (Rb z k)) (λk n h=>ih (p++[k]) n _ _ _ (BI hx k) (BI hy k) (BI hz k) h) _ (gQ _) tX;intro v hv;obtain rfl:=lQ hv;have hsub:=Ks (f:=λk m=>Yg rl F (p++[k]) m (Rb x k) (Rb y k) (Rb z k)) (n:=n) (ks:=Te [y.keys,z.keys]) _ (gQ _);rw[List.take_length]at hsub;refine node_obj this (hnd.sublist hsub) λq hq=>?_;have hin:q.1∈Te [y.keys,z.keys]:=hsub.subset (List.mem_map_of_mem hq);unfold Te at hin;rw[Gu]at hin;simp only[List.not_mem_nil,List.flatten_cons,List.flatten_nil,qQ,mQ,false_or]at hin;rcases hin with hin|hin
            ·exact RS hy (by rw[<-hkk.1];exact h6) _ hin
            exact RS hz (by rw[<-hkk.2];exact h6) _ hin
           split
           ·have hgap:W8 (Ql.gapM (Yg rl F) p n x y z).1:=by
              unfold Ql.gapM;split
              ·have s1 := Vk x.items y.items x.items.length (gQ _)
               have s2:=Vk x.items z.items x.items.length (gQ _);rw[if_pos rfl]at s1 s2;have h5:∀v:Tree,Kb v.items+1<=Mb v:=λv=>by cases v;rw[Mb];simp only[Tree.items];omega
               have h6:=h5 y;have h7:=h5 z;have hc:=Xr (n:=n) (base:=x.items) (x:=Fe x.items y.items) (y:=Fe x.items z.items) (λs n k=>Zp (rl:=rl) F (p++[s]) n _ _ _) x.items.length;intro v hv;obtain rfl:=lQ hv;refine GL λu hu=>?_;rcases mQ.1 hu with hu|hu
               ·exact KD (x:=Fe x.items y.items) (y:=Fe x.items z.items) (Ej hy) (Ej hz) (λs n k=>Zp F (p++[s]) n _ _ _) (λs n k hk h=>ih (p++[s]) n _ _ _ (λw hw=>Ej hx w (List.mem_of_getElem? hw)) (λw hw=>Ej hy w (Bv hw)) (λw hw=>Ej hz w (Bv hw)) h) _ (gQ _) tX u hu
               exact IE (λw hw=>Ej hy w (Om hw)) (λw hw=>Ej hz w (Om hw)) tX u hu
              exact Fp _ _ _ _ _ hn'
            rw[Ql];cases Tr rl p with
            | none=>exact hgap
            | some key =>
              simp only;split
              ·have hnd := Ig [Wi y key, Wi z key]
               have h1:=Pq hnd y key;have h2:=Pq hnd z key;have:=C5 (n:=n) (ks:=Te [Wi y key,Wi z key]) (λk n=>Zp F (p++[X8 k]) n (Lg x key k) (Lg y key k) (Lg z key k)) (λk n h=>ih (p++[X8 k]) n _ _ _ (Z8 hx key k) (Z8 hy key k) (Z8 hz key k) h) _ (gQ _) tX;unfold ZJ;simp only;split
               ·rename_i o ho
                intro v hv;obtain rfl:=lQ hv;refine GL λu hu=>?_;obtain⟨q,hq,rfl⟩:=nQ.1 hu;exact KO this (ND ho q hq)
               exact Fp _ _ _ _ _ hn'
              exact hgap
           exact Fp _ _ _ _ _ hn'
          exact Fp _ _ _ _ _ hn'
theorem EX{rl:List Rl}{F:Nat}{p:List Str}{n:Nat}{b l r:Option Tree}(h:Vh l r=true):Yg rl (F+1) p n b l r=(l,[]):=by rw[Yg,if_pos h]
theorem at_r{rl:List Rl}{F:Nat}{p:List Str}{n:Nat}{b l r:Option Tree}(h:¬Vh l r=true)(h2:Vh b l=true):Yg rl (F+1) p n b l r=(r,[]):=by rw[Yg,if_neg h,if_pos h2]
theorem at_b{rl:List Rl}{F:Nat}{p:List Str}{n:Nat}{b l r:Option Tree}(h:¬Vh l r=true)(h2:¬Vh b l=true)(h3:Vh b r=true):Yg rl (F+1) p n b l r=(l,[]):=by rw[Yg,if_neg h,if_neg h2,if_pos h3]
theorem IP{rl:List Rl}{F:Nat}{p:List Str}{n:Nat}{b l r:Option Tree}(h:¬Vh l r=true)(h2:¬Vh b l=true)(h3:¬Vh b r=true):Yg rl (F+1) p n b l r=Et rl (Yg rl F) p n b l r:=by rw[Yg,if_neg h,if_neg h2,if_neg h3]
theorem L1{v:Tree}{c:List Cf}(h:Mf v=true):WG (some v,c)=(v,c,0):=by unfold WG;exact if_pos h
theorem Vy{rl:List Rl}{b l r:Tree}(h:¬ON rl b l r):Zh rl b l r=(zeroT,[],1):=if_neg h
theorem Kk{rl:List Rl}{b l r:Tree}(h:ON rl b l r):Zh rl b l r=WG (Yg rl (39+1) [] 0 (some b) (some l) (some r)):=if_pos h
theorem E2{rl:List Rl}{b l r:Tree}(h:ON rl b l r)(hs:Gf l r=true):Zh rl b l r=(l,[],0):=by
  rw[Kk h,EX (l:=some l) (r:=some r) hs,L1 (Ef h.2.1)]
theorem LJ{rl:List Rl}{b l r:Tree}(h:ON rl b l r)(hs:¬Gf l r=true)(hb:Gf b l=true):Zh rl b l r=(r,[],0):=by
  rw[Kk h,at_r (b:=some b) (l:=some l) (r:=some r) hs hb,L1 (Ef h.2.2.1)]
theorem SJ{rl:List Rl}{b l r:Tree}(h:ON rl b l r)(hs:¬Gf l r=true)(hb:¬Gf b l=true)(hr:Gf b r=true):Zh rl b l r=(l,[],0):=by
  rw[Kk h,at_b (b:=some b) (l:=some l) (r:=some r) hs hb hr,L1 (Ef h.2.1)]
theorem I2{x y:Tree}(hx:Nc x=true)(hy:Nc y=true):Gf x y=true↔sortT x=sortT y:=GK x (Vn hx) y (Vn hy)
theorem On{x y:Tree}(hx:Nc x=true)(hy:Nc y=true):Cr x y=Gf x y:=by
  unfold Cr;rw[Ef hx,Ef hy];rfl
theorem Q8{rl:List Rl}(F:Nat)(p:List Str)(n:Nat)(b:Option Tree)(y z:Tree):∃v,(Yg rl F p n b (some y) (some z)).1=some v:=by
  cases F with
  | zero=>exact⟨y,rfl⟩
  | succ F =>
    rw[Yg];split
    ·exact⟨y,O⟩
    split
    ·exact⟨z,O⟩
    split
    ·exact⟨y,O⟩
    cases b with
    | none=>exact⟨_,rfl⟩
    | some x =>
      simp only[Et];split
      ·split
       ·exact⟨_,O⟩
       split
       ·have hg:∃v,(Ql.gapM (Yg rl F) p n x y z).1=some v:=by
          unfold Ql.gapM;split <;> exact⟨_,rfl⟩
        rw[Ql];cases Tr rl p with
        | none=>exact hg
        | some key =>
          simp only;split
          ·unfold ZJ
           simp only;split <;> exact⟨_,rfl⟩
          exact hg
       exact⟨_,O⟩
      exact⟨_,O⟩
theorem X3(key:Str):∀(a b:List (Str × Tree)),Jd ((a++b).map (·.1)) ((a++b).map (·.2)) key=(Jd (a.map (·.1)) (a.map (·.2)) key).or (Jd (b.map (·.1)) (b.map (·.2)) key)
  | [],b=>by simp[Jd]
  | x :: a, b => by
    simp only[List.cons_append,List.map_cons,Jd];split
    ·rfl
    exact X3 key a b
theorem QJ{f:Str->Nat->Mo}{n:Nat}{ks:List Str}(hn:ks.Nodup)(st:Str->Str)(p:List Str)(hst:∀a b,st a=st b->a=b)(hp:∀k n,∀c∈(f k n).2,∃s,c.path=p++(st k::s))(key:Str):∀j,j<=ks.length ->
    ((key∈ks.take j->∃m,Jd ((Tg f n ks j).1.map (·.1)) ((Tg f n ks j).1.map (·.2)) key=(f key m).1/\((Tg f n ks j).2.countP λc=>decide (c.path[p.length]? = some (st key)))=(f key m).2.length) /\
    (key∉ks.take j->Jd ((Tg f n ks j).1.map (·.1)) ((Tg f n ks j).1.map (·.2)) key=none/\((Tg f n ks j).2.countP λc=>decide (c.path[p.length]? = some (st key)))=0))
  | 0,_=>by simp[Tg,Jd]
  | j + 1, hj => by
    obtain⟨i1,i2⟩:=QJ (n:=n) hn st p hst hp key j tX;have e:ks.getD j []=ks[j]:=by simp[List.getD,show j<ks.length by omega]
    have hone:∀k m,((f k m).2.countP λc=>decide (c.path[p.length]? = some (st key)))=if k=key then (f k m).2.length else 0:=λk m=>by
      by_cases h:k=key
      ·rw[if_pos h, List.countP_eq_length]
       intro c hc;obtain⟨s,hs⟩:=hp k m c hc;rw[hs];simp[h]
      rw[if_neg h, List.countP_eq_zero];intro c hc;obtain⟨s,hs⟩:=hp k m c hc;rw[hs];simp;exact λe=>h (hst _ _ e)
    have hlk:∀o:Option Tree,Jd ((DB ks[j] o).map (·.1)) ((DB ks[j] o).map (·.2)) key=if ks[j]=key then o else none:=λo=>by
      cases o with
      | none=>simp[Jd,DB]
      | some x=>simp[Jd,DB]
    rw[Tg,e,List.countP_append,X3,hlk,hone,iQ tX];by_cases hk:ks[j]=key
    ·have hni:key∉ks.take j:=λhm=>by
       obtain⟨i,hi,e2⟩:=List.mem_iff_getElem.1 hm;rw[List.length_take]at hi;rw[List.getElem_take]at e2;exact List.pairwise_iff_getElem.1 hn i j tX tX tX (e2.trans hk.symm)
     obtain⟨h1,h2⟩:=i2 hni;rw[h1,h2,if_pos hk,if_pos hk];exact⟨λ_=>⟨n+(Tg f n ks j).2.length,by rw[hk];simp,by rw[hk];simp⟩,λh=>absurd (by simp[hk]) h⟩
    rw[if_neg hk, if_neg hk];have hmm:key∈ks.take j++[ks[j]]↔key∈ks.take j:=⟨λh=>(mQ.1 h).elim id (λh=>absurd (pQ.1 h).symm hk),λh=>mQ.2 (.inl h)⟩;rw[hmm];exact⟨λh=>by obtain⟨m,h1,h2⟩:=i1 h;exact⟨m,by rw[h1];simp,by rw[h2];simp⟩,λh=>by obtain⟨h1,h2⟩:=i2 h;exact⟨by rw[h1];rfl,by rw[h2]⟩⟩
theorem KV{rl:List Rl}{F:Nat}(p:List Str)(n m:Nat)(b l r:Option Tree)(h:Vi l<F):∃R:List Cf,(Yg rl F p n b l r).2=R.map (pre p)/\(Yg rl F p m b l r).2=R.map (pre p):=by
  obtain⟨R,h1,h2,-⟩:=XM (rl:=rl) (rl':=rl) F F p p (λ_=>rfl) n m b l r h h;exact⟨R,h1,h2⟩
theorem UO{rl:List Rl}{F:Nat}{p:List Str}{n:Nat}{b l r:Option Tree}(h:Vi l<F):∀c∈(Yg rl F p n b l r).2,∃s,c.path=p++s:=λc hc=>by
  obtain⟨R,h1,-⟩:=KV (rl:=rl) p n n b l r h;rw[h1]at hc;obtain⟨d,_,rfl⟩:=nQ.1 hc;exact⟨d.path,O⟩
def cntK(key:Str)(c:List Cf):Nat:=c.countP λz=>decide (z.path[0]? = some key)
theorem K7{F:Nat}{b l r:Tree}{v:Tree}{c:List Cf}(hl:Nc l=true)(hF:Uc l<=F)(he:BB (Yg [] F) [] 0 b l r=(some v,c))(key:Str) :
    v.kind=6/\∃m,Rb v key=(Yg [] F [key] m (Rb b key) (Rb l key) (Rb r key)).1/\cntK key c=(Yg [] F [key] m (Rb b key) (Rb l key) (Rb r key)).2.length:=by
  have hd:∀k,Vi (Rb l k)<F:=λk=>Nat.lt_of_lt_of_le (Pp l k) hF;have h:=QJ (f:=λk m=>Yg [] F ([]++[k]) m (Rb b k) (Rb l k) (Rb r k)) (n:=0) (Ig [l.keys,r.keys]) id [] (λ_ _ e=>e) (λk n c hc=>by
    obtain⟨s,hs⟩:=UO (hd k) c hc;exact⟨s,by rw[hs];rfl⟩) key _ (gQ _)
  rw[List.take_length]at h;unfold BB at he;simp only[Prod.mk.injEq,Option.some.injEq]at he;obtain⟨rfl,rfl⟩:=he;refine⟨O,?_⟩;by_cases hm:key∈Te [l.keys,r.keys]
  ·obtain⟨m, h1, h2⟩ := h.1 hm
   exact⟨m,h1,h2⟩
  obtain⟨h1, h2⟩ := h.2 hm;have hno:∀x:Tree,key∉x.keys->Rb x key=none:=λx hx=>by
    cases hh:Rb x key with
    | none=>rfl
    | some y=>exact absurd (Uy hh) hx
  have hu:key∉l.keys/\key∉r.keys:=by
    unfold Te at hm;rw[Gu]at hm;simp only[List.not_mem_nil,List.flatten_cons,List.flatten_nil,qQ,mQ,false_or,not_or]at hm;exact hm
  rw[hno l hu.1,hno r hu.2];have e:∀m,Yg [] F [key] m (Rb b key) none none=(none,[]):=λm=>by
    cases F with
    | zero=>rfl
    | succ F=>exact EX (l:=none) (r:=none) rfl
  refine⟨0,?_,?_⟩
  ·rw[e];exact h1
  rw[e];exact h2
theorem Yk{x:Tree}(h:Mf x=true)(hk:x.kind=6)(key:Str):Mu x key=((Rb x key).getD zeroT,(Rb x key).isSome):=by
  unfold Mu;rw[if_pos ⟨h,hk⟩];show (match Rb x key with|some y=>(y,true)|none=>(zeroT,false))=_;cases Rb x key <;> rfl
theorem NY{x y:Tree}(h:Mf x=true)(hy:y∈x.items):Mf y=true:=by
  obtain⟨k,t,ks,xs⟩:=x;unfold Mf Hl at h ⊢;simp only[Bool.and_eq_true,decide_eq_true_eq]at h ⊢;have hy':y∈xs:=hy;have h1:=Yf hy';have h2:=LF (k:=k) (t:=t) (ks:=ks) hy';rw[Mb]at h;exact⟨⟨by omega,by omega⟩,(De h.2).2 y hy'⟩
theorem Mv(x:Tree):Mb (blankT x)=Mb x/\Uc (blankT x)=Uc x:=Tree.ind (Q:=λx=>Mb (blankT x)=Mb x/\Uc (blankT x)=Uc x) (λk t ks xs ih=>by
  rw[blankT,Mb,Mb,Uc,Uc];have:∀ys:List Tree,(∀y∈ys,Mb (blankT y)=Mb y/\Uc (blankT y)=Uc y)->Kb (Ir ys)=Kb ys/\Dd (Ir ys)=Dd ys:=λys=>by
    induction ys with
    | nil=>intro _;exact⟨rfl,rfl⟩
    | cons y ys ihy =>
      intro h;obtain⟨h1,h2⟩:=h y Da;obtain⟨h3,h4⟩:=ihy λz hz=>h z (by simp[hz]);rw[Ir,Kb,Kb,Dd,Dd,h1,h2,h3,h4];exact⟨O,O⟩
  obtain⟨h1,h2⟩:=this xs ih;rw[h1,h2];exact⟨O,O⟩) x
theorem EN{x y:Tree}(h:blankT x=blankT y):Hl x=Hl y:=by
  unfold Hl;rw[<-(Mv x).1,<-(Mv y).1,<-(Mv x).2,<-(Mv y).2,h]
theorem TF{x:Tree}{key:Str}(h:key∉x.keys):Rb x key=none:=by
  cases hh:Rb x key with
  | none=>rfl
  | some y=>exact absurd (Uy hh) h
theorem PF{x:Tree}(h:Nc x=true)(hk:x.kind=6)(key:Str):Rb (sortT x) key=(Rb x key).map sortT:=by
  obtain⟨k,t,ks,xs⟩:=x;simp only[Tree.kind]at hk;subst hk;have hl:=(IB h rfl).1;rw[D5,if_pos rfl];have hm:key∈Yj ks↔key∈ks:=List.mem_mergeSort;by_cases hin:key∈ks
  ·obtain⟨y, hy⟩ := R3 hl hin
   show Jd (Yj ks) (D6 ks xs) key=(Jd ks xs key).map sortT;unfold D6;rw[EF (hm.2 hin),Ho,hy];rfl
  rw[TF (x:=.node 6 t ks xs) hin,TF (x:=.node 6 t (Yj ks) (D6 ks xs)) (λh=>hin (hm.1 h))];rfl
theorem Uv{x y:Tree}(hx:Nc x=true)(hy:Nc y=true)(kx:x.kind=6)(ky:y.kind=6)(h:Gf x y=true)(key:Str):(Rb x key).map sortT=(Rb y key).map sortT:=by
  rw[<-PF hx kx,<-PF hy ky,(I2 hx hy).1 h]
theorem Ce{x y:Tree}(h:Nc x=true){key:Str}(hm:Rb x key=some y):Nc y=true:=by
  have:=Vp hm;cases x;exact CE h this
theorem TM{b l r v:Tree}{c:List Cf}(h:Zh [] b l r=(v,c,0))(kb:b.kind=6)(kl:l.kind=6)(kr:r.kind=6):ON [] b l r/\Mf v=true /\
    ((Gf l r=true/\v=l/\c=[])\/(Gf b l=true/\v=r/\c=[])\/(Gf b r=true/\v=l/\c=[])\/BB (Yg [] 39) [] 0 b l r=(some v,c)):=by
  by_cases hk:ON [] b l r
  ·have h' := h
   rw[Kk hk]at h';have ho:Mf v=true/\Yg [] (39+1) [] 0 (some b) (some l) (some r)=(some v,c):=by
     obtain⟨u,hu⟩:=Q8 (rl:=[]) (39+1) [] 0 (some b) l r;generalize Yg [] (39+1) [] 0 (some b) (some l) (some r)=q at h' hu;obtain⟨q1,q2⟩:=q;simp only at hu;subst hu;unfold WG at h';simp only[Option.getD_some]at h';split at h'
     ·rename_i ho
      simp only[Prod.mk.injEq,and_true]at h';obtain⟨rfl,rfl⟩:=h';exact⟨ho,O⟩
     exact absurd h' Da
   refine⟨hk,ho.1,?_⟩;by_cases h1:Gf l r=true
   ·rw[E2 hk h1]at h
    simp only[Prod.mk.injEq,and_true]at h;exact .inl ⟨h1,h.1.symm,h.2.symm⟩
   by_cases h2 : Gf b l = true
   ·rw[LJ hk h1 h2]at h
    simp only[Prod.mk.injEq,and_true]at h;exact .inr (.inl ⟨h2,h.1.symm,h.2.symm⟩)
   by_cases h3 : Gf b r = true
   ·rw[SJ hk h1 h2 h3]at h
    simp only[Prod.mk.injEq,and_true]at h;exact .inr (.inr (.inl ⟨h3,h.1.symm,h.2.symm⟩))
   refine .inr (.inr (.inr ?_));rw[<-ho.2,IP (b:=some b) (l:=some l) (r:=some r) h1 h2 h3,Et,if_pos ⟨kb.trans kl.symm,kb.trans kr.symm⟩,if_pos kb]
  rw[Vy hk]at h;exact absurd h Da
theorem L4(p:List Str):Tr [] p=none:=rfl
theorem VK{b l r v:Tree}{c:List Cf}{key:Str}(hsz:Mb l+Mb r<1000)(h:Zh [] b l r=(v,c,0))(kb:b.kind=6)(kl:l.kind=6)(kr:r.kind=6) :
    Mf v=true/\v.kind=6/\Nc b=true/\Nc l=true/\Nc r=true /\
    (∀x y z,Rb b key=some x->Rb l key=some y->Rb r key=some z->∃u d w,Zh [] x y z=(u,d,0)/\Rb v key=some w/\cntK key c=d.length/\(d.length=0->Cr w u=true)) /\
    (Rb b key=none->Rb r key=none->Rb v key=Rb l key) /\
    (Rb b key=none->Rb l key=none->Rb v key=Rb r key) /\
    (Rb l key=none->Rb r key=none->Rb b key≠none->Rb v key=none) /\
    (∀x z,Rb b key=some x->Rb l key=none->Rb r key=some z->(Rb v key).isSome = !Gf x z) /\
    (∀x y,Rb b key=some x->Rb l key=some y->Rb r key=none->(Rb v key).isSome = !Gf x y):=by
  obtain⟨⟨hb,hl,hr,hru⟩,ho,hc⟩:=TM h kb kl kr;have rs:∀{x y:Tree},Nc x=true->Nc y=true->sortT x=sortT y->Gf x y=true:=λh1 h2 h3=>(I2 h1 h2).2 h3;have sv:∀{x y:Tree},Nc x=true->Nc y=true->sortT x=sortT y->Cr x y=true:=λh1 h2 h3=>by rw[On h1 h2];exact rs h1 h2 h3
  refine⟨ho,?_,hb,hl,hr,?_⟩
  ·rcases hc with ⟨_, rfl, _⟩|⟨_, rfl, _⟩|⟨_, rfl, _⟩|hc
   ·exact kl
   ·exact kr
   ·exact kl
   exact (K7 hl (fQ (Hi hl) tX) hc key).1
  rcases hc with ⟨h1,rfl,rfl⟩|⟨h1,rfl,rfl⟩|⟨h1,rfl,rfl⟩|hc
  ·have hs := Uv hl hr kl kr h1 key
   refine⟨λx y z ex ey ez=>?_,λ_ _=>rfl,λ_ e=>?_,λe _ _=>e,λx z _ e1 e2=>?_,λx y _ e1 e2=>?_⟩
   ·rw[ey, ez]at hs
    have hs':sortT y=sortT z:=lQ hs;exact⟨y,[],y,E2 ⟨Ce hb ex,Ce hl ey,Ce hr ez,hru⟩ (rs (Ce hl ey) (Ce hr ez) hs'),ey,O,λ_=>sv (Ce hl ey) (Ce hl ey) O⟩
   ·rw[e]at hs ⊢
    cases hz:Rb r key with
    | none=>rfl
    | some z=>rw[hz]at hs;cases hs
   ·rw[e1,e2]at hs;cases hs
   rw[e1,e2]at hs;cases hs
  ·have hs := Uv hb hl kb kl h1 key
   refine⟨λx y z ex ey ez=>?_,λe1 e2=>?_,λ_ _=>rfl,λe1 e2 _=>e2,λx z e0 e1 e2=>?_,λx y e0 e1 e2=>?_⟩
   ·rw[ex, ey]at hs
    have hs':sortT x=sortT y:=lQ hs;have hk:ON [] x y z:=⟨Ce hb ex,Ce hl ey,Ce hr ez,hru⟩;by_cases h2:Gf y z=true
    ·exact⟨y,[],z,E2 hk h2,ez,O,λ_=>sv hk.2.2.1 hk.2.1 ((I2 hk.2.1 hk.2.2.1).1 h2).symm⟩
    exact⟨z,[],z,LJ hk h2 (rs hk.1 hk.2.1 hs'),ez,O,λ_=>sv hk.2.2.1 hk.2.2.1 O⟩
   ·rw[e1]at hs
    rw[e2];cases hz:Rb l key with
    | none=>rfl
    | some z=>rw[hz]at hs;cases hs
   ·rw[e0,e1]at hs;cases hs
   rw[e0, e1]at hs;rw[e2,rs (Ce hb e0) (Ce hl e1) (lQ hs)];rfl
  ·have hs := Uv hb hr kb kr h1 key
   refine⟨λx y z ex ey ez=>?_,λ_ _=>rfl,λe1 e2=>?_,λe1 _ _=>e1,λx z e0 e1 e2=>?_,λx y e0 e1 e2=>?_⟩
   ·rw[ex, ez]at hs
    have hs':sortT x=sortT z:=lQ hs;have hk:ON [] x y z:=⟨Ce hb ex,Ce hl ey,Ce hr ez,hru⟩;by_cases h2:Gf y z=true
    ·exact⟨y,[],y,E2 hk h2,ey,O,λ_=>sv hk.2.1 hk.2.1 O⟩
    have h3 : ¬ Gf x y = true := λh => h2 (rs hk.2.1 hk.2.2.1 (((I2 hk.1 hk.2.1).1 h).symm.trans hs'));exact⟨y,[],y,SJ hk h2 h3 (rs hk.1 hk.2.2.1 hs'),ey,O,λ_=>sv hk.2.1 hk.2.1 O⟩
   ·rw[e1]at hs
    rw[e2];cases hz:Rb r key with
    | none=>rfl
    | some z=>rw[hz]at hs;cases hs
   ·rw[e0, e2]at hs
    rw[e1,rs (Ce hb e0) (Ce hr e2) (lQ hs)];rfl
   rw[e0,e2]at hs;cases hs
  obtain⟨-, m, h1, h2⟩ := K7 hl (fQ (Hi hl) tX) hc key;refine⟨λx y z ex ey ez=>?_,λe1 e2=>?_,λe1 e2=>?_,λe1 e2 _=>?_,λx z e0 e1 e2=>?_,λx y e0 e1 e2=>?_⟩
  ·rw[ex, ey, ez]at h1 h2
   have hk:ON [] x y z:=⟨Ce hb ex,Ce hl ey,Ce hr ez,hru⟩;have hdy:=Hi hk.2.1;obtain⟨R,t1,t2,t3⟩:=XM (rl:=[]) (rl':=[]) 39 (39+1) [key] [] (λ_=>(L4 _).trans (L4 _).symm) m 0 (some x) (some y) (some z) (Nat.lt_of_le_of_lt hdy tX) (Nat.lt_of_le_of_lt hdy tX);obtain⟨w,hw⟩:=Q8 (rl:=[]) 39 [key] m (some x) y z;obtain⟨u,hu⟩:=Q8 (rl:=[]) (39+1) [] 0 (some x) y z;have hs1:∀{q:Tree},Rb q key≠none->∀v,Rb q key=some v->Mb v<=Mb q:=fun {q} _ v hv=>by
     have:=Yf (Vp hv);cases q;rw[Mb];simp only[Tree.items]at this;omega
   have hy1:=hs1 (by rw[ey];simp) y ey;have hz1:=hs1 (by rw[ez];simp) z ez;have hnode:=atM_node (rl:=[]) (39+1) [] 0 (some x) (some y) (some z) (λ_ e=>by obtain rfl:=lQ e;exact Vn hk.1) (λ_ e=>by obtain rfl:=lQ e;exact Vn hk.2.1) (λ_ e=>by obtain rfl:=lQ e;exact Vn hk.2.2.1) (by simp only[Ni];omega) u hu;rw[hw]at h1 t3;rw[hu]at t3;have hbl:blankT w=blankT u:=lQ t3;have how:Mf w=true:=NY ho (Vp h1);have hou:Mf u=true:=by
     have h3:Hl w=true:=(Bool.and_eq_true_iff.1 how).1;unfold Mf;rw[<-EN hbl,h3,hnode];rfl
   refine⟨u,(Yg [] (39+1) [] 0 (some x) (some y) (some z)).2,w,?_,h1,?_,λh0=>?_⟩
   ·rw[Kk hk]
    generalize Yg [] (39+1) [] 0 (some x) (some y) (some z)=q at hu;obtain⟨q1,q2⟩:=q;simp only at hu;subst hu;exact L1 hou
   ·rw[h2,t1,t2,rQ,rQ]
   have hR : R = [] := by rw[t2, rQ]at h0;exact List.eq_nil_of_length_eq_zero h0
   have cl:∀{q:Tree},Nc q=true->Wt (some q):=λhq _ e=>by obtain rfl:=lQ e;exact Xs hq
   have c1:=Z5 (rl:=[]) 39 [key] m (some x) (some y) (some z) (cl hk.1) (cl hk.2.1) (cl hk.2.2.1) (by rw[t1,hR];rfl) w hw;have c2:=Z5 (rl:=[]) (39+1) [] 0 (some x) (some y) (some z) (cl hk.1) (cl hk.2.1) (cl hk.2.2.1) (by rw[t2,hR];rfl) u hu;have e:w=u:=by rw[<-c1,<-c2,hbl]
   subst e;exact (ZU how how).2 O
  ·rw[h1, e1, e2]
   cases hy:Rb l key with
   | none=>rw[EX (F:=38) (l:=none) (r:=none) rfl]
   | some y=>rw[at_b (F:=38) (b:=none) (l:=some y) (r:=none) (by simp[Vh]) (by simp[Vh]) rfl]
  ·rw[h1, e1, e2]
   cases hz:Rb r key with
   | none=>rw[EX (F:=38) (l:=none) (r:=none) rfl]
   | some z=>rw[at_r (F:=38) (b:=none) (l:=none) (r:=some z) (by simp[Vh]) rfl]
  ·rw[h1,e1,e2,EX (F:=38) (l:=none) (r:=none) rfl]
  ·rw[h1, e0, e1, e2]
   have n1:¬Vh none (some z)=true:=by simp[Vh]
   have n2:¬Vh (some x) none=true:=by simp[Vh]
   by_cases h3:Gf x z=true
   ·rw[at_b (F:=38) n1 n2 (show Vh (some x) (some z)=true from h3),h3];rfl
   rw[IP (F := 38) n1 n2 (show ¬ Vh (some x) (some z) = true from h3)];rw[Bool.not_eq_true]at h3;rw[h3];rfl
  rw[h1, e0, e1, e2];have n1:¬Vh (some y) none=true:=by simp[Vh]
  by_cases h3:Gf x y=true
  ·rw[at_r (F:=38) n1 (show Vh (some x) (some y)=true from h3),h3];rfl
  have n2 : ¬ Vh (some x) none = true := by simp[Vh]
  rw[IP (F:=38) n1 (show ¬Vh (some x) (some y)=true from h3) n2];rw[Bool.not_eq_true]at h3;rw[h3];rfl
abbrev Kf:=List Str × Int × Option Tree × Option Tree × Option Tree
def nfS(s:Sd):Option Tree:=if s.has=true then some (sortT s.val) else none
def K1(c:Cf):Kf:=(c.path,c.cls,nfS c.b,nfS c.l,nfS c.r)
def K2(c:Cf):Kf:=(c.path,c.cls,nfS c.b,nfS c.r,nfS c.l)
structure Tn (a b:Mo):Prop where
  perm:(a.2.map K1).Perm (b.2.map K2)
  size:Ni a.1=Ni b.1
  depth:Vi a.1=Vi b.1
  same:a.2=[]->a.1.map sortT=b.1.map sortT
theorem Tn.nil{a b:Mo}(h:Tn a b):a.2=[]↔b.2=[]:=by
  have:=h.perm.length_eq;rw[rQ,rQ]at this;constructor
  ·intro e;rw[e]at this;exact List.eq_nil_of_length_eq_zero this.symm
  intro e;rw[e]at this;exact List.eq_nil_of_length_eq_zero this
theorem Tn.some_{a b:Mo}(h:Tn a b):a.1.isSome=b.1.isSome:=by
  have:=h.size;obtain⟨a1,a2⟩:=a;obtain⟨b1,b2⟩:=b;cases a1 with
  | none => cases b1 with
    | none=>rfl
    | some y=>have:=Rr y;simp[Ni]at *;omega
  | some x => cases b1 with
    | none=>have:=Rr x;simp[Ni]at *;omega
    | some y=>rfl
section
variable {f g:Str->Nat->Mo}{n m:Nat}{ks ks':List Str}
end
theorem UE{b l r:List Str}:∀(F:Nat)(rest o:List Str),rest.length=F->B7 b l r F rest=some o->o.Perm rest
  | 0, rest, o, hl, h => by
    rw[B7]at h;obtain rfl:=lQ h;rw[List.eq_nil_of_length_eq_zero hl]
  | F + 1, rest, o, hl, h => by
    rw[B7]at h;split at h
    ·rename_i s hs
     obtain⟨o',h1,rfl⟩:=Option.map_eq_some_iff.1 h;have hm:=List.mem_of_find?_eq_some hs;have:=UE F _ _ (by rw[List.length_erase_of_mem hm,hl];rfl) h1;exact (this.cons s).trans (List.perm_cons_erase hm).symm
    cases h
theorem OO{b l r names o:List Str}(h:NB b l r names=some o):o.Perm names:=by
  unfold NB at h;split at h
  ·exact (UE _ _ _ (Aj names) h).trans (Fs names)
  cases h
structure Ln (x y:List Tree) (c d:List Cf):Prop where
  perm:(c.map K1).Perm (d.map K2)
  size:Kb x=Kb y
  depth:Dd x=Dd y
  same:c=[]->x.map sortT=y.map sortT
theorem Ln.append{x y x' y':List Tree}{c d c' d':List Cf}(h:Ln x y c d)(k:Ln x' y' c' d'):Ln (x++x') (y++y') (c++c') (d++d') :=
  ⟨by rw[jQ,jQ];exact h.perm.append k.perm,by rw[Ee,Ee,h.size,k.size],by rw[Po,Po,h.depth,k.depth],
    λe=>by
      obtain⟨e1,e2⟩:=List.append_eq_nil_iff.1 e;rw[jQ,jQ,h.same e1,k.same e2]⟩
theorem Ln.refl(x:List Tree):Ln x x [] []:=⟨.refl _,rfl,rfl,λ_=>rfl⟩
theorem Ln.of{a b:Mo}(h:Tn a b):Ln a.1.toList b.1.toList a.2 b.2:=by
  obtain⟨a1,a2⟩:=a;obtain⟨b1,b2⟩:=b;have hs:=h.some_;refine⟨h.perm,?_,?_,λe=>?_⟩
  ·have := h.size
   cases a1 <;> cases b1 <;> simp[Ni,Kb]at *
   ·exact this
  ·have := h.depth
   cases a1 <;> cases b1 <;> simp[Vi,Dd]at *
   ·exact this
  have := h.same e;cases a1 <;> cases b1 <;> simp at *
  ·exact this
theorem CJ:∀(a:List (Str × Tree)),(a.map (·.1)).Nodup->(a.map (·.1)).map (Yq a)=a.map (·.2)
  | [],_=>rfl
  | x :: a, h => by
    rw[List.map_cons,List.nodup_cons]at h;have ih:=CJ a h.2;rw[List.map_cons,List.map_cons,List.map_cons,<-ih];have e1:Yq (x::a) x.1=x.2:=by simp[Yq,Jd]
    rw[e1]
    congr 1
    refine List.map_congr_left λk hk=>?_;have hne:¬x.1=k:=λe=>h.1 (e▸hk);simp[Yq,Jd,hne]
def RigO(o:Option Tree):Prop:=∀x,o=some x->Nc x=true
theorem RigO.nod{o:Option Tree}(h:RigO o):W8 o:=λx hx=>Vn (h x hx)
def SdR(s:Sd):Prop:=s=noS\/(s.has=true/\Nc s.val=true)
def CfR(c:Cf):Prop:=SdR c.b/\SdR c.l/\SdR c.r/\(c.cls=5->c.b.val.kind=5/\c.l.val.kind=5/\c.r.val.kind=5)/\1<=c.cls/\c.cls<=6
theorem ML{x y:List Tree}(h:∀z∈x,z∈y):Dd x<=Dd y:=by
  have key:∀{z:Tree}{y:List Tree},z∈y->Uc z<=Dd y:=fun {z y} hz=>by
    induction y with
    | nil=>cases hz
    | cons a y ih =>
      rw[Dd];rcases oQ.1 hz with rfl|hz
      ·omega
      have:=ih hz;omega
  induction x with
  | nil=>simp[Dd]
  | cons a x ih =>
    rw[Dd];have h1:=key (h a Da);have h2:=ih λz hz=>h z (by simp[hz]);omega
theorem rig_arr{x:Tree}(h:Nc x=true){p:List Tree}(hp:∀z∈p,z∈x.items)(hs:Kb p<=Kb x.items):Nc (.node 5 [] [] p)=true:=by
  have hd:=ML hp;have h0:=h;obtain⟨k,t,ks,xs⟩:=x;simp only[Tree.items]at hp hs hd;unfold Nc Hl at h ⊢;simp only[Bool.and_eq_true,decide_eq_true_eq]at h ⊢;rw[Mb,Uc]at h ⊢;refine⟨⟨by omega,by omega⟩,?_⟩;rw[Pd,Ur λz hz=>(De h.2).2 z (hp z hz)];rfl
theorem AZ(base v:List Tree)(g:Nat)(hg:g<=base.length):Kb ((Fe base v).put g)<=Kb v:=by
  by_cases h:g=base.length
  ·have := Vk base v g hg
   rw[if_pos h]at this;omega
  have := T4 base v g tX;omega
theorem Ci:∀xs:List Tree,Hh xs=xs.flatMap Eh
  | []=>rfl
  | x::xs=>by rw[Hh,Ci xs,List.flatMap_cons]
def NV(n m:Nat):List Str:=(List.range m).map λi=>Si (n+i)
theorem numR_add(n a b:Nat):NV n (a+b)=NV n a++NV (n+a) b:=by
  unfold NV;rw[List.range_add,jQ,List.map_map]
  congr 1
  exact List.map_congr_left λi _=>by simp[Nat.add_assoc]
section
variable (L:List Cf)(pick:List Int)
def IC(x:Tree):List Tree:=(Xt L 5 [] (Pi x) (We L pick x)).2
def Cx(n:Nat)(c:List Cf):Prop:=∀i x,c[i]? = some x->L[n+i]? = some x
structure Fo (n:Nat) (a:Mo) (S D:Nat):Prop where
  holes:∀v,a.1=some v->(Eh v).Perm (NV n a.2.length)
  val:∀v,a.1=some v->(We L pick v).has=true->Pd rnodeB (We L pick v).val=true/\Mb (We L pick v).val<=S/\Uc (We L pick v).val<=D
  five:∀v,a.1=some v->0<=Pi v->(L.getD (Pi v).toNat noC).cls≠5
  none:a.1=none->a.2=[]
structure Fg (n:Nat) (xs:List Tree) (c:List Cf) (S D:Nat):Prop where
  holes:(Hh xs).Perm (NV n c.length)
  val:∀y∈xs.flatMap (IC L pick),Pd rnodeB y=true/\Uc y<=D
  size:Kb (xs.flatMap (IC L pick))<=S
end
section
variable {L:List Cf}{pick:List Int}
theorem Cx.left{n:Nat}{c d:List Cf}(h:Cx L n (c++d)):Cx L n c:=λi x hx=>h i x (by rw[List.getElem?_append_left (List.getElem?_eq_some_iff.1 hx).1];exact hx)
theorem Cx.right{n:Nat}{c d:List Cf}(h:Cx L n (c++d)):Cx L (n+c.length) d:=λi x hx=>by
  have:=h (c.length+i) x (by rw[List.getElem?_append_right tX,Nat.add_sub_cancel_left];exact hx);rw[Nat.add_assoc];exact this
theorem RZ{x:Tree}(h:0<=Pi x->(L.getD (Pi x).toNat noC).cls≠5):IC L pick x=if (We L pick x).has=true then [(We L pick x).val] else []:=by
  unfold IC Xt;split
  ·rw[if_neg Pa,if_neg λhh=>h hh.1 hh.2]
  rfl
theorem Fg.append{n:Nat}{xs ys:List Tree}{c d:List Cf}{S S' D:Nat}(h:Fg L pick n xs c S D)(k:Fg L pick (n+c.length) ys d S' D):Fg L pick n (xs++ys) (c++d) (S+S') D:=by
  refine⟨?_,λy hy=>?_,?_⟩
  ·rw[Ci,List.flatMap_append,<-Ci,<-Ci,dQ,numR_add];exact h.holes.append k.holes
  ·rw[List.flatMap_append]at hy
   rcases mQ.1 hy with hy|hy
   ·exact h.val y hy
   exact k.val y hy
  rw[List.flatMap_append,Ee];have:=h.size;have:=k.size;omega
theorem Fg.mono{n:Nat}{xs:List Tree}{c:List Cf}{S S' D D':Nat}(h:Fg L pick n xs c S D)(hs:S<=S')(hd:D<=D'):Fg L pick n xs c S' D' :=
  ⟨h.holes,λy hy=>⟨(h.val y hy).1,fQ (h.val y hy).2 hd⟩,fQ h.size hs⟩
theorem Fg.nil{n D:Nat}:Fg L pick n [] [] 0 D:=⟨.refl _,(λy hy=>by cases hy),gQ _⟩
theorem Fo.row{n:Nat}{a:Mo}{S D:Nat}(h:Fo L pick n a S D):Fg L pick n a.1.toList a.2 S D:=by
  obtain⟨o,c⟩:=a;cases o with
  | none =>
    have hc:c=[]:=h.none rfl;subst hc;exact Fg.nil.mono (Nat.zero_le _) (gQ _)
  | some v =>
    have hk:=RZ (pick:=pick) (h.five v rfl);have e:[v].flatMap (IC L pick)=IC L pick v:=by simp
    refine⟨?_,λy hy=>?_,?_⟩
    ·show (Hh [v]).Perm _
     rw[Hh,Hh,qQ];exact h.holes v rfl
    ·have hy' : y ∈ IC L pick v := by rw[<- e];exact hy
     rw[hk]at hy';split at hy'
     ·rename_i hh
      rw[pQ.1 hy'];have:=h.val v rfl hh;exact⟨this.1,this.2.2⟩
     cases hy'
    show Kb ([v].flatMap (IC L pick)) <= S;rw[e,hk];split
    ·rename_i hh
     have:=(h.val v rfl hh).2.1;simp only[Kb];omega
    simp[Kb]
end
section
variable {L:List Cf}{pick:List Int}
theorem Fg.perm{n:Nat}{xs ys:List Tree}{c:List Cf}{S D:Nat}(h:Fg L pick n xs c S D)(hp:ys.Perm xs):Fg L pick n ys c S D:=by
  have h1:(ys.flatMap (IC L pick)).Perm (xs.flatMap (IC L pick)):=hp.flatMap_right _;refine⟨?_,λy hy=>h.val y (h1.mem_iff.1 hy),?_⟩
  ·rw[Ci]
   have:=h.holes;rw[Ci]at this;exact (hp.flatMap_right _).trans this
  rw[Kx h1];exact h.size
end
theorem Fo.mono{L:List Cf}{pick:List Int}{n:Nat}{a:Mo}{S S' D D':Nat}(h:Fo L pick n a S D)(hs:S<=S')(hd:D<=D'):Fo L pick n a S' D' :=
  ⟨h.holes,λv hv hh=>by obtain⟨h1,h2,h3⟩:=h.val v hv hh;exact⟨h1,by omega,by omega⟩,h.five,h.none⟩
end Go.Scarf
