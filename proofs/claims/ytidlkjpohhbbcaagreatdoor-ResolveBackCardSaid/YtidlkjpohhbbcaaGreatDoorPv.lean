/- A part of the proof. -/
import Derived.Test.YtidlkjpohhbbcaaGreatDoorRe23
set_option linter.all false
set_option maxHeartbeats 8000000
set_option maxRecDepth 10000
namespace Go.Scarf
open Go.RowKit Go.Proofs
def Wq(V:Nat->Nat->Tree->Prop):List Int->Nat->Nat->List Tree->Prop
  | [],a,e,xs=>a=e/\xs=[]
  | k::ks,a,e,xs=>∃b x xs',xs=x::xs'/\k=(a:Int)/\V a b x/\Wq V ks b e xs'
def Kx(s:Str)(l:List Nd):Nat->Nat->Nat->Tree->Prop
  | 0,_,_,_=>False
  | d+1,n,e,x=>n<e/\∃y,l[n]? = some y/\y.k=x.kind/\Ug y.k (Ac s y.f y.t)=x.text/\Wq (Kx s l d) y.kids (n+1) e x.items/\(if x.kind=6 then y.kids.map (Mt s l) else [])=x.keys
section
variable {s:Str}{l l':List Nd}{V V':Nat->Nat->Tree->Prop}
theorem Bq:∀{d n e:Nat}{x:Tree},Kx s l d n e x->n<e
  | 0,_,_,_,h=>h.elim
  | _+1,_,_,_,h=>h.1
theorem Uz(hV:∀a b x,V a b x->a<b):∀{ks:List Int}{a e:Nat}{xs:List Tree},Wq V ks a e xs->a<=e
  | [],_,_,_,h=>Nat.le_of_eq h.1
  | k :: ks, a, e, xs, ⟨b, x, xs', _, _, h2, h3⟩ => by
    have:=hV _ _ _ h2;have:=Uz hV h3;omega
theorem Uq(hV:∀a b x,V a b x->a<b):∀{ks:List Int}{a e:Nat}{xs:List Tree},Wq V ks a e xs->∀k∈ks,∃i:Nat,k=(i:Int)/\a<=i/\i<e
  | [],_,_,_,_,k,hk=>by cases hk
  | k0 :: ks, a, e, xs, ⟨b, x, xs', _, h1, h2, h3⟩, k, hk => by
    have h4:=hV _ _ _ h2;have h5:=Uz hV h3;rcases oQ.1 hk with rfl|hk
    ·exact⟨a,h1,gQ _,by omega⟩
    obtain⟨i, h6, h7, h8⟩ := Uq hV h3 k hk;exact⟨i,h6,by omega,h8⟩
theorem Ss(hV:∀a b x,V a b x->a<b):∀{ks:List Int}{a e:Nat}{xs:List Tree},(∀i j x,a<=i->j<=e->V i j x->V' i j x)->Wq V ks a e xs->Wq V' ks a e xs
  | [],_,_,_,_,h=>h
  | k :: ks, a, e, xs, hh, ⟨b, x, xs', h0, h1, h2, h3⟩ => by
    have h4:=hV _ _ _ h2;have h5:=Uz hV h3;exact⟨b,x,xs',h0,h1,hh _ _ _ (gQ _) h5 h2,Ss hV (λi j y h6 h7=>hh i j y Aa h7) h3⟩
theorem RD{z:Int}(h:l[z.toNat]? = l'[z.toNat]?):Mt s l z=Mt s l' z:=by unfold Mt;rw[h]
theorem Is:∀{d n e:Nat}{x:Tree},(∀i,n<=i->i<e->l[i]? = l'[i]?)->Kx s l d n e x->Kx s l' d n e x
  | 0,_,_,_,_,h=>h.elim
  | d + 1, n, e, x, hh, ⟨h1, y, h2, h3, h4, h5, h6⟩ => by
    refine⟨h1,y,(hh n (gQ _) h1).symm.trans h2,h3,h4,Ss (λ_ _ _=>Bq) (λi j z h7 h8 h9=>Is (λq h10 h11=>hh q Aa Aa) h9) h5,?_⟩;rw[<-h6];split
    ·refine List.map_congr_left λk hk => ?_
     obtain⟨i,rfl,h7,h8⟩:=Uq (λ_ _ _=>Bq) h5 k hk;exact (RD (by rw[Int.toNat_natCast];exact hh i Aa h8)).symm
    rfl
theorem G5{e e':Nat}{x:Tree}(hv:V e e' x):∀{ks:List Int}{a:Nat}{xs:List Tree},Wq V ks a e xs->Wq V (ks++[(e:Int)]) a e' (xs++[x])
  | [],a,xs,h=>by obtain⟨rfl,rfl⟩:=h;exact⟨e',x,[],rfl,rfl,hv,rfl,rfl⟩
  | _::_,_,_,⟨b,y,xs',h0,h1,h2,h3⟩=>⟨b,y,xs'++[x],by rw[h0];rfl,h1,h2,G5 hv h3⟩
theorem D9{α:Type}{p:α->Bool}:∀{ks:List α},(∀k∈ks,p k=true)->ks.takeWhile p=ks
  | [],_=>rfl
  | k::ks,h=>by rw[List.takeWhile_cons,if_pos (h k List.mem_cons_self),D9 λz hz=>h z (List.mem_cons_of_mem _ hz)]
theorem DH:∀{d n e:Nat}{x:Tree},Kx s l d n e x->e<=l.length->Sf s l d n=x
  | 0,_,_,_,h,_=>h.elim
  | d + 1, n, e, .node k t ks xs, ⟨h1, y, h2, h3, h4, h5, h6⟩, he => by
    have hit:∀{kids:List Int}{a b:Nat}{zs:List Tree},b<=l.length->Wq (Kx s l d) kids a b zs->kids.map (λj=>Sf s l d j.toNat)=zs:=by
      intro kids
      induction kids with
      | nil=>intro a b zs _ h;rw[h.2];rfl
      | cons k kids ih =>
        intro a b zs hb ⟨c,x,xs',h7,h8,h9,h10⟩;have:=Uz (λ_ _ _=>Bq) h10;subst h7 h8;rw[List.map_cons,ih hb h10,Int.toNat_natCast,DH h9 Aa]
    have hks:y.kids.takeWhile (λj:Int=>decide (0<=j)&&decide (j<(l.length:Int)))=y.kids:=D9 λk hk=>by
      obtain⟨i,rfl,h7,h8⟩:=Uq (λ_ _ _=>Bq) h5 k hk;rw[Bool.and_eq_true,decide_eq_true_eq,decide_eq_true_eq];omega
    have h3:y.k=k:=h3;have h4:Ug y.k (Ac s y.f y.t)=t:=h4;have h6:(if k=6 then y.kids.map (Mt s l) else [])=ks:=h6;rw[Sf,h2];dsimp only;rw[hks,hit he h5,h4,<-h6,h3];rfl
end
structure KEl where
  c:Tk
  T:List Tk
  x:Tree
  key:Str
def Hk(cl:Tk):List KEl->List Tk
  | []=>[cl]
  | e::es=>e.c::(e.T++Hk cl es)
def CD(kid:Ps × List Str->Bool × Ps × List Str)(s:Str)(d:Nat)(e:KEl)(had had':List Str):Prop :=
  ∀(p:Ps)(R:List Tk),p.rest=e.T++R->p.nodes.length+Db e.x<=4096->∃q y,kid (p,had)=(true,q,had')/\q.rest=R/\p.nodes <+: q.nodes/\q.nodes.length=p.nodes.length+Db e.x/\Kx s q.nodes d p.nodes.length q.nodes.length e.x/\q.nodes[p.nodes.length]? = some y/\(Vc (Ac s y.kf y.kt)).1=e.key
def Ww(kid:Ps × List Str->Bool × Ps × List Str)(s:Str)(d:Nat):List Str->List KEl->Prop
  | _,[]=>True
  | had,e::es=>∃had',CD kid s d e had had'/\Ww kid s d had' es
theorem Ko{p:Ps}{t:Tk}{r:List Tk}(hr:p.rest=t::r):p.skip = { p with lf:=t.f,lt:=t.t,rest:=r }:=by unfold Ps.skip;rw[hr]
theorem RA{kid:Ps × List Str->Bool × Ps × List Str}{s:Str}{d len n:Nat}{closing:Int}(cl:Tk)(hcl:cl.k=closing)(hc6:closing≠6):∀(E:List KEl)(e0:KEl)(g:Nat)(p:Ps)(had:List Str)(R:List Tk)(y:Nd)(done:List Tree)(keys:List Str),
    Ww kid s d had (e0::E)->(∀e∈E,e.c.k=6)->p.rest=e0.T++(Hk cl E++R)->p.nodes[n]? = some y->Wq (Kx s p.nodes d) y.kids (n+1) p.nodes.length done->y.kids.map (Mt s p.nodes)=keys->p.nodes.length+Nb ((e0::E).map KEl.x)<=4096->E.length<g ->
    ∃q had' y',Oj kid len n closing g (p,had)=(true,q,had')/\q.rest=R/\q.lt=cl.t/\q.nodes.take n=p.nodes.take n/\q.nodes[n]? = some y'/\(y'.k=y.k/\y'.f=y.f/\y'.kf=y.kf/\y'.kt=y.kt)/\Wq (Kx s q.nodes d) y'.kids (n+1) q.nodes.length (done++(e0::E).map KEl.x)/\y'.kids.map (Mt s q.nodes)=keys++(e0::E).map KEl.key/\q.nodes.length=p.nodes.length+Nb ((e0::E).map KEl.x)
  | E,e0,0,_,_,_,_,_,_,_,_,_,_,_,_,_,h=>absurd h (Nat.not_lt_zero _)
  | E, e0, g + 1, p, had, R, y, done, keys, ⟨had1, hst, hsts⟩, h6, hr, hy, hK, hks, hsz, hg => by
    have hsz0:Nb ((e0::E).map KEl.x)=Db e0.x+Nb (E.map KEl.x):=rfl;obtain⟨q,y0,e1,e2,hpre,hlen,hV,hy0,hkey⟩:=hst p _ hr Aa;obtain⟨hn,-⟩:=List.getElem?_eq_some_iff.1 hy;obtain⟨z,hz⟩:=hpre;have hold:∀i,i<p.nodes.length->q.nodes[i]? = p.nodes[i]?:=λi hi=>by rw[<-hz,List.getElem?_append_left hi]
    have hnq:n<q.nodes.length:=by omega
    have hyq:q.nodes[n]? = some y:=by rw[hold n hn];exact hy
    obtain⟨y1,ey1⟩:∃y1:Nd,y1 = { y with kids:=y.kids++[(p.nodes.length:Int)],pcs:=y.pcs++[((p.lt:Int),((q.here len:Nat):Int))] }:=⟨_,rfl⟩;have ek:y1.kids=y.kids++[(p.nodes.length:Int)]:=by rw[ey1]
    have hset:addKid q.nodes n (p.nodes.length:Int) (p.lt:Int) (q.here len:Int)=q.nodes.set n y1:=by unfold addKid;rw[hyq,ey1]
    have hL:∀i,i≠n->(q.nodes.set n y1)[i]? = q.nodes[i]?:=λi hi=>List.getElem?_set_ne (Ne.symm hi);have hLn:(q.nodes.set n y1)[n]? = some y1:=List.getElem?_set_self hnq;have hLl:(q.nodes.set n y1).length=q.nodes.length:=List.length_set;have hK2:Wq (Kx s (q.nodes.set n y1) d) y1.kids (n+1) (q.nodes.set n y1).length (done++[e0.x]):=by
      rw[ek,hLl];refine G5 (Is (λi h3 h4=>(hL i Aa).symm) hV) (Ss (λ_ _ _=>Bq) (λa b x h3 h4 h5=>Is (λi h7 h8=>?_) h5) hK);rw[hL i Aa,hold i Aa]
    have hks2:y1.kids.map (Mt s (q.nodes.set n y1))=keys++[e0.key]:=by
      rw[ek,jQ,<-hks]
      congr 1
      ·refine List.map_congr_left λk hk => ?_
       obtain⟨i,rfl,h7,h8⟩:=Uq (λ_ _ _=>Bq) hK k hk;exact RD (by rw[Int.toNat_natCast,hL i Aa,hold i h8])
      rw[List.map_cons, List.map_nil]
      congr 1
      unfold Mt;rw[Int.toNat_natCast,hL _ Aa,hy0];exact hkey
    have htk:(q.nodes.set n y1).take n=p.nodes.take n:=by
      rw[List.take_set_of_le (gQ _),<-hz,List.take_append_of_le_length Aa]
    have hy1:y1.k=y.k/\y1.f=y.f/\y1.kf=y.kf/\y1.kt=y.kt:=by rw[ey1];exact⟨rfl,rfl,rfl,rfl⟩
    rw[Oj];dsimp only;rw[e1];dsimp only;rw[if_neg Oa,hset];generalize q.nodes.set n y1=L at hLn hLl hK2 hks2 htk ⊢;cases E with
    | nil =>
      have hr2:({ q with nodes:=L }:Ps).rest=cl::R:=e2;rw[if_pos (by rw[Bj hr2];exact hcl),Ko hr2];refine⟨_,had1,y1,O,O,O,htk,hLn,hy1,hK2,hks2,?_⟩;show L.length=_;rw[hLl,hlen,hsz0];rfl
    | cons e E =>
      have hr2:({ q with nodes:=L }:Ps).rest=e.c::((e.T++Hk cl E)++R):=e2;have hk6:({ q with nodes:=L }:Ps).kind=6:=by rw[Bj hr2];exact h6 e List.mem_cons_self
      rw[if_neg (by rw[hk6];exact Ne.symm hc6),if_neg (by rw[hk6];decide),Ko hr2];have hsz1:Nb ((e::E).map KEl.x)=Db e.x+Nb (E.map KEl.x):=rfl;obtain⟨q2,had2,y2,f1,f2,f3,f4,f5,f6,f7,f8,f9⟩:=RA (len:=len) cl hcl hc6 E e g { q with nodes:=L,lf:=e.c.f,lt:=e.c.t,rest:=(e.T++Hk cl E)++R } had1 R y1 (done++[e0.x]) (keys++[e0.key]) hsts (λx hx=>h6 x (List.mem_cons_of_mem _ hx)) (sQ _ _ _) hLn hK2 hks2 (by show L.length+_<=_;omega) (by simp only[kQ]at hg;omega);refine⟨q2,had2,y2,f1,f2,f3,f4.trans htk,f5,⟨f6.1.trans hy1.1,f6.2.1.trans hy1.2.1,f6.2.2.1.trans hy1.2.2.1,f6.2.2.2.trans hy1.2.2.2⟩,?_,?_,?_⟩
      ·rw[sQ]at f7;exact f7
      ·rw[f8,sQ];rfl
      rw[f9];show L.length+_=_;omega
def RdV(s:Str)(x:Tree):Prop:=∀(d kf kt:Nat)(p:Ps)(a:Nat)(r:Str)(R:List Tk),Hd x<=d->Zd rnodeB x=true->s.drop a=Wc false 0 x 0++r->p.rest=Sq x a++R->p.nodes.length+Db x<=4096 ->
  ∃q y,Zb s d kf kt p=(true,q)/\q.rest=R/\q.lt=a+(Wc false 0 x 0).length/\p.nodes <+: q.nodes/\q.nodes.length=p.nodes.length+Db x/\Kx s q.nodes d p.nodes.length q.nodes.length x/\q.nodes[p.nodes.length]? = some y/\y.kf=kf/\y.kt=kt
theorem YF{s w r:Str}{a:Nat}(h:s.drop a=w++r)(hw:w≠[]):(s.take (a+w.length)).drop a=w/\a+w.length<=s.length:=by
  have h1:=congrArg List.length h;rw[List.length_drop,dQ]at h1;have h2:0<w.length:=List.length_pos_iff.2 hw;refine⟨?_,by omega⟩;rw[List.drop_take,Nat.add_sub_cancel_left,h,List.take_left]
theorem E_{s w r:Str}{a:Nat}(h:s.drop a=w++r)(hw:w≠[]):Ac s a (a+w.length)=w:=by
  obtain⟨h1,h2⟩:=YF h hw;unfold Ac;rw[if_pos ⟨by omega,h2⟩,h1]
theorem CA{s:Str}{d:Nat}{x:Tree}(hx:RdV s x)(hd:Hd x<=d)(hr:Zd rnodeB x=true){a:Nat}{r:Str}(h:s.drop a=Wc false 0 x 0++r)(c:Tk)(had:List Str):CD (Ri s d) s d ⟨c,Sq x a,x,(Vc (Ac s 0 0)).1⟩ had had:=λp R hp hsz=>by
  obtain⟨q,y,e1,e2,-,e4,e5,e6,e7,e8,e9⟩:=hx d 0 0 p a r R hd hr h hp hsz;refine⟨q,y,?_,e2,e4,e5,e6,e7,by rw[e8,e9]⟩;unfold Ri;dsimp only;rw[e1]
theorem E2{s:Str}{d:Nat}{x:Tree}(hx:RdV s x)(hd:Hd x<=d)(hr:Zd rnodeB x=true){k:Str}(hk:Lib.validD k=true){had:List Str}(hn:k∉had){a:Nat}{r:Str}(h:s.drop a=qS k++([58]++(Wc false 0 x 0++r)))(c:Tk) :
    CD (Jd s (Zb s d)) s d ⟨c,⟨8,a,a+(qS k).length⟩::⟨7,a+(qS k).length,a+(qS k).length+1⟩::Sq x (a+(qS k).length+1),x,k⟩ had (k::had):=λp R hp hsz=>by
  have hne:qS k≠[]:=by obtain⟨q,e⟩:=Zy hk;rw[e];simp
  have eq:qS k=Cj k:=if_pos hk;have h2:=(Pf h).1;have h3:=(Pf h2).1;have hr1:p.rest=⟨8,a,a+(qS k).length⟩::⟨7,a+(qS k).length,a+(qS k).length+1⟩::(Sq x (a+(qS k).length+1)++R):=hp;have hkey:S0 s ⟨8,a,a+(qS k).length⟩=k:=by
    unfold S0;dsimp only;rw[(YF h hne).1,eq,Oq hk]
  have hr2:p.skip.rest=⟨7,a+(qS k).length,a+(qS k).length+1⟩::(Sq x (a+(qS k).length+1)++R):=by rw[Ko hr1]
  have hr3:p.skip.skip.rest=Sq x (a+(qS k).length+1)++R:=by rw[Ko hr2]
  have hno:p.skip.skip.nodes=p.nodes:=by rw[Fd,Fd]
  obtain⟨q,y,e1,e2,-,e4,e5,e6,e7,e8,e9⟩:=hx d a (a+(qS k).length) p.skip.skip _ r R hd hr h3 hr3 (by rw[hno];exact hsz);rw[hno]at e4 e5 e6 e7;refine⟨q,y,?_,e2,e4,e5,e6,e7,?_⟩
  ·rw[Qs hr1 rfl (by rw[hkey];exact hn), if_neg (by rw[Bj hr2];exact λh => h rfl), hkey]
   dsimp only;rw[e1]
  rw[e8,e9,E_ h hne,eq,Oq hk]
theorem MJ(x:Tree)(hr:Zd rnodeB x=true)(a:Nat):∃t r,Sq x a=t::r/\t.k≠5/\t.k≠3:=by
  cases x with
  | node k t ks xs =>
    rw[Sq]
    repeat' split
    all_goals exact⟨_,_,rfl,by dsimp only;decide,by dsimp only;decide⟩
theorem PO{s:Str}{d:Nat}:∀(xs:List Tree),(∀x∈xs,RdV s x)->(∀x∈xs,Zd rnodeB x=true)->(∀x∈xs,Hd x<=d)->∀(a:Nat)(r:Str),s.drop a=Zc false 0 0 false (Ef false 0 xs 1)++93::r ->
    ∃E cl,S_ false xs a=Hk cl E/\E.map KEl.x=xs/\(∀had,Ww (Ri s d) s d had E)/\(∀e∈E,e.c.k=6)/\cl.k=5/\cl.t=a+(Zc false 0 0 false (Ef false 0 xs 1)).length+1/\∀e∈E,∃t r,e.T=t::r/\t.k≠5
  | [],_,_,_,a,r,h=>by rw[Ef,Zc];exact⟨[],⟨5,a,a+1⟩,by rw[S_];rfl,rfl,λ_=>trivial,(λe he=>by cases he),rfl,rfl,(λe he=>by cases he)⟩
  | x :: xs, ih, hr, hd, a, r, h => by
    rw[Ef,Sp,Nv x 1]at h ⊢;simp only[Bool.false_eq_true,if_false,sQ]at h ⊢;have h2:=(Pf h).1;obtain⟨E,cl,e1,e2,e3,e4,e5,e6,e8⟩:=PO xs (λy hy=>ih y (List.mem_cons_of_mem _ hy)) (λy hy=>hr y (List.mem_cons_of_mem _ hy)) (λy hy=>hd y (List.mem_cons_of_mem _ hy)) _ r (Pf h2).1;refine⟨⟨⟨6,a,a+1⟩,Sq x (a+1),x,(Vc (Ac s 0 0)).1⟩::E,cl,?_,by rw[List.map_cons,e2],λhad=>⟨had,CA (ih x List.mem_cons_self) (hd x List.mem_cons_self) (hr x List.mem_cons_self) h2 _ had,e3 had⟩,λe he=>?_,e5,?_,λe he=>?_⟩
    ·rw[S_, if_neg Oa, Hk]
     have e1':S_ false xs (a+1+(Wc false 0 x 0).length)=Hk cl E:=e1;rw[e1']
    ·rcases oQ.1 he with rfl|he
     ·rfl
     exact e4 e he
    ·rw[e6];simp only[dQ,kQ,List.length_nil];omega
    rcases oQ.1 he with rfl|he
    ·obtain⟨t, r, e2, e3, -⟩ := MJ x (hr x List.mem_cons_self) (a + 1)
     exact⟨t,r,e2,e3⟩
    exact e8 e he
theorem CO{s:Str}{d:Nat}:∀(xs:List Tree)(ks:List Str)(had:List Str),ks.length=xs.length->ks.Nodup->(∀k∈ks,Lib.validD k=true)->(∀k∈ks,k∉had)->(∀x∈xs,RdV s x)->(∀x∈xs,Zd rnodeB x=true)->(∀x∈xs,Hd x<=d)->∀(a:Nat)(r:Str),s.drop a=Zc false 0 0 false (Gf false 0 xs ks 1)++125::r ->
    ∃E cl,C_ false xs ks a=Hk cl E/\E.map KEl.x=xs/\E.map KEl.key=ks/\Ww (Jd s (Zb s d)) s d had E/\(∀e∈E,e.c.k=6)/\cl.k=3/\cl.t=a+(Zc false 0 0 false (Gf false 0 xs ks 1)).length+1/\∀e∈E,∃t r,e.T=t::r/\t.k≠3
  | [],[],had,_,_,_,_,_,_,_,a,r,h=>by rw[Gf,Zc];exact⟨[],⟨3,a,a+1⟩,by rw[C_];rfl,rfl,rfl,trivial,(λe he=>by cases he),rfl,rfl,(λe he=>by cases he)⟩
  | [],k::ks,_,hl,_,_,_,_,_,_,_,_,_=>by cases hl
  | x::xs,[],_,hl,_,_,_,_,_,_,_,_,_=>by cases hl
  | x :: xs, k :: ks, had, hl, hnd, hv, hn, ih, hr, hd, a, r, h => by
    rw[Gf,Sp,Nv x 1]at h ⊢;simp only[List.headD_cons,List.tail_cons,Bool.false_eq_true,if_false,List.nil_append,sQ]at h ⊢;have hnd2:=List.nodup_cons.1 hnd;have h2:=(Pf h).1;have h3:=(Pf (Pf h2).1).1;obtain⟨E,cl,e1,e2,e7,e3,e4,e5,e6,e8⟩:=CO xs ks (k::had) (by simpa using hl) hnd2.2 (λy hy=>hv y (List.mem_cons_of_mem _ hy)) (λy hy hm=>by
      rcases oQ.1 hm with rfl|hm
      ·exact hnd2.1 hy
      exact hn y (List.mem_cons_of_mem _ hy) hm) (λy hy=>ih y (List.mem_cons_of_mem _ hy)) (λy hy=>hr y (List.mem_cons_of_mem _ hy)) (λy hy=>hd y (List.mem_cons_of_mem _ hy)) _ r (Pf h3).1
    refine⟨⟨⟨6,a,a+1⟩,⟨8,a+1,a+1+(qS k).length⟩::⟨7,a+1+(qS k).length,a+1+(qS k).length+1⟩::Sq x (a+1+(qS k).length+1),x,k⟩::E,cl,?_,by rw[List.map_cons,e2],by rw[List.map_cons,e7],⟨k::had,E2 (ih x List.mem_cons_self) (hd x List.mem_cons_self) (hr x List.mem_cons_self) (hv k List.mem_cons_self) (hn k List.mem_cons_self) h2 _,e3⟩,λe he=>?_,e5,?_,λe he=>?_⟩
    ·rw[C_, if_neg Oa, Hk]
     have e1':C_ false xs ks (a+1+(qS k).length+1+(Wc false 0 x 0).length)=Hk cl E:=e1;simp only[List.headD_cons,List.tail_cons];rw[e1'];rfl
    ·rcases oQ.1 he with rfl|he
     ·rfl
     exact e4 e he
    ·rw[e6];simp only[dQ,kQ,List.length_nil];omega
    rcases oQ.1 he with rfl|he
    ·exact⟨_,_,O,by dsimp only;decide⟩
    exact e8 e he
theorem NI(cl:Tk):∀E:List KEl,E.length<=(Hk cl E).length
  | []=>Nat.zero_le _
  | e::E=>by have:=NI cl E;simp only[Hk,kQ,dQ];omega
def UG(cl:Tk):List KEl->List Tk
  | []=>[cl]
  | e::E=>e.T++Hk cl E
theorem OT{kid:Ps × List Str->Bool × Ps × List Str}{len n:Nat}{closing:Int}{p:Ps}{cl:Tk}{R:List Tk}(hr:p.rest=cl::R)(hcl:cl.k=closing)(had:List Str):Qd kid len n closing (p,had)=(true,{ p with lf:=cl.f,lt:=cl.t,rest:=R },had):=by
  unfold Qd;rw[if_pos (by show p.kind=closing;rw[Bj hr];exact hcl)];dsimp only;rw[Ko hr]
theorem E6{s:Str}{d kf kt e:Nat}{p q1:Ps}{k:Int}{t:Str}{ks:List Str}{xs:List Tree}{y1:Nd}{R:List Tk}(hv:Zb s (d+1) kf kt p=Y2 p.nodes.length (true,q1))(h1:q1.rest=R)(h2:q1.lt=e)(h3:q1.nodes.take p.nodes.length=p.nodes)(h4:q1.nodes[p.nodes.length]? = some y1)(h5:y1.k=k/\y1.kf=kf/\y1.kt=kt)
    (h6:Wq (Kx s q1.nodes d) y1.kids (p.nodes.length+1) q1.nodes.length xs) (h7:(if k=6 then y1.kids.map (Mt s q1.nodes) else [])=ks) (h8:q1.nodes.length=p.nodes.length+Db (.node k t ks xs)) (h9:Ug k (Ac s y1.f q1.lt)=t) :
    ∃q y,Zb s (d+1) kf kt p=(true,q)/\q.rest=R/\q.lt=e/\p.nodes <+: q.nodes/\q.nodes.length=p.nodes.length+Db (.node k t ks xs)/\Kx s q.nodes (d+1) p.nodes.length q.nodes.length (.node k t ks xs)/\q.nodes[p.nodes.length]? = some y/\y.kf=kf/\y.kt=kt:=by
  obtain⟨hn,-⟩:=List.getElem?_eq_some_iff.1 h4;have es:setTo q1.nodes p.nodes.length q1.lt=q1.nodes.set p.nodes.length { y1 with t:=q1.lt }:=by unfold setTo;rw[h4]
  have hL:∀i,p.nodes.length+1<=i->(q1.nodes.set p.nodes.length { y1 with t:=q1.lt })[i]? = q1.nodes[i]?:=λi hi=>List.getElem?_set_ne Aa;refine⟨{ q1 with nodes:=q1.nodes.set p.nodes.length { y1 with t:=q1.lt } },{ y1 with t:=q1.lt },by rw[hv,Y2];dsimp only;rw[es],h1,h2,LV (by rw[List.take_set_of_le (gQ _)];exact h3),by rw[List.length_set];exact h8,?_,List.getElem?_set_self hn,h5.2.1,h5.2.2⟩;refine⟨by rw[List.length_set];exact hn,{ y1 with t:=q1.lt },List.getElem?_set_self hn,h5.1,by show Ug y1.k (Ac s y1.f q1.lt)=t;rw[h5.1];exact h9,?_,?_⟩
  ·rw[List.length_set]
   exact Ss (λ_ _ _=>Bq) (λi j x h10 h11 h12=>Is (λz h13 h14=>(hL z Aa).symm) h12) h6
  show (if k = 6 then y1.kids.map (Mt s _) else []) = ks;rw[<-h7];split
  ·refine List.map_congr_left λz hz => ?_
   obtain⟨i,rfl,h10,h11⟩:=Uq (λ_ _ _=>Bq) h6 z hz;exact RD (by rw[Int.toNat_natCast];exact hL i h10)
  rfl
theorem VF{p:Ps}{t:Tk}{R:List Tk}{kf kt:Nat}(hr:p.rest=t::R):(Xx p t kf kt).skip = { p with nodes:=p.nodes++[K4 t kf kt],lf:=t.f,lt:=t.t,rest:=R }:=by
  rw[Ko (p:=Xx p t kf kt) (t:=t) (r:=R) hr];rfl
theorem Hr{s:Str}{d kf kt:Nat}{p:Ps}{a:Nat}{r w t:Str}{R:List Tk}{K k:Int}(hw:w≠[])(h:s.drop a=w++r)(hK:Kd K=k)(hk:k≠0/\k≠5/\k≠6)(ht:Ug k w=t)(hp:p.rest=⟨K,a,a+w.length⟩::R)(hsz:p.nodes.length+1<=4096) :
    ∃q y,Zb s (d+1) kf kt p=(true,q)/\q.rest=R/\q.lt=a+w.length/\p.nodes <+: q.nodes/\q.nodes.length=p.nodes.length+Db (.node k t [] [])/\Kx s q.nodes (d+1) p.nodes.length q.nodes.length (.node k t [] [])/\q.nodes[p.nodes.length]? = some y/\y.kf=kf/\y.kt=kt:=by
  have e:=Xl (s:=s) (d:=d) (kf:=kf) (kt:=kt) hp (by show ¬Kd K=0;rw[hK];exact hk.1) Aa rfl;have e0:Kd (Tk.k ⟨K,a,a+w.length⟩)=k:=hK;rw[e0,if_neg hk.2.1,if_neg hk.2.2,VF hp]at e;refine E6 (y1:=K4 ⟨K,a,a+w.length⟩ kf kt) e O O ?_ ?_ ⟨hK,O,O⟩ ⟨?_,O⟩ ?_ ?_ ?_
  ·show (p.nodes ++ [_]).take p.nodes.length = p.nodes
   rw[List.take_left]
  ·show (p.nodes ++ [_])[p.nodes.length]? = _
   rw[List.getElem?_append_right (gQ _),Nat.sub_self];rfl
  ·show _ = (p.nodes ++ [_]).length
   rw[dQ];rfl
  ·rw[if_neg hk.2.2]
  ·show (p.nodes ++ [_]).length = _
   rw[dQ,Db,Nb];rfl
  show Ug k (Ac s a (a + w.length)) = t;rw[E_ h hw];exact ht
theorem EA{s:Str}{d kf kt:Nat}{p:Ps}{a:Nat}{R:List Tk}{K k closing:Int}{ks:List Str}{xs:List Tree}{kid:Ps × List Str->Bool × Ps × List Str}(cl:Tk)(E:List KEl)(hp:p.rest=⟨K,a,a+1⟩::(UG cl E++R))
    (hv:Zb s (d+1) kf kt p=Y2 p.nodes.length ((Qd kid s.length p.nodes.length closing ((Xx p ⟨K,a,a+1⟩ kf kt).skip,[])).1,(Qd kid s.length p.nodes.length closing ((Xx p ⟨K,a,a+1⟩ kf kt).skip,[])).2.1))
    (hK:Kd K=k) (hk:k≠2/\k≠3/\k≠4) (hcl:cl.k=closing) (hc6:closing≠6) (hx:E.map KEl.x=xs) (hks:(if k=6 then E.map KEl.key else [])=ks) (hst:Ww kid s d [] E) (h6:∀e∈E.tail,e.c.k=6) (hhd:∀e∈E,∀t r,e.T=t::r->t.k≠closing) (hne:∀e∈E,e.T≠[]) (hsz:p.nodes.length+(1+Nb xs)<=4096) :
    ∃q y,Zb s (d+1) kf kt p=(true,q)/\q.rest=R/\q.lt=cl.t/\p.nodes <+: q.nodes/\q.nodes.length=p.nodes.length+Db (.node k [] ks xs)/\Kx s q.nodes (d+1) p.nodes.length q.nodes.length (.node k [] ks xs)/\q.nodes[p.nodes.length]? = some y/\y.kf=kf/\y.kt=kt:=by
  have htx:∀w,Ug k w=[]:=λw=>by unfold Ug;rw[if_neg hk.1,if_neg hk.2.1,if_neg hk.2.2]
  have hs0:=VF (kf:=kf) (kt:=kt) hp;obtain⟨p0,hp0⟩:∃p0,p0=(Xx p ⟨K,a,a+1⟩ kf kt).skip:=⟨_,rfl⟩;rw[<-hp0]at hv hs0;have hnod:p0.nodes=p.nodes++[K4 ⟨K,a,a+1⟩ kf kt]:=by rw[hs0]
  have hy0:p0.nodes[p.nodes.length]? = some (K4 ⟨K,a,a+1⟩ kf kt):=by rw[hnod,List.getElem?_append_right (gQ _),Nat.sub_self];rfl
  have hl0:p0.nodes.length=p.nodes.length+1:=by rw[hnod,dQ];rfl
  have htk:p0.nodes.take p.nodes.length=p.nodes:=by rw[hnod,List.take_left]
  cases E with
  | nil =>
    have hr0:p0.rest=cl::R:=by rw[hs0];rfl
    rw[OT hr0 hcl]at hv;have hx:[]=xs:=hx;have hks:(if k=6 then [] else [])=ks:=hks;subst hx;refine E6 hv O O htk hy0 ⟨hK,O,O⟩ ⟨hl0.symm,O⟩ ?_ ?_ (htx _)
    ·rw[<-hks];rfl
    show p0.nodes.length=_;rw[hl0,Db,Nb]
  | cons e E =>
    have hr0:p0.rest=e.T++(Hk cl E++R):=by rw[hs0];exact sQ _ _ _
    obtain⟨t,r,ht⟩:=List.exists_cons_of_ne_nil (hne e List.mem_cons_self);have hkk:p0.kind=t.k:=Bj (r:=r++(Hk cl E++R)) (by rw[hr0,ht];rfl);have hkm:Qd kid s.length p.nodes.length closing (p0,[])=Oj kid s.length p.nodes.length closing (p0.rest.length+1) (p0,[]):=by
      unfold Qd;rw[if_neg (by show ¬p0.kind=closing;rw[hkk];exact hhd e List.mem_cons_self t r ht)]
    have hg:E.length<p0.rest.length+1:=by have:=NI cl E;rw[hr0];simp only[dQ];omega
    obtain⟨q,had',y',f1,f2,f3,f4,f5,f6,f7,f8,f9⟩:=RA (n:=p.nodes.length) (len:=s.length) cl hcl hc6 E e (p0.rest.length+1) p0 [] R (K4 ⟨K,a,a+1⟩ kf kt) [] [] hst h6 hr0 hy0 ⟨hl0.symm,rfl⟩ rfl (by rw[hx,hl0];omega) hg;rw[hkm,f1]at hv;rw[hx]at f7 f9;refine E6 hv f2 f3 (f4.trans htk) f5 ⟨f6.1.trans hK,f6.2.2.1,f6.2.2.2⟩ f7 ?_ (by rw[f9,hl0,Db];omega) (htx _);rw[<-hks,f8];rfl
theorem read_val(s:Str)(x:Tree):RdV s x:=Tree.ind (Q:=RdV s) (λk t ks xs ih d kf kt p a r R hd hr h hp hsz=>by
  obtain⟨h1,h2⟩:=I5 hr;rw[Hd]at hd;obtain⟨d,rfl⟩:∃e,d=e+1:=⟨d-1,by omega⟩;have hdx:∀y∈xs,Hd y<=d:=λy hy=>by have:=Vg hy;omega
  rw[Db]at hsz;rcases W2 h1 with ⟨rfl,rfl,rfl,rfl⟩|⟨rfl,ht,rfl,rfl⟩|⟨rfl,ht,rfl,rfl⟩|⟨rfl,ht,rfl,rfl⟩|⟨rfl,rfl,rfl⟩|⟨rfl,rfl,hnd,hk,hl⟩
  ·have e1 : Wc false 0 (.node 1 [] [] []) 0 = [110, 117, 108, 108] := by rw[Wc];rfl
   rw[e1]at h ⊢;rw[Sq]at hp;exact Hr (w:=[110,117,108,108]) La h O Oa O hp Aa
  ·have e1 : Wc false 0 (.node 2 t [] []) 0 = t := by rw[Wc];rfl
   rw[e1]at h ⊢;rw[Sq]at hp;rcases ht with rfl|rfl
   ·exact Hr (w:=[116,114,117,101]) La h O Oa O hp Aa
   exact Hr (w:=[102,97,108,115,101]) La h O Oa O hp Aa
  ·have e1 : Wc false 0 (.node 3 t [] []) 0 = t := by rw[Wc];rfl
   rw[e1]at h ⊢;rw[Sq]at hp;obtain⟨c,t',e0,-⟩:=B6 ht;refine Hr (w:=t) (by rw[e0];simp) h O Oa ?_ hp Aa;unfold Th at ht;rw[Bool.and_eq_true,decide_eq_true_eq,decide_eq_true_eq]at ht;exact ht.2
  ·have e1 : Wc false 0 (.node 4 t [] []) 0 = qS t := by rw[Wc];rfl
   have eq:qS t=Cj t:=if_pos ht;rw[e1]at h ⊢;rw[Sq]at hp;obtain⟨q,e0⟩:=Zy ht;refine Hr (w:=qS t) (by rw[e0];simp) h O Oa ?_ hp Aa;show (Vc (qS t)).1=t;rw[eq,Oq ht]
  ·have e1 : Wc false 0 (.node 5 [] [] xs) 0 = [91] ++ (Zc false 0 0 true (Ef false 0 xs 1) ++ [93]) := by rw[Wc, if_neg Oa, if_neg Oa, if_pos rfl, Es]
   rw[e1]at h ⊢;have h':s.drop a=[91]++(Zc false 0 0 true (Ef false 0 xs 1)++93::r):=by rw[h];simp
   have h3:=(Pf h').1;rw[Sq,if_neg Oa,if_neg Oa,if_neg Oa,if_neg Oa,if_pos rfl]at hp;obtain⟨E,cl,g1,g2,g3,g4,g5,g6,g7,g8⟩:∃E cl,S_ true xs (a+1)=UG cl E/\E.map KEl.x=xs/\Ww (Ri s d) s d [] E/\(∀e∈E.tail,e.c.k=6)/\cl.k=5/\cl.t=a+([91]++(Zc false 0 0 true (Ef false 0 xs 1)++[93]):Str).length/\(∀e∈E,∀t r,e.T=t::r->t.k≠5)/\∀e∈E,e.T≠[]:=by
     cases xs with
     | nil=>exact⟨[],⟨5,a+1,a+1+1⟩,by rw[S_];rfl,rfl,trivial,(λe he=>by cases he),rfl,by rw[Ef,Zc];rfl,(λe he=>by cases he),(λe he=>by cases he)⟩
     | cons x xs =>
       rw[Ef,Sp,Nv x 1]at h3 ⊢;simp only[if_true,List.nil_append,sQ]at h3 ⊢;obtain⟨E,cl,j1,j2,j3,j4,j5,j6,j7⟩:=PO (d:=d) xs (λy hy=>ih y (List.mem_cons_of_mem _ hy)) (λy hy=>h2 y (List.mem_cons_of_mem _ hy)) (λy hy=>hdx y (List.mem_cons_of_mem _ hy)) _ r (Pf h3).1;have key:∀e∈(⟨⟨6,0,0⟩,Sq x (a+1),x,(Vc (Ac s 0 0)).1⟩:KEl)::E,∃t r,e.T=t::r/\t.k≠5:=λe he=>by
         rcases oQ.1 he with rfl|he
         ·obtain⟨t, r, e2, e3, -⟩ := MJ x (h2 x List.mem_cons_self) (a + 1)
          exact⟨t,r,e2,e3⟩
         exact j7 e he
       refine⟨⟨⟨6,0,0⟩,Sq x (a+1),x,(Vc (Ac s 0 0)).1⟩::E,cl,?_,by rw[List.map_cons,j2],⟨[],CA (ih x List.mem_cons_self) (hdx x List.mem_cons_self) (h2 x List.mem_cons_self) h3 _ _,j3 []⟩,j4,j5,?_,λe he t r ht=>?_,λe he=>?_⟩
       ·rw[S_,if_pos rfl];exact congrArg _ j1
       ·rw[j6];simp only[dQ,kQ,List.length_nil];omega
       ·obtain⟨t2, r2, e2, e3⟩ := key e he
        rw[e2,List.cons.injEq]at ht;rw[<-ht.1];exact e3
       obtain⟨t2, r2, e2, e3⟩ := key e he;rw[e2];exact List.cons_ne_nil _ _
   have hp':p.rest=⟨4,a,a+1⟩::(UG cl E++R):=by rw[hp,g1];rfl
   have e:=Xl (s:=s) (d:=d) (kf:=kf) (kt:=kt) hp' (by dsimp only;decide) Aa rfl;rw[if_pos (by dsimp only;decide)]at e;obtain⟨q,y,f1,f2,f3,f⟩:=EA (k:=5) (ks:=[]) cl E hp' e rfl Oa g5 Oa g2 rfl g3 g4 g7 g8 hsz;exact⟨q,y,f1,f2,f3.trans g6,f⟩
  have e1 : Wc false 0 (.node 6 [] ks xs) 0 = [123] ++ (Zc false 0 0 true (Gf false 0 xs ks 1) ++ [125]) := by rw[Wc, if_neg Oa, if_neg Oa, if_neg Oa, if_pos rfl, Es]
  rw[e1]at h ⊢;have h':s.drop a=[123]++(Zc false 0 0 true (Gf false 0 xs ks 1)++125::r):=by rw[h];simp
  have h3:=(Pf h').1;rw[Sq,if_neg Oa,if_neg Oa,if_neg Oa,if_neg Oa,if_neg Oa]at hp;obtain⟨E,cl,g1,g2,g9,g3,g4,g5,g6,g7,g8⟩:∃E cl,C_ true xs ks (a+1)=UG cl E/\E.map KEl.x=xs/\E.map KEl.key=ks/\Ww (Jd s (Zb s d)) s d [] E/\(∀e∈E.tail,e.c.k=6)/\cl.k=3/\cl.t=a+([123]++(Zc false 0 0 true (Gf false 0 xs ks 1)++[125]):Str).length/\(∀e∈E,∀t r,e.T=t::r->t.k≠3)/\∀e∈E,e.T≠[]:=by
    cases xs with
    | nil =>
      cases ks with
      | nil=>exact⟨[],⟨3,a+1,a+1+1⟩,by rw[C_];rfl,rfl,rfl,trivial,(λe he=>by cases he),rfl,by rw[Gf,Zc];rfl,(λe he=>by cases he),(λe he=>by cases he)⟩
      | cons k ks=>cases hl
    | cons x xs =>
      cases ks with
      | nil=>cases hl
      | cons k ks =>
        rw[Gf,Sp,Nv x 1]at h3 ⊢;simp only[List.headD_cons,List.tail_cons,Bool.false_eq_true,if_false,if_true,List.nil_append,sQ]at h3 ⊢;have hnd2:=List.nodup_cons.1 hnd;obtain⟨E,cl,j1,j2,j8,j3,j4,j5,j6,j7⟩:=CO (d:=d) xs ks [k] (by simpa using hl) hnd2.2 (λy hy=>hk y (List.mem_cons_of_mem _ hy)) (λy hy hm=>by rw[pQ]at hm;subst hm;exact hnd2.1 hy) (λy hy=>ih y (List.mem_cons_of_mem _ hy)) (λy hy=>h2 y (List.mem_cons_of_mem _ hy)) (λy hy=>hdx y (List.mem_cons_of_mem _ hy)) _ r (Pf (Pf (Pf h3).1).1).1;have key:∀e∈(⟨⟨6,0,0⟩,⟨8,a+1,a+1+(qS k).length⟩::⟨7,a+1+(qS k).length,a+1+(qS k).length+1⟩::Sq x (a+1+(qS k).length+1),x,k⟩:KEl)::E,∃t r,e.T=t::r/\t.k≠3:=λe he=>by
          rcases oQ.1 he with rfl|he
          ·exact⟨_,_,O,by dsimp only;decide⟩
          exact j7 e he
        refine⟨⟨⟨6,0,0⟩,⟨8,a+1,a+1+(qS k).length⟩::⟨7,a+1+(qS k).length,a+1+(qS k).length+1⟩::Sq x (a+1+(qS k).length+1),x,k⟩::E,cl,?_,by rw[List.map_cons,j2],by rw[List.map_cons,j8],⟨[k],E2 (ih x List.mem_cons_self) (hdx x List.mem_cons_self) (h2 x List.mem_cons_self) (hk k List.mem_cons_self) La h3 _,j3⟩,j4,j5,?_,λe he t r ht=>?_,λe he=>?_⟩
        ·rw[C_, if_pos rfl];simp only[List.headD_cons, List.tail_cons]
         have j1':C_ false xs ks (a+1+(qS k).length+1+(Wc false 0 x 0).length)=Hk cl E:=j1;rw[j1'];rfl
        ·rw[j6];simp only[dQ,kQ,List.length_nil];omega
        ·obtain⟨t2, r2, e2, e3⟩ := key e he
         rw[e2,List.cons.injEq]at ht;rw[<-ht.1];exact e3
        obtain⟨t2, r2, e2, e3⟩ := key e he;rw[e2];exact List.cons_ne_nil _ _
  have hp':p.rest=⟨2,a,a+1⟩::(UG cl E++R):=by rw[hp,g1];rfl
  have e:=Xl (s:=s) (d:=d) (kf:=kf) (kt:=kt) hp' (by dsimp only;decide) Aa rfl;rw[if_neg (by dsimp only;decide),if_pos (by dsimp only;decide)]at e;obtain⟨q,y,f1,f2,f3,f⟩:=EA (k:=6) (ks:=ks) cl E hp' e rfl Oa g5 Oa g2 g9 g3 g4 g7 g8 hsz;exact⟨q,y,f1,f2,f3.trans g6,f⟩) x
theorem KU(x:Tree):∀a,∀y∈Sq x a,y.k≠1:=Tree.ind (Q:=λx=>∀a,∀y∈Sq x a,y.k≠1) (λk t ks xs ih=>by
  have hA:∀(ys:List Tree),(∀z∈ys,z∈xs)->∀(b:Bool)(a:Nat),∀y∈S_ b ys a,y.k≠1:=by
    intro ys
    induction ys with
    | nil=>intro _ b a y hy;rw[S_,pQ]at hy;rw[hy];exact (by decide:(5:Int)≠1)
    | cons z ys ihy =>
      intro hm b a y hy;rw[S_]at hy;have h1:=ih z (hm z List.mem_cons_self);have h2:=ihy λw hw=>hm w (List.mem_cons_of_mem _ hw);split at hy
      ·rcases mQ.1 hy with h|h
       ·exact h1 _ y h
       exact h2 _ _ y h
      rcases oQ.1 hy with rfl|hy
      ·exact (by decide:(6:Int)≠1)
      rcases mQ.1 hy with h|h
      ·exact h1 _ y h
      exact h2 _ _ y h
  have hO:∀(ys:List Tree),(∀z∈ys,z∈xs)->∀(b:Bool)(js:List Str)(a:Nat),∀y∈C_ b ys js a,y.k≠1:=by
    intro ys
    induction ys with
    | nil=>intro _ b js a y hy;rw[C_,pQ]at hy;rw[hy];exact (by decide:(3:Int)≠1)
    | cons z ys ihy =>
      intro hm b js a y hy;rw[C_]at hy;have h1:=ih z (hm z List.mem_cons_self);have h2:=ihy λw hw=>hm w (List.mem_cons_of_mem _ hw);have h3:∀{l:List Tk}{t1 t2:Tk}{c e:Nat},y∈t1::t2::(Sq z c++C_ false ys js.tail e)->t1.k≠1->t2.k≠1->y.k≠1:=fun {l t1 t2 c e} h k1 k2=>by
        rcases oQ.1 h with rfl|h
        ·exact k1
        rcases oQ.1 h with rfl|h
        ·exact k2
        rcases mQ.1 h with h|h
        ·exact h1 _ y h
        exact h2 _ _ _ y h
      split at hy
      ·exact h3 (l:=[]) hy (by dsimp only;decide) (by dsimp only;decide)
      rcases oQ.1 hy with rfl|hy
      ·exact (by decide:(6:Int)≠1)
      exact h3 (l:=[]) hy (by dsimp only;decide) (by dsimp only;decide)
  intro a y hy;rw[Sq]at hy
  repeat' split at hy
  all_goals first
    | (rw[pQ]at hy;rw[hy];dsimp only;decide)
    | skip
  ·rcases oQ.1 hy with rfl|hy
   ·exact (by decide:(4:Int)≠1)
   exact hA xs (λ_ h=>h) _ _ y hy
  rcases oQ.1 hy with rfl|hy
  ·exact (by decide:(2:Int)≠1)
  exact hO xs (λ_ h=>h) _ _ _ y hy) x
theorem CU{x:Tree}(hr:Ye x=true)(hl:(Wc false 0 x 0).length<=65536):Cc (Wc false 0 x 0)=(x,(Wc false 0 x 0).length,0):=by
  unfold Ye Qq at hr;rw[Bool.and_eq_true,Bool.and_eq_true,decide_eq_true_eq,decide_eq_true_eq]at hr;obtain⟨⟨hsz,hd⟩,ha⟩:=hr;have ht:=IU ha hl;have hf:E5 (Wc false 0 x 0)=Sq x 0:=by
    unfold E5;rw[ht];exact List.filter_eq_self.2 λy hy=>by rw[decide_eq_true_eq];exact KU x 0 y hy
  obtain⟨q,y,e1,e2,-,-,e5,e6,-⟩:=read_val (Wc false 0 x 0) x 32 0 0 (Up (Wc false 0 x 0)) 0 [] [] hd ha La (by show E5 _=_;rw[hf,qQ]) (by show 0+_<=_;omega);have hp:=Xq (s:=Wc false 0 x 0) (by rw[ht]) e1;rw[if_neg Oa,if_neg (by rw[e2];exact λh=>h rfl)]at hp;unfold Cc;dsimp only;rw[hp];dsimp only;rw[if_neg Oa];have e7:Sf (Wc false 0 x 0) q.nodes 32 0=x:=DH e6 (gQ _);rw[e7]
end Go.Scarf
