/- A part of the proof. -/
import Derived.Test.YtgkmigdopohcnaaGreatDoorQ2
import Derived.Test.YtgkmigdopohcnaaGreatDoorEn
set_option linter.all false
set_option maxHeartbeats 8000000
set_option maxRecDepth 10000
namespace Go.Scarf
open Go.RowKit Go.Proofs Go.Proofs.Tryz
theorem MS(s:Str):0<=Hr s/\Hr s<=12:=by unfold Hr;(repeat' split) <;> decide
def N2(x:Tk):Prop:=0<=x.k/\x.k<=12/\x.f<x.t/\x.t<=65536
theorem JA{s:Str}{a:Nat}(ha:a<s.length)(h:(Lg s a).2=0):a<(Lg s a).1.t/\(Lg s a).1.t<=s.length/\(Lg s a).1.f=a/\0<=(Lg s a).1.k/\(Lg s a).1.k<=12:=by
  unfold Lg at h ⊢;have h0:0<(s.drop a).length:=by rw[List.length_drop];omega
  rw[N6 h0]at h ⊢;have hpos:∀p:UInt8->Bool,p (s.drop a)[0]=true->0<Mh p (s.drop a):=λp hp=>by
    cases hd:s.drop a with
    | nil=>rw[hd]at h0;simp at h0
    | cons c r=>simp only[hd,List.getElem_cons_zero]at hp;rw[Mh,if_pos hp];omega
  have hle:∀p:UInt8->Bool,Mh p (s.drop a)<=s.length-a:=λp=>by have:=Mo p (s.drop a);rwa [List.length_drop]at this
  have hq:=IN s a Ba;generalize (s.drop a)[0]=c at h hpos ⊢;unfold Hu at h ⊢;dsimp only at h ⊢;split at h
  ·rename_i h1;rw[if_pos h1];have:=(G1 [123,125,91,93,44,58] c).2;simp only[kQ,List.length_nil]at this;exact⟨by simp only;omega,by simp only;omega,rfl,by simp only;omega,by simp only;omega⟩
  rename_i h1;rw[if_neg h1]
  split at h
  ·rename_i h2;rw[if_pos h2];have:=hpos _ h2;have:=hle Wo;exact⟨by simp only;omega,by simp only;omega,rfl,by simp only;decide,by simp only;decide⟩
  rename_i h2;rw[if_neg h2]
  split at h
  ·rename_i h3;rw[if_pos h3]
   split at h
   ·rename_i h4;rw[if_pos h4]
    refine⟨?_,hq.1,O,by simp only;decide,by simp only;decide⟩;show a<(Ke s a).2.1;unfold Ke at h4 ⊢;split at h4
    ·rename_i h5;rw[if_pos h5]
     have:=Qx (s.length-a) s (a+1) [] Ba Ba;omega
    cases h4
   rename_i h4;exact absurd h h4
  rename_i h3;rw[if_neg h3]
  split at h
  ·rename_i h4;rw[if_pos h4]
   split at h
   ·rename_i h5;rw[if_pos h5]
    have hn:RA c=true:=by
      have:∀n<256,((UInt8.ofNat n).toNat=45\/(48<=(UInt8.ofNat n).toNat/\(UInt8.ofNat n).toNat<=57))->RA (UInt8.ofNat n)=true:=by decide +kernel
      have h2:=this c.toNat (UInt8.toNat_lt c);simp only[UInt8.ofNat_toNat]at h2;exact h2 h4
    have:=hpos _ hn;have:=hle RA;exact⟨by simp only;omega,by simp only;omega,O,by simp only;decide,by simp only;decide⟩
   rename_i h5;exact absurd h h5
  rename_i h4;rw[if_neg h4]
  split at h
  ·rename_i h5;rw[if_pos h5]
   have:=hle Jh;have hw:=MS ((s.drop a).take (Mh Jh (s.drop a)));refine⟨?_,by simp only;omega,O,hw.1,hw.2⟩;show a<a+Mh Jh (s.drop a);rcases Nat.eq_zero_or_pos (Mh Jh (s.drop a))with h6|h6
   ·rw[h6]at h5;exact absurd (by rw[List.take_zero];rfl) h5
   omega
  cases h
theorem all_c(s:Str)(w0:World):Calls prog 141 #[I s] w0 (Pc λv w'=>∃b:Nat,v=.func (.func 183) #[] #[V b]/\w'.heap[b]? = some (.cells #[I s] 9)/\w0.heap.size<=b/\Same [] w0 w'):=by
 refine Ea func141 O ntmps141 Db (Rb _) ?_;have hF:=FR.start w0 [];refine Da (CA (.string _) hF O ?_);rintro b1 w hb1 hF -;refine Aa (Px) (Qb (Ja (v:=.func (.func 183) #[] #[V b1]) (Zi O) (Aa (Px) (Ca ?_))));refine Hc (v:=.func (.func 183) #[] #[V b1]) O O ?_;exact⟨b1,O,hF.heap (i:=0) O,hF.ge (i:=0) O,hF.same⟩
theorem BY{s:Str}{x:Tk × Int}{A:List Tk × Nat × Int}(h:(if x.2=0 then A else ([],x.1.f,x.2))=Yd s)(hok:(Yd s).2.2=0):x.2=0:=by
  by_cases hx:x.2=0
  ·exact hx
  rw[if_neg hx]at h;rw[<-h]at hok;exact hok
end Go.Scarf
namespace Go.Scarf.Fn
open Go.Scarf Go.RowKit Go.Proofs Go.Proofs.Tryz
set_option maxHeartbeats 4000000 in
set_option maxRecDepth 10000 in
theorem all1_c(s:Str)(hU:UniC s)(hl:s.length<=65536)(hok:(Yd s).2.2=0)(w0:World)(hG:Gl w0)(l Bn:Nat)(SU:List Tk->List (Nat × Obj)->Prop)(hBn:∀pre u,SU pre u->(Bn,.cells #[I s] 9)∈u)(hY:∀pre (eb:Nat) (eo:Obj) u w x,pre.length<65536->N2 x->SU pre u->FR w0 [] ([(eb,eo)]++(u++[])) w->YieldAt (Fw none) 2 prog l #[tkA x,J 0] w (λe w'=>e=.returned (.bool true)/\∃u',SU (pre++[x]) u'/\FR w0 [] ([(eb,eo)]++(u'++[])) w'))(u:List (Nat × Obj))(hSU:SU [] u)(w:World)(hF0:FR w0 [] u w):Calls prog 183 #[.func (.yield l) #[] #[],V Bn] w (Pc λv w'=>∃u,SU (Yd s).1 u/\FR w0 [] u w'):=by
 refine Z9 (m:=3) func183 O ntmps183 (Nat.le_of_ble_eq_true O) (Lc _ _) ?_;have hF:FR w0 [] ([]++(u++[])) w:=by simpa using hF0
 refine Fa (Fa (Ha ?_));refine Ja (v:=I s) (Ad iZ O (by rw[Cc (hF.memHeap (List.mem_append_right _ (List.mem_append_left _ (hBn _ _ hSU)))) 0];rfl)) ?_;refine Aa (Qr iX O) (Aa (Gz O O) (Ua (Ga ?_)));refine We (by show Value.bool (decide _)=_;rw[decide_eq_false (by omega)]) ?_;refine Na (Ga (Fa (Ha (Aa (Lb O) (Ua (Ga (Va ?_)))))));refine Tc (λμ σ w=>∃(f:Nat),∃(a:Nat),∃(pre:List Tk),∃(u:List (Nat × Obj)),μ=s.length-a/\(R3 f s a pre=Yd s/\s.length-a<f/\a<=s.length/\pre.length<=a)/\(SU pre u)/\AllEq σ [(0,.func (.yield l) #[] #[]),(1,.pointer (some ((⟨Bn,0,none⟩:Addr)))),(3,J ((a:Int)))]/\FR w0 [] ([]++(u++[])) w) _ ⟨s.length+1,0,[],u,O,(⟨by rw[Yd,if_neg (by omega)],by omega,Nat.zero_le _,gQ _⟩),(hSU),⟨O,O,O,trivial⟩,hF⟩ ?_;rintro μ σ w ⟨f,a,pre,u,rfl,hq,hSU,hs,hF⟩;refine Cg.slots hs ?_;clear hs;intro σ;obtain⟨f,rfl⟩:∃g,f=g+1:=⟨f-1,by omega⟩;have hstep:=hq.1;rw[R3]at hstep;refine Fa (Fa (Ha (Aa (Gb O) ?_)));refine Ja (v:=I s) (Ad iZ O (by rw[Cc (hF.memHeap (List.mem_append_right _ (List.mem_append_left _ (hBn _ _ hSU)))) 0];rfl)) ?_;refine Aa (Qr iX O) (Aa (Sl O O) (Ua (Ga ?_)));refine Pb O O (λhc1=>?_) (λhc1=>?_);refine Na (Ga (Va (Fa (Ha ?_))));refine Ja (v:=I s) (Ad iZ O (by rw[Cc (hF.memHeap (List.mem_append_right _ (List.mem_append_left _ (hBn _ _ hSU)))) 0];rfl)) ?_;refine Aa (Gb O) ?_;rw[if_pos (by omega)]at hstep;have hz:(Lg s a).2=0:=BY hstep hok;rw[if_pos hz]at hstep;have hto:=JA (s:=s) (a:=a) (by omega) hz;refine Ya (Ci (v':=.tuple #[tkA (Lg s a).1,J 0]) (VO s a hU (by omega) (by omega) _ (hG.ext hF.same)) (by rw[hz])) (Ra en_184 O O O) ?_;rintro _ w ⟨rfl,hE⟩;have hF:=hF.ext hE;refine Aa (Ri O) (Aa (Dq O O) (Aa (Gj O O) ?_));refine Ye hF jX jZ O ?_;rintro b1 w hb1 hF -;refine Aa (Lb O) (Ua (Ga (Fa (Fa (Ha (Aa (Pr) (Tb (He wQ jZ O hF.F 0 O O) (Aa (Gb O) ?_))))))))
 have hyy:=hY pre b1 (.cells #[J ((Lg s a).1.k),J (((Lg s a).1.f:Nat)),J (((Lg s a).1.t:Nat))] 149) u w (Lg s a).1 (by omega) ⟨hto.2.2.2.1,hto.2.2.2.2,by rw[hto.2.2.1];exact hto.1,by omega⟩ hSU hF;refine XX hyy (λhy=>EQ O O O hy) ?_;clear hF hyy;rintro e w ⟨rfl,u2,hSU2,hF⟩;refine⟨.bool true,O,?_⟩;refine Aa (Oh (b:=true) O) (Aa (Dc O) (Aa (Gb O) (Aa (Om O O) (Aa (Bc O O) (Ua (Ga ?_))))));refine We (by rfl) (Na (Ga (Ha (Aa (Ob Nv O) (Aa (Ob Sn O) (Tb (Yi dZ O hF.F 0 O O) (Aa (Lb O) (Ua (Cb ?_)))))))));refine Xb ⟨_,?_,f,(Lg s a).1.t,(pre++[(Lg s a).1]),u2,O,(⟨hstep,by omega,hto.2.1,by rw[dQ];show pre.length+1<=_;omega⟩),(hSU2),⟨O,O,O,trivial⟩,hF.drop 1⟩;omega;refine Kc (Ec O ?_);refine Fg (Ce (Xi O) ?_);rw[if_neg (by omega)]at hstep;exact⟨u,by rw[<-hstep];exact hSU,by simpa using hF⟩
section
variable {P:Program}{n:Nat}{s:Nat->Value}{w w0:World}{Ds:List Nat}{bs_ bs':List (Nat × Obj)}
theorem FR.takeK{w':World}{b:Nat}{o:Obj}(hF:FR w0 Ds bs_ w)(hE:Same [] w w')(hh:w'.heap[b]? = some o)(hg:w.heap.size<=b):FR w0 Ds ((b,o)::bs_) w' :=
  (hF.ext hE).addD hh (.inl (fQ hF.same.size hg)) λq hq=>by have:=Kb (hF.memHeap hq);omega
theorem OA(n:Nat)(s:Nat->Value)(d:Nat)(v:Value):(Cx n s []).tmps.setIfInBounds d v=(Cx n (Ge s d v) []).tmps:=by
  have:=Ys n s [] (some d) v;exact congrArg Act.tmps this
theorem res_3c{fn:Func}{a b c T1 T2 T3:Nat}{p q r:Addr}{x y z:Value}(h:fn.results=#[.cell a T1,.cell b T2,.cell c T3])(ha:ev n s (.tmp a)=.pointer (some p))(hb:ev n s (.tmp b)=.pointer (some q))(hc:ev n s (.tmp c)=.pointer (some r))
    (g1:∀w,(isAgg T1).run P w=.ok false w) (g2:∀w,(isAgg T2).run P w=.ok false w) (g3:∀w,(isAgg T3).run P w=.ok false w) (h1:w.cell? p=some x) (h2:w.cell? q=some y) (h3:w.cell? r=some z) :
    (results fn (Ok n s).tmps).run P w=.ok (.tuple #[x,y,z]) w:=by
  have e1:=Ag n s a;have e2:=Ag n s b;have e3:=Ag n s c;rw[ha,Array.getD_eq_getD_getElem?]at e1;rw[hb,Array.getD_eq_getD_getElem?]at e2;rw[hc,Array.getD_eq_getD_getElem?]at e3;have k1:(loadVar T1 p).run P w=.ok x w:=by simp[loadVar,g1,load,Sem.run,h1]
  have k2:(loadVar T2 q).run P w=.ok y w:=by simp[loadVar,g2,load,Sem.run,h2]
  have k3:(loadVar T3 r).run P w=.ok z w:=by simp[loadVar,g3,load,Sem.run,h3]
  simp[results,h,e1,e2,e3,asAddr,k1,k2,k3]
end
def tkC(x:Tk):List Value:=[J x.k,J (x.f:Nat),J (x.t:Nat)]
def tkCs(l:List Tk):List Value:=l.flatMap tkC
theorem QM(l:List Tk)(x:Tk):tkCs (l++[x])=tkCs l++tkC x:=by simp[tkCs]
section
variable {r:Option Nat}{m:Nat}{ds:List Deferred}{P:Program}{R:Exit->Act->World->Prop}{n:Nat}{k:Kt}{s:Nat->Value}{w w0:World}{Ds:List Nat}{bs_:List (Nat × Obj)}{fn l D:Nat}{ps:Array Tmp}{as_ body:Code}{Rd:Ending->World->Prop}{RC:LoopState->Obj}{s1 s0:Nat->Value}
theorem LU{g:Operand}{gf:FuncId}{lb:Array Value}(hF:FR w0 Ds bs_ w)(hg:ev n s g=.func (.func gf) #[] lb)(eg:Qa P gf)
    (h:∀fn D l w' RC,RC=Ur fn n s ps as_ body D->FR w0 Ds ((l,RC .ready)::(D,.deferred (some []))::bs_) w'->Same [] w w' ->
      Calls P gf (#[.func (.yield l) #[] #[]]++lb) w' (Pc λ_ w3=>∃st,st≠.busy/\w3.heap[l]? = some (RC st)/\Eg none m (JT D) P R n .normal k s (w3.putObj l (RC .exhausted)))) (hk:MC k=true:=by rfl) :
    Cg none m [] P R n (.rangeFunc g ps as_ body) k s w:=LW hF hg eg (λfn D l w' h1 h2=>h fn D l w' _ rfl h1 h2) hk
theorem GT{vs:Array Value}{s':Nat->Value}(hRC:RC=Ur fn n s ps as_ body D)(hl:w.heap[l]? = some (RC .ready))(hsz:vs.size=ps.size)(hs:(ps.zip vs).foldl (λtmps (x:Tmp × Value)=>tmps.setIfInBounds x.1 x.2) (Cx n s []).tmps=(Cx n s' []).tmps)
    (h:Cg (some l) m [] P (Exit.then (λa1 w1=>∃w2,(Instr.beginRound l).run P w1=.ok () w2/\body.wpIn (Fw (some l)) m P (roundPost P l Rd) a1 w2) (λ_ _ _=>False)) n as_ .done s' w):YieldAt (Fw none) m P l vs w Rd:=SW (hRC▸hl) hsz hs h
theorem foldl2(n:Nat)(s:Nat->Value)(a b:Tmp)(x y:Value):((#[a,b]:Array Tmp).zip #[x,y]).foldl (λtmps (x:Tmp × Value)=>tmps.setIfInBounds x.1 x.2) (Cx n s []).tmps=(Cx n (Ge (Ge s a x) b y) []).tmps:=by
  rw[<-OA,<-OA];simp
theorem ZQ{a b:Tmp}{x y:Value}(hRC:RC=Ur fn n s #[a,b] as_ body D)(hl:w.heap[l]? = some (RC .ready))
    (h:Cg (some l) m [] P (Exit.then (λa1 w1=>∃w2,(Instr.beginRound l).run P w1=.ok () w2/\body.wpIn (Fw (some l)) m P (roundPost P l Rd) a1 w2) (λ_ _ _=>False)) n as_ .done (Ge (Ge s a x) b y) w):YieldAt (Fw none) m P l #[x,y] w Rd:=GT hRC hl rfl (foldl2 n s a b x y) h
theorem BX(hRC:RC=Ur fn n s0 ps as_ body D)(hl:w.heap[l]? = some (RC .ready))(h:Cg (some l) m [] P (roundPost P l Rd) n body .done s1 (w.putObj l (RC .busy))) :
    Eg (some l) m [] P (Exit.then (λa1 w1=>∃w2,(Instr.beginRound l).run P w1=.ok () w2/\body.wpIn (Fw (some l)) m P (roundPost P l Rd) a1 w2) (λ_ _ _=>False)) n .normal .done s1 w:=by
  subst hRC;exact as_end hl h
theorem WL(hRC:RC=Ur fn n s0 ps as_ body D)(hl:w.heap[l]? = some (RC .busy))(h:Rd (.returned (.bool true)) (w.putObj l (RC .ready))) :
    Eg (some l) m [] P (roundPost P l Rd) n .normal .done s1 w:=by
  subst hRC;exact VU hl h
end
theorem tk_reps{S:Nat->Prop}{w:World}:∀l:List Tk,(∀y∈l,N2 y)->RepL S w (l.map MM) (tkCs l)
  | [],_=>RepL.nil_mk
  | x :: l, h => by
    have hx:N2 x:=h x List.mem_cons_self;unfold N2 at hx;have k1:Ry (J x.k):=by exact⟨by show (-9223372036854775808:Int)<=_;omega,by show _<=(9223372036854775807:Int);omega⟩
    have k2:Ry (J (x.f:Nat)):=by exact⟨by show (-9223372036854775808:Int)<=_;omega,by show _<=(9223372036854775807:Int);omega⟩
    have k3:Ry (J (x.t:Nat)):=by exact⟨by show (-9223372036854775808:Int)<=_;omega,by show _<=(9223372036854775807:Int);omega⟩
    have h1:Rep S w (MM x) (tkC x):=by
      simp only[MM,Kh,Rep,RepL];exact⟨_,_,O,⟨O,k1⟩,_,_,O,⟨_,_,O,⟨O,k2⟩,_,_,O,⟨O,k3⟩,O⟩,O⟩
    exact RepL.cons_mk h1 (tk_reps l λy hy=>h y (List.mem_cons_of_mem _ hy))
set_option maxHeartbeats 4000000 in
set_option maxRecDepth 10000 in
theorem tokens_c(s:Str)(hU:UniC s)(hl:s.length<=65536)(hok:(Yd s).2.2=0)(w0:World)(hG:Gl w0):Calls prog 96 #[I s] w0 (Pc λv w'=>∃A c,v=.tuple #[.slice A (Yd s).1.length c,J (s.length:Nat),J 0]/\Rep (Btw w0 w') w' (Ik (Yd s).1) [.slice A (Yd s).1.length c]/\(∀y∈(Yd s).1,N2 y)/\Same [] w0 w'):=by
 refine J8 (m:=3) func96 O ntmps96 (Nat.le_of_ble_eq_true O) (Rb _) ?_;have hF:=FR.start w0 [];refine Fa (Ha ?_);refine Jc (cs:=#[aQ]) hF zeroValue140 O ?_;rintro b1 w hb1 hF -;refine Jc (cs:=#[J 0]) hF mX O ?_;rintro b2 w hb2 hF -;refine Jc (cs:=#[J 0]) hF zeroValue38 O ?_;rintro b3 w hb3 hF -;refine Ua (Ga (Fa (Ha ?_)));refine Jc (cs:=#[aQ]) hF zeroValue140 O ?_;rintro b4 w hb4 hF -;refine Ua (Ga (Fa (Fa (Ha (Aa (Md O) ?_)))));refine Ya (all_c s _) (Ma en_141 O O) ?_;rintro v w' ⟨ba,rfl,hb,hg,hE⟩;have hF:=FR.takeK hF hE hb hg;clear hE hb hg;refine Ua (Ga (Va ?_));refine LU hF O en_183 ?_;intro fn D l w RC hRC hF hE;clear hE;refine Kj (all1_c s hU hl hok w0 hG l ba (λpre u=>∃A c sb,SlB 149 3 A pre.length c (tkCs pre) sb/\(∀y∈pre,N2 y)/\u=(l,RC .ready)::(D,.deferred (some []))::(ba,.cells #[I s] 9)::(b4,.cells #[.slice A pre.length c] 140)::(b3,.cells #[J 0] 38)::(b2,.cells #[J 0] 3)::(b1,.cells #[aQ] 140)::sb) ?_ ?_ _ ⟨none,0,[],SlB.nil _ _,by simp,O⟩ w hF) ?_;rintro pre u ⟨A,c,sb,hS,hok1,rfl⟩;simp;rintro pre eb eo u w x hpl hxk ⟨A,c,sb,hS,hok1,rfl⟩ hF;have hl1:w.heap[l]? = some (RC .ready):=hF.heap (i:=1) rfl;refine ZQ hRC hl1 ?_;have hF:FR w0 [] ([(eb,eo),(l,RC .ready),(D,.deferred (some [])),(ba,.cells #[I s] 9),(b4,.cells #[.slice A pre.length c] 140),(b3,.cells #[J 0] 38),(b2,.cells #[J 0] 3),(b1,.cells #[aQ] 140)]++(sb++[])) w:=by simpa using hF
 refine Cg.slots (l:=[(5,V b4),(10,tkA x),(11,J 0)]) ⟨O,O,O,trivial⟩ ?_;clear hl1;intro σ;refine Fa (Ha ?_);refine Ye hF jX jZ O ?_;rintro b5 w hb5 hF -;refine Ua (Ga (Ha (Aa (Lb O) (Ua ?_))));refine BX hRC (hF.heap (i:=2) O) ?_;have hF:=FR.put hF 2 (RC .busy) rfl;generalize w.putObj l (RC .busy)=w at hF ⊢;have hF:FR w0 [] ([(b5,.cells #[J (x.k),J ((x.f:Nat)),J ((x.t:Nat))] 149),(eb,eo),(l,RC .busy),(D,.deferred (some [])),(ba,.cells #[I s] 9),(b4,.cells #[.slice A pre.length c] 140),(b3,.cells #[J 0] 38),(b2,.cells #[J 0] 3),(b1,.cells #[aQ] 140)]++(sb++[])) w:=hF;refine Va (Fa (Fa (Ha (Aa (Gb O) (Aa (Om O O) (Ua (Ga ?_)))))));refine We (by rfl) (Na (Ga (Ha (Tb (Ff uQ O hF.F 5 O O) (Tb (He wQ jZ O hF.F 0 O O) ?_)))));refine Ax (v:=λb=>W b 1 1) hF (Eb (cs:=#[J (x.k),J ((x.f:Nat)),J ((x.t:Nat))]) vZ jZ jX (by decide) (by decide) (by kernel_rfl)) ?_;rintro b6 w hb6 hF -;refine KJ (news:=[J (x.k),J ((x.f:Nat)),J ((x.t:Nat))]) (len':=(pre++[x]).length) (ys:=tkCs (pre++[x])) EP hF hS O O (O) (λ_=>⟨_,O,Yc (hF.cellsAll 0 O)⟩) (by simp[Value.oneCell']) (by simp only[maxLen];omega) (by simp) (by rw[QM];rfl) (by omega) ?_;intro A0 c0 o_0 w hS0_o hF hE hnew;refine Zj (.slice _ _ _) hF sizeOf140 O O sI6.app Qg ?_;rintro w hF -;refine Ua (Cb ?_);refine WL hRC (hF.heap (i:=3) O) ?_;have hF:=(FR.put hF 3 (RC .ready) rfl).drop 2;exact⟨O,_,⟨_,_,_,hS0_o,λy hy=>(mQ.1 hy).elim (hok1 y) (λh=>by rw[pQ.1 h];exact hxk),O⟩,by simpa using hF⟩;rintro v w ⟨u,⟨A,c,sb,hS,hok1,rfl⟩,hF⟩;refine⟨.ready,by simp,hF.heap (i:=0) O,?_⟩;have hF:=FR.put hF 0 (RC .exhausted) rfl;generalize w.putObj l (RC .exhausted)=w at hF ⊢;have hF:FR w0 [] ([(l,RC .exhausted),(D,.deferred (some [])),(ba,.cells #[I s] 9),(b4,.cells #[.slice (A) ((Yd s).1.length) (c)] 140),(b3,.cells #[J 0] 38),(b2,.cells #[J 0] 3),(b1,.cells #[aQ] 140)]++(sb++[])) w:=by simpa using hF
 refine Cb (Ga (Fa (Ha (Tb (Ff uQ O hF.F 3 O O) (Aa (Md O) (Aa (Qr iX O) ?_))))));refine Zj (.slice _ _ _) hF sizeOf140 O O sI6.app Qg ?_;rintro w hF -;refine Zj (.int _ _) hF sizeOf3 O O sI5.app Qg ?_;rintro w hF -;refine Zj (.int _ _) hF sizeOf38 O O ZO.app Qg ?_;rintro w hF -;refine Ua (Ga ?_);have hF9:=FR.put hF 1 (.deferred none) rfl;refine Ab (Za (MN (hF.heap (i:=1) O) (res_3c O O O O uQ dZ isAgg38 (hF9.cell 6 O O) (hF9.cell 5 O O) (hF9.cell 4 O O)) ?_));refine⟨A,c,O,?_,hok1,hF9.same⟩;exact SlB.rep (pre:=[(l,RC .exhausted),(D,.deferred none),(ba,.cells #[I s] 9),(b4,.cells #[.slice (A) ((Yd s).1.length) (c)] 140),(b3,.cells #[J 0] 38),(b2,.cells #[J ((((s):Str).length:Int))] 3),(b1,.cells #[.slice (A) ((Yd s).1.length) (c)] 140)]) (post:=[]) hS hF9 (RX.plain (ids:=[]) λS=>tk_reps _ hok1) (by simp)
end Go.Scarf.Fn
namespace Go.Scarf
end Go.Scarf
