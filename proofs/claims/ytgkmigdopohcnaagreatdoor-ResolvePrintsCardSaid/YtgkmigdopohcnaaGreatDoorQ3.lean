/- A part of the proof. -/
import Derived.Test.YtgkmigdopohcnaaGreatDoorQ2
import Derived.Test.YtgkmigdopohcnaaGreatDoorEn
set_option linter.all false
set_option maxHeartbeats 8000000
set_option maxRecDepth 10000
namespace Go.Scarf
open Go.RowKit Go.Proofs Go.Proofs.Tryz
theorem IX(s:Str):0<=At s/\At s<=12:=by unfold At;(repeat' split) <;> decide
def E7(x:Tk):Prop:=0<=x.k/\x.k<=12/\x.f<x.t/\x.t<=65536
theorem SF{s:Str}{a:Nat}(ha:a<s.length)(h:(Hh s a).2=0):a<(Hh s a).1.t/\(Hh s a).1.t<=s.length/\(Hh s a).1.f=a/\0<=(Hh s a).1.k/\(Hh s a).1.k<=12:=by
  unfold Hh at h ⊢;have h0:0<(s.drop a).length:=by rw[List.length_drop];omega
  rw[EA h0]at h ⊢;have hpos:∀p:UInt8->Bool,p (s.drop a)[0]=true->0<Pi p (s.drop a):=λp hp=>by
    cases hd:s.drop a with
    | nil=>rw[hd]at h0;simp at h0
    | cons c r=>simp only[hd,List.getElem_cons_zero]at hp;rw[Pi,if_pos hp];omega
  have hle:∀p:UInt8->Bool,Pi p (s.drop a)<=s.length-a:=λp=>by have:=Jq p (s.drop a);rwa [List.length_drop]at this
  have hq:=TQ s a Aa;generalize (s.drop a)[0]=c at h hpos ⊢;unfold Sw at h ⊢;dsimp only at h ⊢;split at h
  ·rename_i h1;rw[if_pos h1];have:=(F6 [123,125,91,93,44,58] c).2;simp only[kQ,List.length_nil]at this;exact⟨by simp only;omega,by simp only;omega,rfl,by simp only;omega,by simp only;omega⟩
  rename_i h1;rw[if_neg h1]
  split at h
  ·rename_i h2;rw[if_pos h2];have:=hpos _ h2;have:=hle Qq;exact⟨by simp only;omega,by simp only;omega,rfl,by simp only;decide,by simp only;decide⟩
  rename_i h2;rw[if_neg h2]
  split at h
  ·rename_i h3;rw[if_pos h3]
   split at h
   ·rename_i h4;rw[if_pos h4]
    refine⟨?_,hq.1,O,by simp only;decide,by simp only;decide⟩;show a<(Hf s a).2.1;unfold Hf at h4 ⊢;split at h4
    ·rename_i h5;rw[if_pos h5]
     have:=Z0 (s.length-a) s (a+1) [] Aa Aa;omega
    cases h4
   rename_i h4;exact absurd h h4
  rename_i h3;rw[if_neg h3]
  split at h
  ·rename_i h4;rw[if_pos h4]
   split at h
   ·rename_i h5;rw[if_pos h5]
    have hn:RH c=true:=by
      have:∀n<256,((UInt8.ofNat n).toNat=45\/(48<=(UInt8.ofNat n).toNat/\(UInt8.ofNat n).toNat<=57))->RH (UInt8.ofNat n)=true:=by decide +kernel
      have h2:=this c.toNat (UInt8.toNat_lt c);simp only[UInt8.ofNat_toNat]at h2;exact h2 h4
    have:=hpos _ hn;have:=hle RH;exact⟨by simp only;omega,by simp only;omega,O,by simp only;decide,by simp only;decide⟩
   rename_i h5;exact absurd h h5
  rename_i h4;rw[if_neg h4]
  split at h
  ·rename_i h5;rw[if_pos h5]
   have:=hle Gi;have hw:=IX ((s.drop a).take (Pi Gi (s.drop a)));refine⟨?_,by simp only;omega,O,hw.1,hw.2⟩;show a<a+Pi Gi (s.drop a);rcases Nat.eq_zero_or_pos (Pi Gi (s.drop a))with h6|h6
   ·rw[h6]at h5;exact absurd (by rw[List.take_zero];rfl) h5
   omega
  cases h
theorem all_c(s:Str)(w0:World):Calls prog 141 #[I s] w0 (Dd λv w'=>∃b:Nat,v=.func (.func 183) #[] #[V b]/\w'.heap[b]? = some (.cells #[I s] 9)/\w0.heap.size<=b/\Same [] w0 w'):=by
 refine Ia func141 O ntmps141 Eb (Yb _) ?_;have hF:=FR.start w0 [];refine Ea (MH (.string _) hF O ?_);rintro b1 w hb1 hF -;refine Ba (T0) (Rb (Ka (v:=.func (.func 183) #[] #[V b1]) (Hk O) (Ba (T0) (Da ?_))));refine Gc (v:=.func (.func 183) #[] #[V b1]) O O ?_;exact⟨b1,O,hF.heap (i:=0) O,hF.ge (i:=0) O,hF.same⟩
theorem toks_ok{s:Str}{x:Tk × Int}{A:List Tk × Nat × Int}(h:(if x.2=0 then A else ([],x.1.f,x.2))=Ue s)(hok:(Ue s).2.2=0):x.2=0:=by
  by_cases hx:x.2=0
  ·exact hx
  rw[if_neg hx]at h;rw[<-h]at hok;exact hok
end Go.Scarf
namespace Go.Scarf.Fn
open Go.Scarf Go.RowKit Go.Proofs Go.Proofs.Tryz
set_option maxHeartbeats 4000000 in
set_option maxRecDepth 10000 in
theorem all1_c(s:Str)(hU:UniC s)(hl:s.length<=65536)(hok:(Ue s).2.2=0)(w0:World)(hG:Gl w0)(l Bn:Nat)(SU:List Tk->List (Nat × Obj)->Prop)(hBn:∀pre u,SU pre u->(Bn,.cells #[I s] 9)∈u)(hY:∀pre (eb:Nat) (eo:Obj) u w x,pre.length<65536->E7 x->SU pre u->FR w0 [] ([(eb,eo)]++(u++[])) w->YieldAt (Fw none) 2 prog l #[tkA x,J 0] w (λe w'=>e=.returned (.bool true)/\∃u',SU (pre++[x]) u'/\FR w0 [] ([(eb,eo)]++(u'++[])) w'))(u:List (Nat × Obj))(hSU:SU [] u)(w:World)(hF0:FR w0 [] u w):Calls prog 183 #[.func (.yield l) #[] #[],V Bn] w (Dd λv w'=>∃u,SU (Ue s).1 u/\FR w0 [] u w'):=by
 refine KD (m:=3) func183 O ntmps183 (Nat.le_of_ble_eq_true O) (Pc _ _) ?_;have hF:FR w0 [] ([]++(u++[])) w:=by simpa using hF0
 refine Ga (Ga (Ha ?_));refine Ka (v:=I s) (Qd jZ O (by rw[Uc (hF.memHeap (List.mem_append_right _ (List.mem_append_left _ (hBn _ _ hSU)))) 0];rfl)) ?_;refine Ba (Fj jX O) (Ba (Ho O O) (Ta (Fa ?_)));refine De (by show Value.bool (decide _)=_;rw[decide_eq_false (by omega)]) ?_;refine La (Fa (Ga (Ha (Ba (Gb O) (Ta (Fa (Qa ?_)))))));refine Jc (λμ σ w=>∃(f:Nat),∃(a:Nat),∃(pre:List Tk),∃(u:List (Nat × Obj)),μ=s.length-a/\(U5 f s a pre=Ue s/\s.length-a<f/\a<=s.length/\pre.length<=a)/\(SU pre u)/\AllEq σ [(0,.func (.yield l) #[] #[]),(1,.pointer (some ((⟨Bn,0,none⟩:Addr)))),(3,J ((a:Int)))]/\FR w0 [] ([]++(u++[])) w) _ ⟨s.length+1,0,[],u,O,(⟨by rw[Ue,if_neg (by omega)],by omega,Nat.zero_le _,gQ _⟩),(hSU),⟨O,O,O,trivial⟩,hF⟩ ?_;rintro μ σ w ⟨f,a,pre,u,rfl,hq,hSU,hs,hF⟩;refine Cg.slots hs ?_;clear hs;intro σ;obtain⟨f,rfl⟩:∃g,f=g+1:=⟨f-1,by omega⟩;have hstep:=hq.1;rw[U5]at hstep;refine Ga (Ga (Ha (Ba (Za O) ?_)));refine Ka (v:=I s) (Qd jZ O (by rw[Uc (hF.memHeap (List.mem_append_right _ (List.mem_append_left _ (hBn _ _ hSU)))) 0];rfl)) ?_;refine Ba (Fj jX O) (Ba (Di O O) (Ta (Fa ?_)));refine Ib O O (λhc1=>?_) (λhc1=>?_);refine La (Fa (Qa (Ga (Ha ?_))));refine Ka (v:=I s) (Qd jZ O (by rw[Uc (hF.memHeap (List.mem_append_right _ (List.mem_append_left _ (hBn _ _ hSU)))) 0];rfl)) ?_;refine Ba (Za O) ?_;rw[if_pos (by omega)]at hstep;have hz:(Hh s a).2=0:=toks_ok hstep hok;rw[if_pos hz]at hstep;have hto:=SF (s:=s) (a:=a) (by omega) hz;refine Lb (Pl (v':=.tuple #[tkA (Hh s a).1,J 0]) (AS s a hU (by omega) (by omega) _ (hG.ext hF.same)) (by rw[hz])) (Xa en_184 O O O) ?_;rintro _ w ⟨rfl,hE⟩;have hF:=hF.ext hE;refine Ba (Qk O) (Ba (Iw O O) (Ba (Tj O O) ?_));refine Gg hF kX kZ O ?_;rintro b1 w hb1 hF -;refine Ba (Gb O) (Ta (Fa (Ga (Ga (Ha (Ba (Nt) (Zb (Of wQ kZ O hF.F 0 O O) (Ba (Za O) ?_))))))))
 have hyy:=hY pre b1 (.cells #[J ((Hh s a).1.k),J (((Hh s a).1.f:Nat)),J (((Hh s a).1.t:Nat))] 149) u w (Hh s a).1 (by omega) ⟨hto.2.2.2.1,hto.2.2.2.2,by rw[hto.2.2.1];exact hto.1,by omega⟩ hSU hF;refine o_yield hyy (λhy=>DW O O O hy) ?_;clear hF hyy;rintro e w ⟨rfl,u2,hSU2,hF⟩;refine⟨.bool true,O,?_⟩;refine Ba (Si (b:=true) O) (Ba (Vb O) (Ba (Za O) (Ba (Vk O O) (Ba (Kb O O) (Ta (Fa ?_))))));refine De (by rfl) (La (Fa (Ha (Ba (Ob Pz O) (Ba (Ob Lp O) (Zb (Th eZ O hF.F 0 O O) (Ba (Gb O) (Ta (Bb ?_)))))))));refine Hb ⟨_,?_,f,(Hh s a).1.t,(pre++[(Hh s a).1]),u2,O,(⟨hstep,by omega,hto.2.1,by rw[dQ];show pre.length+1<=_;omega⟩),(hSU2),⟨O,O,O,trivial⟩,hF.drop 1⟩;omega;refine Ec (Ac O ?_);refine Dh (Ze (Bk O) ?_);rw[if_neg (by omega)]at hstep;exact⟨u,by rw[<-hstep];exact hSU,by simpa using hF⟩
section
variable {P:Program}{n:Nat}{s:Nat->Value}{w w0:World}{Ds:List Nat}{bs_ bs':List (Nat × Obj)}
theorem FR.takeK{w':World}{b:Nat}{o:Obj}(hF:FR w0 Ds bs_ w)(hE:Same [] w w')(hh:w'.heap[b]? = some o)(hg:w.heap.size<=b):FR w0 Ds ((b,o)::bs_) w' :=
  (hF.ext hE).addD hh (.inl (fQ hF.same.size hg)) λq hq=>by have:=Wb (hF.memHeap hq);omega
theorem KE(n:Nat)(s:Nat->Value)(d:Nat)(v:Value):(Oy n s []).tmps.setIfInBounds d v=(Oy n (Af s d v) []).tmps:=by
  have:=Rv n s [] (some d) v;exact congrArg Act.tmps this
theorem res_3c{fn:Func}{a b c T1 T2 T3:Nat}{p q r:Addr}{x y z:Value}(h:fn.results=#[.cell a T1,.cell b T2,.cell c T3])(ha:ev n s (.tmp a)=.pointer (some p))(hb:ev n s (.tmp b)=.pointer (some q))(hc:ev n s (.tmp c)=.pointer (some r))
    (g1:∀w,(isAgg T1).run P w=.ok false w) (g2:∀w,(isAgg T2).run P w=.ok false w) (g3:∀w,(isAgg T3).run P w=.ok false w) (h1:w.cell? p=some x) (h2:w.cell? q=some y) (h3:w.cell? r=some z) :
    (results fn (Gk n s).tmps).run P w=.ok (.tuple #[x,y,z]) w:=by
  have e1:=Ff n s a;have e2:=Ff n s b;have e3:=Ff n s c;rw[ha,Array.getD_eq_getD_getElem?]at e1;rw[hb,Array.getD_eq_getD_getElem?]at e2;rw[hc,Array.getD_eq_getD_getElem?]at e3;have k1:(loadVar T1 p).run P w=.ok x w:=by simp[loadVar,g1,load,Sem.run,h1]
  have k2:(loadVar T2 q).run P w=.ok y w:=by simp[loadVar,g2,load,Sem.run,h2]
  have k3:(loadVar T3 r).run P w=.ok z w:=by simp[loadVar,g3,load,Sem.run,h3]
  simp[results,h,e1,e2,e3,asAddr,k1,k2,k3]
end
def tkC(x:Tk):List Value:=[J x.k,J (x.f:Nat),J (x.t:Nat)]
def tkCs(l:List Tk):List Value:=l.flatMap tkC
theorem NR(l:List Tk)(x:Tk):tkCs (l++[x])=tkCs l++tkC x:=by simp[tkCs]
section
variable {r:Option Nat}{m:Nat}{ds:List Deferred}{P:Program}{R:Exit->Act->World->Prop}{n:Nat}{k:Kt}{s:Nat->Value}{w w0:World}{Ds:List Nat}{bs_:List (Nat × Obj)}{fn l D:Nat}{ps:Array Tmp}{as_ body:Code}{Rd:Ending->World->Prop}{RC:LoopState->Obj}{s1 s0:Nat->Value}
theorem YW{g:Operand}{gf:FuncId}{lb:Array Value}(hF:FR w0 Ds bs_ w)(hg:ev n s g=.func (.func gf) #[] lb)(eg:Ra P gf)
    (h:∀fn D l w' RC,RC=Dv fn n s ps as_ body D->FR w0 Ds ((l,RC .ready)::(D,.deferred (some []))::bs_) w'->Same [] w w' ->
      Calls P gf (#[.func (.yield l) #[] #[]]++lb) w' (Dd λ_ w3=>∃st,st≠.busy/\w3.heap[l]? = some (RC st)/\Eg none m (JW D) P R n .normal k s (w3.putObj l (RC .exhausted)))) (hk:UF k=true:=by rfl) :
    Cg none m [] P R n (.rangeFunc g ps as_ body) k s w:=c_range hF hg eg (λfn D l w' h1 h2=>h fn D l w' _ rfl h1 h2) hk
theorem y_roundR{vs:Array Value}{s':Nat->Value}(hRC:RC=Dv fn n s ps as_ body D)(hl:w.heap[l]? = some (RC .ready))(hsz:vs.size=ps.size)(hs:(ps.zip vs).foldl (λtmps (x:Tmp × Value)=>tmps.setIfInBounds x.1 x.2) (Oy n s []).tmps=(Oy n s' []).tmps)
    (h:Cg (some l) m [] P (Exit.then (λa1 w1=>∃w2,(Instr.beginRound l).run P w1=.ok () w2/\body.wpIn (Fw (some l)) m P (roundPost P l Rd) a1 w2) (λ_ _ _=>False)) n as_ .done s' w):YieldAt (Fw none) m P l vs w Rd:=y_round (hRC▸hl) hsz hs h
theorem foldl2(n:Nat)(s:Nat->Value)(a b:Tmp)(x y:Value):((#[a,b]:Array Tmp).zip #[x,y]).foldl (λtmps (x:Tmp × Value)=>tmps.setIfInBounds x.1 x.2) (Oy n s []).tmps=(Oy n (Af (Af s a x) b y) []).tmps:=by
  rw[<-KE,<-KE];simp
theorem GX{a b:Tmp}{x y:Value}(hRC:RC=Dv fn n s #[a,b] as_ body D)(hl:w.heap[l]? = some (RC .ready))
    (h:Cg (some l) m [] P (Exit.then (λa1 w1=>∃w2,(Instr.beginRound l).run P w1=.ok () w2/\body.wpIn (Fw (some l)) m P (roundPost P l Rd) a1 w2) (λ_ _ _=>False)) n as_ .done (Af (Af s a x) b y) w):YieldAt (Fw none) m P l #[x,y] w Rd:=y_roundR hRC hl rfl (foldl2 n s a b x y) h
theorem as_endR(hRC:RC=Dv fn n s0 ps as_ body D)(hl:w.heap[l]? = some (RC .ready))(h:Cg (some l) m [] P (roundPost P l Rd) n body .done s1 (w.putObj l (RC .busy))) :
    Eg (some l) m [] P (Exit.then (λa1 w1=>∃w2,(Instr.beginRound l).run P w1=.ok () w2/\body.wpIn (Fw (some l)) m P (roundPost P l Rd) a1 w2) (λ_ _ _=>False)) n .normal .done s1 w:=by
  subst hRC;exact as_end hl h
theorem QS(hRC:RC=Dv fn n s0 ps as_ body D)(hl:w.heap[l]? = some (RC .busy))(h:Rd (.returned (.bool true)) (w.putObj l (RC .ready))) :
    Eg (some l) m [] P (roundPost P l Rd) n .normal .done s1 w:=by
  subst hRC;exact WT hl h
end
theorem tk_reps{S:Nat->Prop}{w:World}:∀l:List Tk,(∀y∈l,E7 y)->RepL S w (l.map OS) (tkCs l)
  | [],_=>RepL.nil_mk
  | x :: l, h => by
    have hx:E7 x:=h x List.mem_cons_self;unfold E7 at hx;have k1:I3 (J x.k):=by exact⟨by show (-9223372036854775808:Int)<=_;omega,by show _<=(9223372036854775807:Int);omega⟩
    have k2:I3 (J (x.f:Nat)):=by exact⟨by show (-9223372036854775808:Int)<=_;omega,by show _<=(9223372036854775807:Int);omega⟩
    have k3:I3 (J (x.t:Nat)):=by exact⟨by show (-9223372036854775808:Int)<=_;omega,by show _<=(9223372036854775807:Int);omega⟩
    have h1:Rep S w (OS x) (tkC x):=by
      simp only[OS,Mi,Rep,RepL];exact⟨_,_,O,⟨O,k1⟩,_,_,O,⟨_,_,O,⟨O,k2⟩,_,_,O,⟨O,k3⟩,O⟩,O⟩
    exact RepL.cons_mk h1 (tk_reps l λy hy=>h y (List.mem_cons_of_mem _ hy))
set_option maxHeartbeats 4000000 in
set_option maxRecDepth 10000 in
theorem tokens_c(s:Str)(hU:UniC s)(hl:s.length<=65536)(hok:(Ue s).2.2=0)(w0:World)(hG:Gl w0):Calls prog 96 #[I s] w0 (Dd λv w'=>∃A c,v=.tuple #[.slice A (Ue s).1.length c,J (s.length:Nat),J 0]/\Rep (Btw w0 w') w' (Vl (Ue s).1) [.slice A (Ue s).1.length c]/\(∀y∈(Ue s).1,E7 y)/\Same [] w0 w'):=by
 refine SC (m:=3) func96 O ntmps96 (Nat.le_of_ble_eq_true O) (Yb _) ?_;have hF:=FR.start w0 [];refine Ga (Ha ?_);refine Wc (cs:=#[aQ]) hF zeroValue140 O ?_;rintro b1 w hb1 hF -;refine Wc (cs:=#[J 0]) hF oX O ?_;rintro b2 w hb2 hF -;refine Wc (cs:=#[J 0]) hF zeroValue38 O ?_;rintro b3 w hb3 hF -;refine Ta (Fa (Ga (Ha ?_)));refine Wc (cs:=#[aQ]) hF zeroValue140 O ?_;rintro b4 w hb4 hF -;refine Ta (Fa (Ga (Ga (Ha (Ba (Bc O) ?_)))));refine Lb (all_c s _) (Na en_141 O O) ?_;rintro v w' ⟨ba,rfl,hb,hg,hE⟩;have hF:=FR.takeK hF hE hb hg;clear hE hb hg;refine Ta (Fa (Qa ?_));refine YW hF O en_183 ?_;intro fn D l w RC hRC hF hE;clear hE;refine El (all1_c s hU hl hok w0 hG l ba (λpre u=>∃A c sb,SlB 149 3 A pre.length c (tkCs pre) sb/\(∀y∈pre,E7 y)/\u=(l,RC .ready)::(D,.deferred (some []))::(ba,.cells #[I s] 9)::(b4,.cells #[.slice A pre.length c] 140)::(b3,.cells #[J 0] 38)::(b2,.cells #[J 0] 3)::(b1,.cells #[aQ] 140)::sb) ?_ ?_ _ ⟨none,0,[],SlB.nil _ _,by simp,O⟩ w hF) ?_;rintro pre u ⟨A,c,sb,hS,hok1,rfl⟩;simp;rintro pre eb eo u w x hpl hxk ⟨A,c,sb,hS,hok1,rfl⟩ hF;have hl1:w.heap[l]? = some (RC .ready):=hF.heap (i:=1) rfl;refine GX hRC hl1 ?_;have hF:FR w0 [] ([(eb,eo),(l,RC .ready),(D,.deferred (some [])),(ba,.cells #[I s] 9),(b4,.cells #[.slice A pre.length c] 140),(b3,.cells #[J 0] 38),(b2,.cells #[J 0] 3),(b1,.cells #[aQ] 140)]++(sb++[])) w:=by simpa using hF
 refine Cg.slots (l:=[(5,V b4),(10,tkA x),(11,J 0)]) ⟨O,O,O,trivial⟩ ?_;clear hl1;intro σ;refine Ga (Ha ?_);refine Gg hF kX kZ O ?_;rintro b5 w hb5 hF -;refine Ta (Fa (Ha (Ba (Gb O) (Ta ?_))));refine as_endR hRC (hF.heap (i:=2) O) ?_;have hF:=FR.put hF 2 (RC .busy) rfl;generalize w.putObj l (RC .busy)=w at hF ⊢;have hF:FR w0 [] ([(b5,.cells #[J (x.k),J ((x.f:Nat)),J ((x.t:Nat))] 149),(eb,eo),(l,RC .busy),(D,.deferred (some [])),(ba,.cells #[I s] 9),(b4,.cells #[.slice A pre.length c] 140),(b3,.cells #[J 0] 38),(b2,.cells #[J 0] 3),(b1,.cells #[aQ] 140)]++(sb++[])) w:=hF;refine Qa (Ga (Ga (Ha (Ba (Za O) (Ba (Vk O O) (Ta (Fa ?_)))))));refine De (by rfl) (La (Fa (Ha (Zb (Xe uQ O hF.F 5 O O) (Zb (Of wQ kZ O hF.F 0 O O) ?_)))));refine My (v:=λb=>W b 1 1) hF (Nb (cs:=#[J (x.k),J ((x.f:Nat)),J ((x.t:Nat))]) wZ kZ kX (by decide) (by decide) (by kernel_rfl)) ?_;rintro b6 w hb6 hF -;refine AP (news:=[J (x.k),J ((x.f:Nat)),J ((x.t:Nat))]) (len':=(pre++[x]).length) (ys:=tkCs (pre++[x])) KV hF hS O O (O) (λ_=>⟨_,O,Vd (hF.cellsAll 0 O)⟩) (by simp[Value.oneCell']) (by simp only[maxLen];omega) (by simp) (by rw[NR];rfl) (by omega) ?_;intro A0 c0 o_0 w hS0_o hF hE hnew;refine Ml (.slice _ _ _) hF sizeOf140 O O sI6.app Zg ?_;rintro w hF -;refine Ta (Bb ?_);refine QS hRC (hF.heap (i:=3) O) ?_;have hF:=(FR.put hF 3 (RC .ready) rfl).drop 2;exact⟨O,_,⟨_,_,_,hS0_o,λy hy=>(mQ.1 hy).elim (hok1 y) (λh=>by rw[pQ.1 h];exact hxk),O⟩,by simpa using hF⟩;rintro v w ⟨u,⟨A,c,sb,hS,hok1,rfl⟩,hF⟩;refine⟨.ready,by simp,hF.heap (i:=0) O,?_⟩;have hF:=FR.put hF 0 (RC .exhausted) rfl;generalize w.putObj l (RC .exhausted)=w at hF ⊢;have hF:FR w0 [] ([(l,RC .exhausted),(D,.deferred (some [])),(ba,.cells #[I s] 9),(b4,.cells #[.slice (A) ((Ue s).1.length) (c)] 140),(b3,.cells #[J 0] 38),(b2,.cells #[J 0] 3),(b1,.cells #[aQ] 140)]++(sb++[])) w:=by simpa using hF
 refine Bb (Fa (Ga (Ha (Zb (Xe uQ O hF.F 3 O O) (Ba (Bc O) (Ba (Fj jX O) ?_))))));refine Ml (.slice _ _ _) hF sizeOf140 O O sI6.app Zg ?_;rintro w hF -;refine Ml (.int _ _) hF sizeOf3 O O sI5.app Zg ?_;rintro w hF -;refine Ml (.int _ _) hF sizeOf38 O O UT.app Zg ?_;rintro w hF -;refine Ta (Fa ?_);have hF9:=FR.put hF 1 (.deferred none) rfl;refine Va (Ua (CT (hF.heap (i:=1) O) (res_3c O O O O uQ eZ isAgg38 (hF9.cell 6 O O) (hF9.cell 5 O O) (hF9.cell 4 O O)) ?_));refine⟨A,c,O,?_,hok1,hF9.same⟩;exact SlB.rep (pre:=[(l,RC .exhausted),(D,.deferred none),(ba,.cells #[I s] 9),(b4,.cells #[.slice (A) ((Ue s).1.length) (c)] 140),(b3,.cells #[J 0] 38),(b2,.cells #[J ((((s):Str).length:Int))] 3),(b1,.cells #[.slice (A) ((Ue s).1.length) (c)] 140)]) (post:=[]) hS hF9 (RX.plain (ids:=[]) λS=>tk_reps _ hok1) (by simp)
end Go.Scarf.Fn
namespace Go.Scarf
end Go.Scarf
