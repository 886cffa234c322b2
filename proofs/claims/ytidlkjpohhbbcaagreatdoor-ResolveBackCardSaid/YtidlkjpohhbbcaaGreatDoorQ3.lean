/- A part of the proof. -/
import Derived.Test.YtidlkjpohhbbcaaGreatDoorEn
import Derived.Test.YtidlkjpohhbbcaaGreatDoorQ11
set_option linter.all false
set_option maxHeartbeats 8000000
set_option maxRecDepth 10000
namespace Go.Scarf
open Go.RowKit Go.Proofs Go.Proofs.Tryz
theorem WX(s:Str):0<=Iq s/\Iq s<=12:=by unfold Iq;(repeat' split) <;> decide
def Bu(x:Tk):Prop:=0<=x.k/\x.k<=12/\x.f<x.t/\x.t<=65536
theorem Lz{s:Str}{a:Nat}(ha:a<s.length)(h:(Ud s a).2=0):a<(Ud s a).1.t/\(Ud s a).1.t<=s.length/\(Ud s a).1.f=a/\0<=(Ud s a).1.k/\(Ud s a).1.k<=12:=by
  unfold Ud at h ⊢;have h0:0<(s.drop a).length:=by rw[List.length_drop];omega
  rw[G9 h0]at h ⊢;have hpos:∀p:UInt8->Bool,p (s.drop a)[0]=true->0<Ah p (s.drop a):=λp hp=>by
    cases hd:s.drop a with
    | nil=>rw[hd]at h0;simp at h0
    | cons c r=>simp only[hd,List.getElem_cons_zero]at hp;rw[Ah,if_pos hp];omega
  have hle:∀p:UInt8->Bool,Ah p (s.drop a)<=s.length-a:=λp=>by have:=Hq p (s.drop a);rwa [List.length_drop]at this
  have hq:=BT s a Aa;generalize (s.drop a)[0]=c at h hpos ⊢;unfold Dq at h ⊢;dsimp only at h ⊢;split at h
  ·rename_i h1;rw[if_pos h1];have:=(R4 [123,125,91,93,44,58] c).2;simp only[kQ,List.length_nil]at this;exact⟨by simp only;omega,by simp only;omega,rfl,by simp only;omega,by simp only;omega⟩
  rename_i h1;rw[if_neg h1]
  split at h
  ·rename_i h2;rw[if_pos h2];have:=hpos _ h2;have:=hle Km;exact⟨by simp only;omega,by simp only;omega,rfl,by simp only;decide,by simp only;decide⟩
  rename_i h2;rw[if_neg h2]
  split at h
  ·rename_i h3;rw[if_pos h3]
   split at h
   ·rename_i h4;rw[if_pos h4]
    refine⟨?_,hq.1,O,by simp only;decide,by simp only;decide⟩;show a<(Re s a).2.1;unfold Re at h4 ⊢;split at h4
    ·rename_i h5;rw[if_pos h5]
     have:=Q0 (s.length-a) s (a+1) [] Aa Aa;omega
    cases h4
   rename_i h4;exact absurd h h4
  rename_i h3;rw[if_neg h3]
  split at h
  ·rename_i h4;rw[if_pos h4]
   split at h
   ·rename_i h5;rw[if_pos h5]
    have hn:Q5 c=true:=by
      have:∀n<256,((UInt8.ofNat n).toNat=45\/(48<=(UInt8.ofNat n).toNat/\(UInt8.ofNat n).toNat<=57))->Q5 (UInt8.ofNat n)=true:=by decide +kernel
      have h2:=this c.toNat (UInt8.toNat_lt c);simp only[UInt8.ofNat_toNat]at h2;exact h2 h4
    have:=hpos _ hn;have:=hle Q5;exact⟨by simp only;omega,by simp only;omega,O,by simp only;decide,by simp only;decide⟩
   rename_i h5;exact absurd h h5
  rename_i h4;rw[if_neg h4]
  split at h
  ·rename_i h5;rw[if_pos h5]
   have:=hle Ch;have hw:=WX ((s.drop a).take (Ah Ch (s.drop a)));refine⟨?_,by simp only;omega,O,hw.1,hw.2⟩;show a<a+Ah Ch (s.drop a);rcases Nat.eq_zero_or_pos (Ah Ch (s.drop a))with h6|h6
   ·rw[h6]at h5;exact absurd (by rw[List.take_zero];rfl) h5
   omega
  cases h
theorem all_c(s:Str)(w0:World):Calls prog 169 #[I s] w0 (Oc λv w'=>∃b:Nat,v=.func (.func 230) #[] #[V b]/\w'.heap[b]? = some (.cells #[I s] 9)/\w0.heap.size<=b/\Same [] w0 w'):=by
 refine Ea func169 O ntmps169 Bb (Tb _) ?_;have hF:=FR.start w0 [];refine Da (KC (.string _) hF O ?_);rintro b1 w hb1 hF -;refine Ba (Yr) (Ob (Ia (v:=.func (.func 230) #[] #[V b1]) (Bk O) (Ba (Yr) (Ca ?_))));refine Lc (v:=.func (.func 230) #[] #[V b1]) O O ?_;exact⟨b1,O,hF.heap (i:=0) O,hF.ge (i:=0) O,hF.same⟩
theorem toks_ok{s:Str}{x:Tk × Int}{A:List Tk × Nat × Int}(h:(if x.2=0 then A else ([],x.1.f,x.2))=Ub s)(hok:(Ub s).2.2=0):x.2=0:=by
  by_cases hx:x.2=0
  ·exact hx
  rw[if_neg hx]at h;rw[<-h]at hok;exact hok
end Go.Scarf
namespace Go.Scarf.Fn
open Go.Scarf Go.RowKit Go.Proofs Go.Proofs.Tryz
set_option maxHeartbeats 4000000 in
set_option maxRecDepth 10000 in
theorem all1_c(s:Str)(hU:UniC s)(hl:s.length<=65536)(hok:(Ub s).2.2=0)(w0:World)(hG:Gl w0)(l Bn:Nat)(SU:List Tk->List (Nat × Obj)->Prop)(hBn:∀pre u,SU pre u->(Bn,.cells #[I s] 9)∈u)(hY:∀pre (eb:Nat) (eo:Obj) u w x,pre.length<65536->Bu x->SU pre u->FR w0 [] ([(eb,eo)]++(u++[])) w->YieldAt (Fw none) 2 prog l #[tkA x,J 0] w (λe w'=>e=.returned (.bool true)/\∃u',SU (pre++[x]) u'/\FR w0 [] ([(eb,eo)]++(u'++[])) w'))(u:List (Nat × Obj))(hSU:SU [] u)(w:World)(hF0:FR w0 [] u w):Calls prog 230 #[.func (.yield l) #[] #[],V Bn] w (Oc λv w'=>∃u,SU (Ub s).1 u/\FR w0 [] u w'):=by
 refine Cz (m:=3) func230 O ntmps230 (Nat.le_of_ble_eq_true O) (Nc _ _) ?_;have hF:FR w0 [] ([]++(u++[])) w:=by simpa using hF0
 refine Fa (Fa (Ja ?_));refine Ia (v:=I s) (Yc fZ O (by rw[Bc (hF.memHeap (List.mem_append_right _ (List.mem_append_left _ (hBn _ _ hSU)))) 0];rfl)) ?_;refine Ba (Rp oX O) (Ba (Yx O O) (Eb (Ga ?_)));refine Te (by show Value.bool (decide _)=_;rw[decide_eq_false (by omega)]) ?_;refine Na (Ga (Fa (Ja (Ba (Gb O) (Eb (Ga (Sa ?_)))))));refine Rc (λμ σ w=>∃(f:Nat),∃(a:Nat),∃(pre:List Tk),∃(u:List (Nat × Obj)),μ=s.length-a/\(Gg f s a pre=Ub s/\s.length-a<f/\a<=s.length/\pre.length<=a)/\(SU pre u)/\AllEq σ [(0,.func (.yield l) #[] #[]),(1,.pointer (some ((⟨Bn,0,none⟩:Addr)))),(3,J ((a:Int)))]/\FR w0 [] ([]++(u++[])) w) _ ⟨s.length+1,0,[],u,O,(⟨by rw[Ub,if_neg (by omega)],by omega,Nat.zero_le _,gQ _⟩),(hSU),⟨O,O,O,trivial⟩,hF⟩ ?_;rintro μ σ w ⟨f,a,pre,u,rfl,hq,hSU,hs,hF⟩;refine Cg.slots hs ?_;clear hs;intro σ;obtain⟨f,rfl⟩:∃g,f=g+1:=⟨f-1,by omega⟩;have hstep:=hq.1;rw[Gg]at hstep;refine Fa (Fa (Ja (Ba (Cb O) ?_)));refine Ia (v:=I s) (Yc fZ O (by rw[Bc (hF.memHeap (List.mem_append_right _ (List.mem_append_left _ (hBn _ _ hSU)))) 0];rfl)) ?_;refine Ba (Rp oX O) (Ba (Dl O O) (Eb (Ga ?_)));refine Lb O O (λhc1=>?_) (λhc1=>?_);refine Na (Ga (Sa (Fa (Ja ?_))));refine Ia (v:=I s) (Yc fZ O (by rw[Bc (hF.memHeap (List.mem_append_right _ (List.mem_append_left _ (hBn _ _ hSU)))) 0];rfl)) ?_;refine Ba (Cb O) ?_;rw[if_pos (by omega)]at hstep;have hz:(Ud s a).2=0:=toks_ok hstep hok;rw[if_pos hz]at hstep;have hto:=Lz (s:=s) (a:=a) (by omega) hz;refine Ta (Lh (v':=.tuple #[tkA (Ud s a).1,J 0]) (Q9 s a hU (by omega) (by omega) _ (hG.ext hF.same)) (by rw[hz])) (Ua en_231 O O O) ?_;rintro _ w ⟨rfl,hE⟩;have hF:=hF.ext hE;refine Ba (Aj O) (Ba (Ru O O) (Ba (Nh O O) ?_));refine Hf hF qX lZ O ?_;rintro b1 w hb1 hF -;refine Ba (Gb O) (Eb (Ga (Fa (Fa (Ja (Ba (Vp) (Yb (Ig wQ lZ O hF.F 0 O O) (Ba (Cb O) ?_))))))))
 have hyy:=hY pre b1 (.cells #[J ((Ud s a).1.k),J (((Ud s a).1.f:Nat)),J (((Ud s a).1.t:Nat))] 140) u w (Ud s a).1 (by omega) ⟨hto.2.2.2.1,hto.2.2.2.2,by rw[hto.2.2.1];exact hto.1,by omega⟩ hSU hF;refine M3 hyy (λhy=>Fz O O O hy) ?_;clear hF hyy;rintro e w ⟨rfl,u2,hSU2,hF⟩;refine⟨.bool true,O,?_⟩;refine Ba (Wi (b:=true) O) (Ba (Sc O) (Ba (Cb O) (Ba (Sn O O) (Ba (Pc O O) (Eb (Ga ?_))))));refine Te (by rfl) (Na (Ga (Ja (Ba (Rb Hn O) (Ba (Rb Qj O) (Yb (Pi xQ O hF.F 0 O O) (Ba (Gb O) (Eb (Wa ?_)))))))));refine Qb ⟨_,?_,f,(Ud s a).1.t,(pre++[(Ud s a).1]),u2,O,(⟨hstep,by omega,hto.2.1,by rw[dQ];show pre.length+1<=_;omega⟩),(hSU2),⟨O,O,O,trivial⟩,hF.drop 1⟩;omega;refine Ic (Ec O ?_);refine Kg (Le (Ui O) ?_);rw[if_neg (by omega)]at hstep;exact⟨u,by rw[<-hstep];exact hSU,by simpa using hF⟩
section
variable {P:Program}{n:Nat}{s:Nat->Value}{w w0:World}{Ds:List Nat}{bs_ bs':List (Nat × Obj)}
theorem FR.takeK{w':World}{b:Nat}{o:Obj}(hF:FR w0 Ds bs_ w)(hE:Same [] w w')(hh:w'.heap[b]? = some o)(hg:w.heap.size<=b):FR w0 Ds ((b,o)::bs_) w' :=
  (hF.ext hE).addD hh (.inl (fQ hF.same.size hg)) λq hq=>by have:=Mb (hF.memHeap hq);omega
theorem UF(n:Nat)(s:Nat->Value)(d:Nat)(v:Value):(Ix n s []).tmps.setIfInBounds d v=(Ix n (Pe s d v) []).tmps:=by
  have:=Hv n s [] (some d) v;exact congrArg Act.tmps this
theorem HN{fn:Func}{a b c T1 T2 T3:Nat}{p q r:Addr}{x y z:Value}(h:fn.results=#[.cell a T1,.cell b T2,.cell c T3])(ha:ev n s (.tmp a)=.pointer (some p))(hb:ev n s (.tmp b)=.pointer (some q))(hc:ev n s (.tmp c)=.pointer (some r))
    (g1:∀w,(isAgg T1).run P w=.ok false w) (g2:∀w,(isAgg T2).run P w=.ok false w) (g3:∀w,(isAgg T3).run P w=.ok false w) (h1:w.cell? p=some x) (h2:w.cell? q=some y) (h3:w.cell? r=some z) :
    (results fn (Jl n s).tmps).run P w=.ok (.tuple #[x,y,z]) w:=by
  have e1:=Mg n s a;have e2:=Mg n s b;have e3:=Mg n s c;rw[ha,Array.getD_eq_getD_getElem?]at e1;rw[hb,Array.getD_eq_getD_getElem?]at e2;rw[hc,Array.getD_eq_getD_getElem?]at e3;have k1:(loadVar T1 p).run P w=.ok x w:=by simp[loadVar,g1,load,Sem.run,h1]
  have k2:(loadVar T2 q).run P w=.ok y w:=by simp[loadVar,g2,load,Sem.run,h2]
  have k3:(loadVar T3 r).run P w=.ok z w:=by simp[loadVar,g3,load,Sem.run,h3]
  simp[results,h,e1,e2,e3,asAddr,k1,k2,k3]
end
def tkC(x:Tk):List Value:=[J x.k,J (x.f:Nat),J (x.t:Nat)]
def tkCs(l:List Tk):List Value:=l.flatMap tkC
theorem T_(l:List Tk)(x:Tk):tkCs (l++[x])=tkCs l++tkC x:=by simp[tkCs]
section
variable {r:Option Nat}{m:Nat}{ds:List Deferred}{P:Program}{R:Exit->Act->World->Prop}{n:Nat}{k:Kt}{s:Nat->Value}{w w0:World}{Ds:List Nat}{bs_:List (Nat × Obj)}{fn l D:Nat}{ps:Array Tmp}{as_ body:Code}{Rd:Ending->World->Prop}{RC:LoopState->Obj}{s1 s0:Nat->Value}
theorem c_rangeR{g:Operand}{gf:FuncId}{lb:Array Value}(hF:FR w0 Ds bs_ w)(hg:ev n s g=.func (.func gf) #[] lb)(eg:Pa P gf)
    (h:∀fn D l w' RC,RC=Np fn n s ps as_ body D->FR w0 Ds ((l,RC .ready)::(D,.deferred (some []))::bs_) w'->Same [] w w' ->
      Calls P gf (#[.func (.yield l) #[] #[]]++lb) w' (Oc λ_ w3=>∃st,st≠.busy/\w3.heap[l]? = some (RC st)/\Eg none m (CJ D) P R n .normal k s (w3.putObj l (RC .exhausted)))) (hk:MA k=true:=by rfl) :
    Cg none m [] P R n (.rangeFunc g ps as_ body) k s w:=c_range hF hg eg (λfn D l w' h1 h2=>h fn D l w' _ rfl h1 h2) hk
theorem XW{vs:Array Value}{s':Nat->Value}(hRC:RC=Np fn n s ps as_ body D)(hl:w.heap[l]? = some (RC .ready))(hsz:vs.size=ps.size)(hs:(ps.zip vs).foldl (λtmps (x:Tmp × Value)=>tmps.setIfInBounds x.1 x.2) (Ix n s []).tmps=(Ix n s' []).tmps)
    (h:Cg (some l) m [] P (Exit.then (λa1 w1=>∃w2,(Instr.beginRound l).run P w1=.ok () w2/\body.wpIn (Fw (some l)) m P (roundPost P l Rd) a1 w2) (λ_ _ _=>False)) n as_ .done s' w):YieldAt (Fw none) m P l vs w Rd:=y_round (hRC▸hl) hsz hs h
theorem foldl2(n:Nat)(s:Nat->Value)(a b:Tmp)(x y:Value):((#[a,b]:Array Tmp).zip #[x,y]).foldl (λtmps (x:Tmp × Value)=>tmps.setIfInBounds x.1 x.2) (Ix n s []).tmps=(Ix n (Pe (Pe s a x) b y) []).tmps:=by
  rw[<-UF,<-UF];simp
theorem MG{a b:Tmp}{x y:Value}(hRC:RC=Np fn n s #[a,b] as_ body D)(hl:w.heap[l]? = some (RC .ready))
    (h:Cg (some l) m [] P (Exit.then (λa1 w1=>∃w2,(Instr.beginRound l).run P w1=.ok () w2/\body.wpIn (Fw (some l)) m P (roundPost P l Rd) a1 w2) (λ_ _ _=>False)) n as_ .done (Pe (Pe s a x) b y) w):YieldAt (Fw none) m P l #[x,y] w Rd:=XW hRC hl rfl (foldl2 n s a b x y) h
theorem FQ(hRC:RC=Np fn n s0 ps as_ body D)(hl:w.heap[l]? = some (RC .ready))(h:Cg (some l) m [] P (roundPost P l Rd) n body .done s1 (w.putObj l (RC .busy))) :
    Eg (some l) m [] P (Exit.then (λa1 w1=>∃w2,(Instr.beginRound l).run P w1=.ok () w2/\body.wpIn (Fw (some l)) m P (roundPost P l Rd) a1 w2) (λ_ _ _=>False)) n .normal .done s1 w:=by
  subst hRC;exact as_end hl h
theorem EB(hRC:RC=Np fn n s0 ps as_ body D)(hl:w.heap[l]? = some (RC .busy))(h:Rd (.returned (.bool true)) (w.putObj l (RC .ready))) :
    Eg (some l) m [] P (roundPost P l Rd) n .normal .done s1 w:=by
  subst hRC;exact body_end hl h
end
theorem tk_reps{S:Nat->Prop}{w:World}:∀l:List Tk,(∀y∈l,Bu y)->RepL S w (l.map KS) (tkCs l)
  | [],_=>RepL.nil_mk
  | x :: l, h => by
    have hx:Bu x:=h x List.mem_cons_self;unfold Bu at hx;have k1:V1 (J x.k):=by exact⟨by show (-9223372036854775808:Int)<=_;omega,by show _<=(9223372036854775807:Int);omega⟩
    have k2:V1 (J (x.f:Nat)):=by exact⟨by show (-9223372036854775808:Int)<=_;omega,by show _<=(9223372036854775807:Int);omega⟩
    have k3:V1 (J (x.t:Nat)):=by exact⟨by show (-9223372036854775808:Int)<=_;omega,by show _<=(9223372036854775807:Int);omega⟩
    have h1:Rep S w (KS x) (tkC x):=by
      simp only[KS,Ai,Rep,RepL];exact⟨_,_,O,⟨O,k1⟩,_,_,O,⟨_,_,O,⟨O,k2⟩,_,_,O,⟨O,k3⟩,O⟩,O⟩
    exact RepL.cons_mk h1 (tk_reps l λy hy=>h y (List.mem_cons_of_mem _ hy))
set_option maxHeartbeats 4000000 in
set_option maxRecDepth 10000 in
theorem tokens_c(s:Str)(hU:UniC s)(hl:s.length<=65536)(hok:(Ub s).2.2=0)(w0:World)(hG:Gl w0):Calls prog 112 #[I s] w0 (Oc λv w'=>∃A c,v=.tuple #[.slice A (Ub s).1.length c,J (s.length:Nat),J 0]/\Rep (Btw w0 w') w' (Mk (Ub s).1) [.slice A (Ub s).1.length c]/\(∀y∈(Ub s).1,Bu y)/\Same [] w0 w'):=by
 refine Ty (m:=3) func112 O ntmps112 (Nat.le_of_ble_eq_true O) (Tb _) ?_;have hF:=FR.start w0 [];refine Fa (Ja ?_);refine Gc (cs:=#[aQ]) hF zeroValue131 O ?_;rintro b1 w hb1 hF -;refine Gc (cs:=#[J 0]) hF rX O ?_;rintro b2 w hb2 hF -;refine Gc (cs:=#[J 0]) hF zeroValue25 O ?_;rintro b3 w hb3 hF -;refine Eb (Ga (Fa (Ja ?_)));refine Gc (cs:=#[aQ]) hF zeroValue131 O ?_;rintro b4 w hb4 hF -;refine Eb (Ga (Fa (Fa (Ja (Ba (Pd O) ?_)))));refine Ta (all_c s _) (Ma ZW O O) ?_;rintro v w' ⟨ba,rfl,hb,hg,hE⟩;have hF:=FR.takeK hF hE hb hg;clear hE hb hg;refine Eb (Ga (Sa ?_));refine c_rangeR hF O PV ?_;intro fn D l w RC hRC hF hE;clear hE;refine Pj (all1_c s hU hl hok w0 hG l ba (λpre u=>∃A c sb,SlB 140 3 A pre.length c (tkCs pre) sb/\(∀y∈pre,Bu y)/\u=(l,RC .ready)::(D,.deferred (some []))::(ba,.cells #[I s] 9)::(b4,.cells #[.slice A pre.length c] 131)::(b3,.cells #[J 0] 25)::(b2,.cells #[J 0] 3)::(b1,.cells #[aQ] 131)::sb) ?_ ?_ _ ⟨none,0,[],SlB.nil _ _,by simp,O⟩ w hF) ?_;rintro pre u ⟨A,c,sb,hS,hok1,rfl⟩;simp;rintro pre eb eo u w x hpl hxk ⟨A,c,sb,hS,hok1,rfl⟩ hF;have hl1:w.heap[l]? = some (RC .ready):=hF.heap (i:=1) rfl;refine MG hRC hl1 ?_;have hF:FR w0 [] ([(eb,eo),(l,RC .ready),(D,.deferred (some [])),(ba,.cells #[I s] 9),(b4,.cells #[.slice A pre.length c] 131),(b3,.cells #[J 0] 25),(b2,.cells #[J 0] 3),(b1,.cells #[aQ] 131)]++(sb++[])) w:=by simpa using hF
 refine Cg.slots (l:=[(5,V b4),(10,tkA x),(11,J 0)]) ⟨O,O,O,trivial⟩ ?_;clear hl1;intro σ;refine Fa (Ja ?_);refine Hf hF qX lZ O ?_;rintro b5 w hb5 hF -;refine Eb (Ga (Ja (Ba (Gb O) (Eb ?_))));refine FQ hRC (hF.heap (i:=2) O) ?_;have hF:=FR.put hF 2 (RC .busy) rfl;generalize w.putObj l (RC .busy)=w at hF ⊢;have hF:FR w0 [] ([(b5,.cells #[J (x.k),J ((x.f:Nat)),J ((x.t:Nat))] 140),(eb,eo),(l,RC .busy),(D,.deferred (some [])),(ba,.cells #[I s] 9),(b4,.cells #[.slice A pre.length c] 131),(b3,.cells #[J 0] 25),(b2,.cells #[J 0] 3),(b1,.cells #[aQ] 131)]++(sb++[])) w:=hF;refine Sa (Fa (Fa (Ja (Ba (Cb O) (Ba (Sn O O) (Eb (Ga ?_)))))));refine Te (by rfl) (Na (Ga (Ja (Yb (Ff uQ O hF.F 5 O O) (Yb (Ig wQ lZ O hF.F 0 O O) ?_)))));refine Tt (v:=λb=>W b 1 1) hF (Fb (cs:=#[J (x.k),J ((x.f:Nat)),J ((x.t:Nat))]) xZ lZ qX (by decide) (by decide) (by kernel_rfl)) ?_;rintro b6 w hb6 hF -;refine JI (news:=[J (x.k),J ((x.f:Nat)),J ((x.t:Nat))]) (len':=(pre++[x]).length) (ys:=tkCs (pre++[x])) UB hF hS O O (O) (λ_=>⟨_,O,Tc (hF.cellsAll 0 O)⟩) (by simp[Value.oneCell']) (by simp only[maxLen];omega) (by simp) (by rw[T_];rfl) (by omega) ?_;intro A0 c0 o_0 w hS0_o hF hE hnew;refine Zl (.slice _ _ _) hF sizeOf131 O O sI6.app Oi ?_;rintro w hF -;refine Eb (Wa ?_);refine EB hRC (hF.heap (i:=3) O) ?_;have hF:=(FR.put hF 3 (RC .ready) rfl).drop 2;exact⟨O,_,⟨_,_,_,hS0_o,λy hy=>(mQ.1 hy).elim (hok1 y) (λh=>by rw[pQ.1 h];exact hxk),O⟩,by simpa using hF⟩;rintro v w ⟨u,⟨A,c,sb,hS,hok1,rfl⟩,hF⟩;refine⟨.ready,by simp,hF.heap (i:=0) O,?_⟩;have hF:=FR.put hF 0 (RC .exhausted) rfl;generalize w.putObj l (RC .exhausted)=w at hF ⊢;have hF:FR w0 [] ([(l,RC .exhausted),(D,.deferred (some [])),(ba,.cells #[I s] 9),(b4,.cells #[.slice (A) ((Ub s).1.length) (c)] 131),(b3,.cells #[J 0] 25),(b2,.cells #[J 0] 3),(b1,.cells #[aQ] 131)]++(sb++[])) w:=by simpa using hF
 refine Wa (Ga (Fa (Ja (Yb (Ff uQ O hF.F 3 O O) (Ba (Pd O) (Ba (Rp oX O) ?_))))));refine Zl (.slice _ _ _) hF sizeOf131 O O sI6.app Oi ?_;rintro w hF -;refine Zl (.int _ _) hF sizeOf3 O O sI5.app Oi ?_;rintro w hF -;refine Zl (.int _ _) hF sizeOf25 O O XU.app Oi ?_;rintro w hF -;refine Eb (Ga ?_);have hF9:=FR.put hF 1 (.deferred none) rfl;refine Xa (Va (C1 (hF.heap (i:=1) O) (HN O O O O uQ xQ isAgg25 (hF9.cell 6 O O) (hF9.cell 5 O O) (hF9.cell 4 O O)) ?_));refine⟨A,c,O,?_,hok1,hF9.same⟩;exact SlB.rep (pre:=[(l,RC .exhausted),(D,.deferred none),(ba,.cells #[I s] 9),(b4,.cells #[.slice (A) ((Ub s).1.length) (c)] 131),(b3,.cells #[J 0] 25),(b2,.cells #[J ((((s):Str).length:Int))] 3),(b1,.cells #[.slice (A) ((Ub s).1.length) (c)] 131)]) (post:=[]) hS hF9 (RX.plain (ids:=[]) λS=>tk_reps _ hok1) (by simp)
end Go.Scarf.Fn
namespace Go.Scarf
open Go.RowKit Go.Proofs Go.Proofs.Tryz
theorem Rep.tok_at{S:Nat->Prop}{w:World}{l:List Tk}{A:Option Addr}{len c:Nat}(h:Rep S w (Mk l) [.slice A len c]){i:Nat}(hi:i<l.length) :
    ∃ad,A=some ad/\S (ad.add (i*3)).block/\∀j (hj:j<[Value.int .i64 l[i].k,J (l[i].f:Nat),J (l[i].t:Nat)].length),w.cell? ((ad.add (i*3)).add j)=some [Value.int .i64 l[i].k,J (l[i].f:Nat),J (l[i].t:Nat)][j]:=by
  obtain⟨ad,hA,hk⟩:=h.tok_elem hi;refine⟨ad,hA,?_,hk⟩;obtain⟨A',c',e,-,-,hr⟩:=Rep.slice_inv h;simp only[List.cons.injEq,Value.slice.injEq,and_true]at e;obtain⟨rfl,-,rfl⟩:=e;obtain⟨ad',e2,es,hc,hl⟩:=hr (λe=>by have:=congrArg List.length e;simp at this;rw[this]at hi;cases hi);subst hA;obtain rfl:=lQ e2;have hne:0<es.length:=by
    cases l with
    | nil=>cases hi
    | cons x xs=>obtain⟨c1,c2,rfl,h1,-⟩:=RepL.cons_inv hl;obtain rfl:=Q3 h1;simp
  rw[Rh];exact (hc 0 hne).2
def E5(s:Str):List Tk:=(Ub s).1.filter λt=>decide (t.k≠1)
def Up(s:Str):Ps:=⟨E5 s,0,0,[],0,0⟩
theorem PB{s:Str}(h:∀y∈(Ub s).1,Bu y):∀y∈E5 s,Bu y:=λy hy=>h y (List.mem_filter.1 hy).1
theorem Z_{s:Str}(h:∀y∈(Ub s).1,Bu y):NP (Up s):=⟨⟨Nat.zero_le _,by simp[Up]⟩,by simp[Up],λx hx=>by have:=PB h x hx;unfold Bu at this;exact⟨by omega,by omega⟩,Nat.zero_le _⟩
theorem p0_Jp{w1 w:World}{Ds:List Nat}{b1 b2:Nat}{o:Obj}{sts:List (Nat × Obj)}{s:Str}{A:Option Addr}{c:Nat}(hF:FR w1 Ds ([(b2,.cells (Ym s A c (Up s) none 0).toArray 138),(b1,o)]++(sts++[])) w)(hS:SlB 140 3 A (E5 s).length c (Fn.tkCs (E5 s)) sts)(hok:∀y∈E5 s,Bu y) :
    Jp (λx=>x<w.heap.size/\x≠b1/\x≠b2) w [(b1,o)] [(b2,.cells (Ym s A c (Up s) none 0).toArray 138)] b2 s (Up s):=by
  have hd:=List.pairwise_append.1 hF.desc;refine⟨⟨none,A,0,c,[],[],[],O,SlB.nil _ _,.nil,hS.repOf (λq hq=>?_) (Fn.tk_reps _ hok) (by rw[rQ];rfl)⟩,λx hx=>⟨hx.1,λhm=>?_⟩,?_,λq hq=>?_⟩
  ·have hq' : q ∈ sts ++ [] := by simpa using hq
   have ho:=hF.own q (List.mem_append_right _ hq');exact⟨ho.1,Mb ho.1,hd.2.2 (b1,o) La q hq',hd.2.2 (b2,_) List.mem_cons_self q hq'⟩
  ·simp only[ids, qQ, jQ, List.map_cons, List.map_nil, List.cons_append, List.nil_append, oQ, List.not_mem_nil, or_false]at hm
   rcases hm with h|h
   ·exact hx.2.1 h
   exact hx.2.2 h
  ·have := (List.pairwise_cons.1 hd.1).1 (b1, o) La
   simp;exact λe=>this e.symm
  simp only[qQ, List.cons_append, List.nil_append, oQ, List.not_mem_nil, or_false]at hq;rcases hq with rfl|rfl
  ·exact (hF.own _ La).1
  exact (hF.own _ La).1
theorem R9{w0 w2 w:World}{sm0 own sl sb:List (Nat × Obj)}{A:Option Addr}{c:Nat}{vals:List Value}{l:List Nd}(hF:FR w2 (ids sm0) (own++([]++(sl++(sb++[])))) w)(h1:SlB 145 7 A l.length c vals sl)(h2:NdsAt 3 136 l vals sb)(hnd:∀x∈l,NdOk x)(hlow:∀x,w2.heap.size<=x\/x∈ids sm0->w0.heap.size<=x) :
    Rep (Btw w0 w) w (.slice (l.map ndD)) [.slice A l.length c]:=by
  have hb:∀q∈sl++sb,(∃cs T,q.2=.cells cs T)->w.heap[q.1]? = some q.2/\Btw w0 w q.1:=λq hq ⟨cs,T,e⟩=>by
    have ho:=hF.own q (by simp only[List.nil_append,qQ];exact List.mem_append_right _ hq);exact⟨ho.1,hlow _ ho.2,Mb ho.1,cs,T,by rw[<-e];exact ho.1⟩
  exact h1.repOf (λq hq=>hb q (List.mem_append_left _ hq) (by obtain⟨cur,e⟩:=h1.typ1.2 q hq;exact⟨_,_,e⟩)) (nds_rep h2 hnd λq hq=>hb q (List.mem_append_right _ hq) (h2.soft q hq)) La
def G2(p:Ps):Prop:=∀t∈p.rest,t.k≠2
theorem ZT(p q:Ps)(h:q.rest <:+ p.rest)(hp:G2 p):G2 q:=λt ht=>hp t (h.subset ht)
theorem YJ(p:Ps)(t:Tk)(r:List Tk)(hp:G2 p)(hr:p.rest=t::r):t.k≠2:=hp t (by rw[hr];exact List.mem_cons_self)
theorem Xq{s:Str}(hok:(Ub s).2.2=0){b:Bool}{q:Ps}(hr:Zb s 32 0 0 (Up s)=(b,q)):Hc s=if b=false then ([],q.at_,q.err) else if q.rest≠[] then ([],q.here s.length,2) else (q.nodes,s.length,0):=by
  unfold Hc;dsimp only;rw[if_neg (by rw[hok];decide)];unfold Up E5 at hr;rw[hr]
theorem Ov{l:List Tk}{j:Nat}(hj:j<l.length):(l.take (j+1)).filter (λt=>decide (t.k≠1))=(l.take j).filter (λt=>decide (t.k≠1))++(if l[j].k≠1 then [l[j]] else []):=by
  rw[iQ hj,List.filter_append]
  congr 1
  by_cases h:l[j].k=1 <;> simp[h]
theorem Uj{P:Program}{n:Nat}{s:Nat->Value}{w:World}{fn:Func}{t T u x:Nat}{a:Addr}{l:List Value}{m:Nat}{v y:Value}(h:fn.results=#[.cell t T,.tmp u,.tmp x])(hx:ev n s (.tmp t)=.pointer (some a))(ha:∀w,(isAgg T).run P w=.ok true w)(hs:∀w,(sizeOf T).run P w=.ok m w)(hm:l.length=m)
    (hc:∀j (h:j<l.length),w.cell? (a.add j)=some l[j]) (hv:ev n s (.tmp u)=v) (hy:ev n s (.tmp x)=y):(results fn (Jl n s).tmps).run P w=.ok (.tuple #[.agg l.toArray,v,y]) w:=by
  have h1:=Mg n s t;have h2:=Mg n s u;have h3:=Mg n s x;rw[hx,Array.getD_eq_getD_getElem?]at h1;rw[hv,Array.getD_eq_getD_getElem?]at h2;rw[hy,Array.getD_eq_getD_getElem?]at h3;simp[results,h,h1,h2,h3,asAddr,As ha hs hm hc]
theorem XO{w0 w1 w2:World}{b1 b2:Nat}{sm0:List (Nat × Obj)}(h1:Same [] w0 w1)(h2:Same [b1] w1 w2)(hb1:w0.heap.size<=b1)(hb2:w1.heap.size<=b2)(e:ids sm0=[b1,b2]):∀x,w2.heap.size<=x\/x∈ids sm0->w0.heap.size<=x:=λx hx=>by
  have k1:=h1.size;have k2:=h2.size;rw[e]at hx;simp only[oQ,List.not_mem_nil,or_false]at hx;omega
theorem Bl{w0 w1 w2 w:World}{b1:Nat}{Ds:List Nat}(h1:Same [] w0 w1)(h2:Same [b1] w1 w2)(h3:Same Ds w2 w)(hb1:w0.heap.size<=b1)(hlow:∀x,w2.heap.size<=x\/x∈Ds->w0.heap.size<=x):Same [] w0 w :=
  ⟨h3.os.trans (h2.os.trans h1.os),h3.tape.trans (h2.tape.trans h1.tape),h3.output.trans (h2.output.trans h1.output),fQ h1.size (fQ h2.size h3.size),λb hb _=>by
    have hq1:=h1.size;have hq2:=h2.size;rw[h3.block b Aa (λh=>by have:=hlow b (.inr h);omega),h2.block b Aa (λh=>by rw[pQ.1 h]at hb;omega),h1.block b hb La]⟩
theorem S9(s:Str):∀(f a:Nat)(out:List Tk),(Gg f s a out).1.length<=out.length+(s.length-a)
  | 0,a,out=>by simp[Gg]
  | f + 1, a, out => by
    rw[Gg];split
    ·rename_i hlt
     split
     ·rename_i h0
      have h1:=Lz hlt h0;have h2:=S9 s f (Ud s a).1.t (out++[(Ud s a).1]);simp only[dQ,kQ,List.length_nil]at h2;omega
     exact Nat.zero_le _
    exact Nat.le_add_right _ _
theorem WA(s:Str):(Ub s).1.length<=s.length:=by
  unfold Ub;split
  ·exact Nat.zero_le _
  have := S9 s (s.length + 1) 0 [];simpa using this
theorem par_ge{w1 w:World}{b1 b2:Nat}{o1 o2:Obj}{r:List (Nat × Obj)}(hF:FR w1 [b1] ([(b2,o2),(b1,o1)]++r) w):w1.heap.size<=b2:=by
  rcases hF.geD (i:=0) rfl with h|h
  ·exact h
  exact absurd (pQ.1 h).symm ((List.pairwise_cons.1 (List.pairwise_append.1 hF.desc).1).1 (b1,o1) La)
theorem XL(s:Str)(hU:UniC s)(hl:s.length<=65536)(hok:(Ub s).2.2=0)(hno:G2 (Up s))(w0:World)(hG:Gl w0):Calls prog 74 #[I s] w0 (Oc λv w'=>∃A c tx,v=.tuple #[.agg #[I tx,.slice A (Hc s).1.length c],J ((Hc s).2.1:Nat),J (Hc s).2.2]/\((Hc s).2.2=0/\(Hc s).1≠[]->tx=s)/\Rep (Btw w0 w') w' (.slice ((Hc s).1.map ndD)) [.slice A (Hc s).1.length c]/\(∀x∈(Hc s).1,NdOk x)/\NB (Hc s).1/\Same [] w0 w'):=by
 refine Ea func74 O ntmps74 Bb (Tb _) ?_;have hF:=FR.start w0 [];refine Da (Gc (cs:=#[I [],aQ]) hF zeroValue99 O ?_);rintro b1 w hb1 hF -;refine Ba (Gb O) (Ba (Gb O) (Ob (Ba (Pd O) ?_)));refine Ta (Fn.tokens_c s hU hl hok _ (hG.ext hF.same)) (Ma en_112 O O) ?_;have hwb:b1<_:=hF.lt (i:=0) rfl;rintro _ w ⟨AT,cT,rfl,hT,hTk,hE⟩;have hF:=hF.ext hE;refine Ba (Aj O) (Ba (yxl O O) (Ba (Nh O O) (Ba (Nh O O) (Ba (Cm O) (Ba (Gb O) (Ba (Gb O) (Ca (Fa (Fa ?_)))))))));obtain⟨w1,hw1⟩:∃x,x=w:=⟨_,rfl⟩;have hS1:Same [] w0 w1:=by rw[hw1];exact hF.same
 have hb1:=hF.ge (i:=0) rfl;have hF1:FR w1 [b1] [(b1,.cells #[I [],aQ] 99)] w:=by subst hw1;exact FR.open_ (λq hq=>by rw[pQ.1 hq];exact⟨hF.heap (i:=0) rfl,by simp⟩) La
 rw[<-hw1]at hT;clear hF;have hF:=hF1;clear hF1;refine Ja (Ba (Cb O) (Ba (Sn O O) (Ca ?_)));refine Te (by rfl) (Na (Ga (Da (Ba (Pd O) ?_))));refine Ia (w':=w) (v:=.agg #[I s,aQ,J 0,J 0,aQ,J 0,J 0]) Ib (Df hF O ?_);rintro b2 w hb2 hF -;refine Ba (yap O) (Ca (Fa (Da (Ba (Qe O) (Ba (Qg xZ O) (Ba (Cb O) (Ca (Sa ?_))))))));refine Rc (λμ σ w=>∃(j:Nat),∃(rs:List Tk),∃(A2:Option Addr),∃(c2:Nat),∃(sts:List (Nat × Obj)),μ=(Ub s).1.length-j/\(j<=(Ub s).1.length)/\(rs=((Ub s).1.take j).filter (λt=>decide (t.k≠1)))/\(SlB 140 3 A2 rs.length c2 (Fn.tkCs rs) sts)/\AllEq σ [(0,I s),(2,V b1),(8,V b2),(26,.slice (AT) ((Ub s).1.length) (cT)),(27,J (((Ub s).1.length:Nat))),(28,J ((j:Int)))]/\FR w1 [b1] ([(b2,.cells #[I s,.slice A2 rs.length c2,J 0,J 0,aQ,J 0,J 0] 138),(b1,.cells #[I [],aQ] 99)]++(sts++[])) w) _ ⟨0,[],none,0,[],O,(Nat.zero_le _),(O),(SlB.nil _ _),I9,hF⟩ ?_;rintro μ σ w ⟨j,rs,A2,c2,sts,rfl,hj,hrs,hS,hs,hF⟩;refine Cg.slots hs ?_;clear hs;intro σ;have htl:=WA s;have hrl:rs.length<=65536:=by rw[hrs];exact fQ (List.length_filter_le _ _) (by rw[List.length_take];omega)
 refine Da (Ba (Dl O O) (Ca (Fa ?_)));refine Lb O O (λhc1=>?_) (λhc1=>?_);refine Na (Ga (Fa (Sa (Fa ?_))));have hjl:j<(Ub s).1.length:=by omega
 obtain⟨ad,hA,hSb,hk⟩:=hT.tok_at hjl;have hSa:(ad.add (j*3)).block≠b1:=λe=>by have:=hSb.1;rw[e]at this;omega
 refine Ja (Ia (v:=.pointer (some (ad.add (j*3)))) (Ra (i:=(j:Int)) Lq O hA O Aa Aa) ?_);refine Ia (Za (l:=[J (Ub s).1[j].k,J ((Ub s).1[j].f:Nat),J ((Ub s).1[j].t:Nat)]) wQ lZ O O (hF.cellsE (by rw[pQ];exact hSa) hk)) ?_;refine Hf hF qX lZ O ?_;rintro b3 w hb3 hF -;refine Ob (Ba (Rb F6 O) (Yb (Pi xQ O hF.F 0 O O) (Ba (Sn O O) (Ca ?_))));refine Lb O O (λhc2=>?_) (λhc2=>?_);refine Dd ⟨[10],λwq=>FR w1 [b1] [(b3,.cells #[J ((Ub s).1[j].k),J (((Ub s).1[j].f:Nat)),J (((Ub s).1[j].t:Nat))] 140),(b1,.cells #[I [],aQ] 99)] wq,[8]⟩ (bQ [0,1,2,3,4,5] (.act 6 (.act 7 (.free 8 (.free 9 (.act 10 .nil)))))) hF ?_;rintro w hF -;refine⟨λwq=>FR w1 [b1] [(b3,.cells #[J ((Ub s).1[j].k),J (((Ub s).1[j].f:Nat)),J (((Ub s).1[j].t:Nat))] 140),(b2,.cells #[I s,.slice A2 rs.length c2,J 0,J 0,aQ,J 0,J 0] 138),(b1,.cells #[I [],aQ] 99)] wq,hF.mid 0 3,?_⟩;refine Hb O (Kf O) (Hb O (Kf O) (Hb O (Hh O) (Hb O (Rb Ng O) (Nf O (Ff uQ O C0 1 O O) (Nf O (Ig wQ lZ O C0 0 O O) ?_)))));refine Of 1 O hF (Fb (cs:=#[J ((Ub s).1[j].k),J (((Ub s).1[j].f:Nat)),J (((Ub s).1[j].t:Nat))]) xZ lZ qX Oa Oa Ib) ?_;rintro b4 w hb4 hF -;refine⟨hF.mid 1 3,?_⟩;refine KJ (news:=[J ((Ub s).1[j].k),J (((Ub s).1[j].f:Nat)),J (((Ub s).1[j].t:Nat))]) (len':=(rs++[(Ub s).1[j]]).length) (ys:=(Fn.tkCs (rs++[(Ub s).1[j]]))) O UB hF hS O O (O) (λ_=>⟨_,O,Tc (hF.cellsAll 0 O)⟩) (by simp[Value.oneCell']) (by simp only[maxLen];omega) La (by simp[Fn.tkCs,Fn.tkC]) Aa ?_;intro A0 c0 ts_0 w hS0_ts hF hE hnew;refine⟨hF.mid 1 3,?_⟩;refine Hb O (Hh O) (Hb O (Rb Ng O) ?_);refine X2 (.slice _ _ _) O hF sizeOf131 O O B0 Tr ?_;rintro w hF -;refine⟨hF.sub (.cons _ (.cons_cons _ (.cons _ (.cons_cons _ (List.nil_sublist _))))),?_⟩;refine d_nil (Wa (Ga (Ja (Ba (Un (((j+1:Nat):Int)) O O) (Ba (Cb O) (Eb ?_))))));refine Qb ⟨_,?_,j+1,(rs++[(Ub s).1[j]]),A0,c0,ts_0,O,Aa,(by rw[Ov hjl,<-hrs,if_pos hc2]),(hS0_ts),I9,hF.drop 2⟩
 omega;refine Na (Wa (Ga (Ja (Ba (Un (((j+1:Nat):Int)) O O) (Ba (Cb O) (Eb ?_))))));refine Qb ⟨_,?_,j+1,rs,A2,c2,sts,O,Aa,(by rw[Ov hjl,<-hrs,if_neg hc2,qQ]),(hS),I9,hF.drop 1⟩;omega;refine Ic (Ec O ?_);refine Ga (Fa ?_);have hjn:j=(Ub s).1.length:=by omega
 obtain rfl:rs=E5 s:=by rw[hrs,hjn,List.take_length];rfl
 obtain⟨w2,hw2⟩:∃x,x=w:=⟨_,rfl⟩;have hS2:Same [b1] w1 w2:=by rw[hw2];exact hF.same
 have hb2:=par_ge hF;have hJ0:=p0_Jp (o:=.cells #[I [],aQ] 99) hF hS (PB hTk);rw[<-hw2]at hJ0;have hM0:Mc w2 ([(b1,.cells #[I [],aQ] 99)]++[(b2,.cells (Ym s A2 c2 (Up s) none 0).toArray 138)]) w2 ([(b1,.cells #[I [],aQ] 99)]++[(b2,.cells (Ym s A2 c2 (Up s) none 0).toArray 138)]):=Mc.ext (Same.refl _ _);have hlow:=XO hS1 hS2 hb1 hb2 (sm0:=([(b1,.cells #[I [],aQ] 99)]++[(b2,.cells (Ym s A2 c2 (Up s) none 0).toArray 138)])) rfl;have hG2:Gl w2:=(hG.ext hS1).same hS2 (λb hb=>by rw[pQ.1 hb];exact fQ hG.size hb1);have hlo:∀b∈ids ([(b1,.cells #[I [],aQ] 99)]++[(b2,.cells (Ym s A2 c2 (Up s) none 0).toArray 138)]),8<=b:=λb hb=>fQ hG.size (hlow b (.inr hb));have hF:FR w2 (ids ([(b1,.cells #[I [],aQ] 99)]++[(b2,.cells (Ym s A2 c2 (Up s) none 0).toArray 138)])) [] w:=by subst hw2;exact⟨Same.refl _ _,by simp,by simp⟩
 clear hM0;refine Ja (Ba (Kf O) ?_);refine Ia (w':=w) (v:=.agg #[J 0,J 0]) Ib (Ta (IX s hl _ b2 G2 ZT YJ 32 Aa 0 0 (Up s) 1 _ _ w Aa Aa Aa (hw2▸hG2) hlo hno (Z_ hTk) (hw2▸hJ0)) (De QD O O O O) ?_);obtain⟨bo,q,hr⟩:∃x y,Zb s 32 0 0 (Up s)=(x,y):=⟨_,_,rfl⟩;have hvo:=Xg hl 32 0 0 (Up s) Aa Aa (Z_ hTk);rw[hr]at hvo ⊢;have hpe:=Xq hok hr;rw[<-hw2];rintro _ w ⟨rfl,sm3,hJ3,hM3⟩;obtain⟨A,Ar,c,cr,sl,vals,sb,hF,h1,h2,h3⟩:=Jp.openN (own:=[(b1,.cells #[I [],aQ] 99)]) (ex:=[]) hJ3 hM3 hJ0.off;have hF:FR w2 (ids ([(b1,.cells #[I [],aQ] 99)]++[(b2,.cells (Ym s A2 c2 (Up s) none 0).toArray 138)])) ([(b1,.cells #[I [],aQ] 99),(b2,.cells #[I s,.slice Ar q.rest.length cr,J ((q.lf:Nat)),J ((q.lt:Nat)),.slice A q.nodes.length c,J ((q.at_:Nat)),J (q.err)] 138)]++([]++(sl++(sb++[])))) w:=hF;refine Ba (Kb O) (Ca (Fa (Da ?_)));rcases Bool.eq_false_or_eq_true bo with hbo|hbo
 subst hbo;refine Ba (Sc O) (Ba (Sc O) (Ba (Kf O) (Ba (Hh O) (Ba (Rb Ng O) (Yb (Ff uQ O hF.F 1 O O) (Ba (Qg xZ O) (Ba (Yx O O) (Ba (Fc O O) (Ca ?_)))))))));refine Lb O O (λhc3=>?_) (λhc3=>?_);have hne:q.rest≠[]:=λh=>by rw[h]at hc3;exact absurd hc3 Oa
 refine Ja (Ba (Kf O) ?_);refine Ta (Rn hJ3 2) (Ua Qn O O O) ?_;rintro _ w ⟨rfl,sm7,hJ7,hM7⟩;have hM7:=hM3.trans hM7;obtain⟨A,Ar,c,cr,sl,vals,sb,hF,h1,h2,h3⟩:=Jp.openN (own:=[(b1,.cells #[I [],aQ] 99)]) (ex:=[]) hJ7 hM7 hJ0.off;have hF:FR w2 (ids ([(b1,.cells #[I [],aQ] 99)]++[(b2,.cells (Ym s A2 c2 (Up s) none 0).toArray 138)])) ([(b1,.cells #[I [],aQ] 99),(b2,.cells #[I s,.slice (Ar) ((q.fail s.length 2).rest.length) (cr),J (((q.fail s.length 2).lf:Nat)),J (((q.fail s.length 2).lt:Nat)),.slice (A) ((q.fail s.length 2).nodes.length) (c),J (((q.fail s.length 2).at_:Nat)),J ((q.fail s.length 2).err)] 138)]++([]++(sl++(sb++[])))) w:=hF;refine Ba (Kb O) (Ca (Fa (Da (Ba (Sc O) (Ba (Wi (b:=false) O) (Ca (Od O (Fa ?_))))))));refine Dd (.of []) (bQ [0,1,2,3,4,5,6,7,8] (.act 9 (.free 10 (.free 11 .nil)))) hF ?_;rintro w hF -;refine⟨λwq=>FR w2 (ids ([(b1,.cells #[I [],aQ] 99)]++[(b2,.cells (Ym s A2 c2 (Up s) none 0).toArray 138)])) [(b2,.cells #[I s,.slice (Ar) ((q.fail s.length 2).rest.length) (cr),J (((q.fail s.length 2).lf:Nat)),J (((q.fail s.length 2).lt:Nat)),.slice (A) ((q.fail s.length 2).nodes.length) (c),J (((q.fail s.length 2).at_:Nat)),J ((q.fail s.length 2).err)] 138)] wq,hF.mid 1 1,?_⟩;refine Ab O (v:=.agg #[I [],aQ]) (λw hC=>by kernel_rfl) (Hb O (Kf O) (Hb O (Hh O) (Hb O (Rb Vu O) (Nf O (Pi xQ O C0 0 O O) (Hb O (Kf O) (Hb O (Hh O) (Hb O (Rb Iu O) (Nf O (Pi isAgg25 O C0 0 O O) ?_))))))));refine Aw O hF uZ O O Oi ?_;rintro w hF -;refine⟨hF.mid 1 1,?_⟩;refine Hb O (Gb O) (Hb O (Gb O) (d_nil (Ga ?_)));refine Xa (Va (Ka (Uj O (l:=[I [],aQ]) O jZ uZ O (hF.cellsAll 0 O) (v:=J (((q.fail s.length 2).at_:Nat))) O (y:=J ((q.fail s.length 2).err)) O) ?_));have hSw:Same [] w0 w:=Bl hS1 hS2 hF.same hb1 hlow;have hpe2:Hc s=([],q.here s.length,2):=by rw[hpe,if_neg Oa,if_pos hne]
 rw[hpe2];exact⟨none,0,[],O,λh=>absurd O h.2,Rep.slice_mk O (gQ _) Oa (λh=>absurd O h),(λx hx=>by cases hx),⟨Nat.zero_le _,(λx hx=>by cases hx)⟩,hSw⟩;have hne:¬q.rest≠[]:=λh=>hc3 (by have:=List.length_pos_iff.2 h;show (0:Int)<((q.rest.length:Nat):Int);omega);refine Na (Ga (Fa (Da (Ba (Sc O) (Ba (Wi (b:=true) O) (Ca (Dr O (Da ?_))))))));refine Ba (Pd O) (Ba (Kf O) (Ba (Hh O) (Ba (Rb Uh O) (Yb (Ff iZ O hF.F 1 O O) ?_))));refine Ia (w':=w) (v:=.agg #[I s,.slice A q.nodes.length c]) Ib (Ba (Pd O) (Ba (Rp oX O) ?_));refine Ke hF uZ O O Oi ?_;rintro w hF -;refine Ba (Gb O) (Ba (Gb O) (Ca ?_));refine Xa (Va (Ka (Uj O (l:=[I s,.slice A q.nodes.length c]) O jZ uZ O (hF.cellsAll 0 O) (v:=J ((((s):Str).length:Int))) O (y:=J 0) O) ?_));have hSw:Same [] w0 w:=Bl hS1 hS2 hF.same hb1 hlow;have hpe2:Hc s=(q.nodes,s.length,0):=by rw[hpe,if_neg Oa,if_neg hne]
 rw[hpe2];exact⟨A,c,s,O,λ_=>rfl,R9 (own:=[_,_]) hF h1 h2 hvo.1.nd hlow,hvo.1.nd,hvo.1.nb,hSw⟩;subst hbo;refine Ba (Sc O) (Ba (Sc O) (Ha (Ha (Ha (Ha (Ha (Ha (Ba (Pc O O) (Ca (Dr O ?_))))))))));refine Fa (Da (Ba (Sc O) (Ba (Wi (b:=false) O) (Ca (Od O (Fa ?_))))));refine Dd (.of []) (bQ [0,1,2,3,4,5,6,7,8] (.act 9 (.free 10 (.free 11 .nil)))) hF ?_;rintro w hF -;refine⟨λwq=>FR w2 (ids ([(b1,.cells #[I [],aQ] 99)]++[(b2,.cells (Ym s A2 c2 (Up s) none 0).toArray 138)])) [(b2,.cells #[I s,.slice Ar q.rest.length cr,J ((q.lf:Nat)),J ((q.lt:Nat)),.slice A q.nodes.length c,J ((q.at_:Nat)),J (q.err)] 138)] wq,hF.mid 1 1,?_⟩;refine Ab O (v:=.agg #[I [],aQ]) (λw hC=>by kernel_rfl) (Hb O (Kf O) (Hb O (Hh O) (Hb O (Rb Vu O) (Nf O (Pi xQ O C0 0 O O) (Hb O (Kf O) (Hb O (Hh O) (Hb O (Rb Iu O) (Nf O (Pi isAgg25 O C0 0 O O) ?_))))))));refine Aw O hF uZ O O Oi ?_;rintro w hF -;refine⟨hF.mid 1 1,?_⟩;refine Hb O (Gb O) (Hb O (Gb O) (d_nil (Ga ?_)));refine Xa (Va (Ka (Uj O (l:=[I [],aQ]) O jZ uZ O (hF.cellsAll 0 O) (v:=J ((q.at_:Nat))) O (y:=J (q.err)) O) ?_));have hSw:Same [] w0 w:=Bl hS1 hS2 hF.same hb1 hlow;have hpe2:Hc s=([],q.at_,q.err):=by rw[hpe,if_pos rfl]
 rw[hpe2];exact⟨none,0,[],O,λh=>absurd O h.2,Rep.slice_mk O (gQ _) Oa (λh=>absurd O h),(λx hx=>by cases hx),⟨Nat.zero_le _,(λx hx=>by cases hx)⟩,hSw⟩
end Go.Scarf
