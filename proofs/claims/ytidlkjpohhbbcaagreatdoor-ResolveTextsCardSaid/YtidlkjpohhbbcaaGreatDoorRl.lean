/- A part of the proof. -/
import Derived.Test.YtidlkjpohhbbcaaGreatDoorM13
set_option linter.all false
set_option maxHeartbeats 8000000
set_option maxRecDepth 10000
namespace Go.Scarf
open List renaming length->aL
open Go.RowKit Go.Proofs Go.Proofs.Tryz
variable {n:Nat}
def blankB(c:UInt8):Bool:=decide (0<=Lib.indexByte [32,9,10,13] c)
def numB(c:UInt8):Bool:=decide (0<=Lib.indexByte [45,43,46,48,49,50,51,52,53,54,55,56,57,101,69] c)
def smallB(c:UInt8):Bool:=decide (97<=c.toNat)&&decide (c.toNat<=122)
def Hd(p:UInt8->Bool):Str->Nat
  | []=>0
  | c::s=>if p c=true then Hd p s+1 else 0
theorem Rk(p:UInt8->Bool):∀s:Str,Hd p s<=aL s
  | []=>gQ _
  | c :: s => by rw[Hd];split;· simpa using Rk p s
                 ·exact dZ _
structure Tk where
  k:Int
  f:Nat
  t:Nat
def Ik(s:Str):Int:=if s=[116,114,117,101] then 10 else if s=[102,97,108,115,101] then 11 else if s=[110,117,108,108] then 12 else 0
def Xc(s:Str)(a:Nat)(c:UInt8):Tk × Int :=
  let r:=s.drop a
  if 0<=Lib.indexByte [123,125,91,93,44,58] c then (⟨2+Lib.indexByte [123,125,91,93,44,58] c,a,a+1⟩,0)
  else if blankB c=true then (⟨1,a,a+Hd blankB r⟩,0)
  else if c.toNat=34 then (if (Wc s a).2.2=0 then (⟨8,a,(Wc s a).2.1⟩,0) else (⟨0,(Wc s a).2.1,(Wc s a).2.1⟩,(Wc s a).2.2))
  else if c.toNat=45\/(48<=c.toNat/\c.toNat<=57) then (if (Wb (r.take (Hd numB r))).2=0 then (⟨9,a,a+Hd numB r⟩,0) else (⟨0,a,a⟩,(Wb (r.take (Hd numB r))).2))
  else if Ik (r.take (Hd smallB r))≠0 then (⟨Ik (r.take (Hd smallB r)),a,a+Hd smallB r⟩,0) else (⟨0,a,a⟩,2)
def Ae(s:Str)(a:Nat):Tk × Int:=Xc s a ((s.drop a).headD 0)
def Dl:Nat->Str->Nat->List Tk->List Tk × Nat × Int
  | 0,s,_,_=>([],aL s,2)
  | f+1,s,a,out=>if a<aL s then (if (Ae s a).2=0 then Dl f s (Ae s a).1.t (out++[(Ae s a).1]) else ([],(Ae s a).1.f,(Ae s a).2)) else (out,aL s,0)
def Ib(s:Str):List Tk × Nat × Int:=if 65536<aL s then ([],0,3) else Dl (aL s+1) s 0 []
structure Nd where
  k:Int
  f:Nat
  t:Nat
  kf:Nat
  kt:Nat
  kids:List Int
  pcs:List (Int × Int)
structure Ps where
  rest:List Tk
  lf:Nat
  lt:Nat
  nodes:List Nd
  at_:Nat
  err:Int
def Ps.kind(p:Ps):Int:=match p.rest with|[]=>0|t::_=>t.k
def Ps.here(p:Ps)(n:Nat):Nat:=match p.rest with|[]=>n|t::_=>t.f
def Ps.fail(p:Ps)(n:Nat)(e:Int):Ps:={ p with at_:=p.here n,err:=e }
def Ps.skip(p:Ps):Ps:=match p.rest with|[]=>p|t::r=>{ p with lf:=t.f,lt:=t.t,rest:=r }
def Tc(t:Int):Int:=if t=12 then 1 else if t=10\/t=11 then 2 else if t=9 then 3 else if t=8 then 4 else if t=4 then 5 else if t=2 then 6 else 0
def addKid(l:List Nd)(n:Nat)(kid:Int)(f t:Int):List Nd:=match l[n]? with|none=>l|some x=>l.set n { x with kids:=x.kids++[kid],pcs:=x.pcs++[(f,t)] }
def setTo(l:List Nd)(n:Nat)(t:Nat):List Nd:=match l[n]? with|none=>l|some x=>l.set n { x with t:=t }
def Vi(kid:Ps × List Str->Bool × Ps × List Str)(len n:Nat)(closing:Int):Nat->Ps × List Str->Bool × Ps × List Str
  | 0,st=>(false,st)
  | g + 1, (p, had) =>
    let r:=kid (p,had)
    if r.1=false then (false,r.2) else
      let q:Ps:={ r.2.1 with nodes:=addKid r.2.1.nodes n (aL p.nodes) p.lt (r.2.1.here len) }
      if q.kind=closing then (true,q.skip,r.2.2) else if q.kind≠6 then (false,q.fail len 2,r.2.2) else Vi kid len n closing g (q.skip,r.2.2)
def Ec(kid:Ps × List Str->Bool × Ps × List Str)(len n:Nat)(closing:Int)(st:Ps × List Str):Bool × Ps × List Str :=
  if st.1.kind=closing then (true,st.1.skip,st.2) else Vi kid len n closing (aL st.1.rest+1) st
def Mb(s:Str)(val:Nat->Nat->Ps->Bool × Ps)(st:Ps × List Str):Bool × Ps × List Str :=
  match st.1.rest with
  | []=>(false,st.1.fail (aL s) 2,st.2)
  | t :: _ => if t.k ≠ 8 then (false, st.1.fail (aL s) 2, st.2) else
    let key:=(Dc ((s.take t.t).drop t.f)).1
    if key∈st.2 then (false,st.1.fail (aL s) 7,st.2) else
      let q:Ps:=st.1.skip
      if q.kind≠7 then (false,q.fail (aL s) 2,key::st.2) else
        let r:=val t.f t.t q.skip
        (r.1,r.2,key::st.2)
def Wa(s:Str):Nat->Nat->Nat->Ps->Bool × Ps
  | 0,_,_,p=>if Tc p.kind=0 then (false,p.fail (aL s) 2) else (false,p.fail (aL s) 5)
  | d + 1, kf, kt, p =>
    match p.rest with
    | []=>(false,p.fail (aL s) 2)
    | t :: _ =>
      if Tc t.k=0 then (false,p.fail (aL s) 2) else if aL p.nodes=4096 then (false,p.fail (aL s) 6) else
        let q:Ps:={ p.skip with nodes:=p.nodes++[⟨Tc t.k,t.f,t.t,kf,kt,[],[]⟩] }
        let r:Bool × Ps:=if Tc t.k=5 then (let r:=Ec (λst=>(λx=>(x.1,x.2,st.2)) (Wa s d 0 0 st.1)) (aL s) (aL p.nodes) 5 (q,[]);(r.1,r.2.1))
          else if Tc t.k=6 then (let r:=Ec (Mb s (Wa s d)) (aL s) (aL p.nodes) 3 (q,[]);(r.1,r.2.1)) else (true,q)
        (r.1,{ r.2 with nodes:=setTo r.2.nodes (aL p.nodes) r.2.lt })
def Vb(s:Str):List Nd × Nat × Int :=
  let a:=Ib s
  if a.2.2≠0 then ([],a.2.1,a.2.2) else
    let r:=Wa s 32 0 0 ⟨a.1.filter λt=>decide (t.k≠1),0,0,[],0,0⟩
    if r.1=false then ([],r.2.at_,r.2.err) else if r.2.rest≠[] then ([],r.2.here (aL s),2) else (r.2.nodes,aL s,0)
def Ya(s:Str)(f t:Nat):Str:=if f<=t/\t<=aL s then (s.take t).drop f else []
def Tg(k:Int)(s:Str):Str:=if k=2 then s else if k=3 then Ch (Wb s).1 else if k=4 then (Dc s).1 else []
def Ld(s:Str)(l:List Nd):Nat->Nat->Tree
  | 0,k=>match l[k]? with|none=>.node 0 [] [] []|some x=>.node x.k (Tg x.k (Ya s x.f x.t)) [] []
  | d + 1, k => match l[k]? with
    | none=>.node 0 [] [] []
    | some x =>
      let ks:List Int:=x.kids.takeWhile λj:Int=>decide (0<=j)&&decide (j<(aL l:Int))
      .node x.k (Tg x.k (Ya s x.f x.t)) (if x.k=6 then ks.map λj=>match l[j.toNat]? with|none=>[]|some y=>(Dc (Ya s y.kf y.kt)).1 else []) (ks.map λj=>Ld s l d j.toNat)
def Ab(s:Str):Tree × Nat × Int:=let r:=Vb s;if r.2.2≠0 then (.node 0 [] [] [],r.2.1,r.2.2) else (Ld s r.1 32 0,r.2.1,0)
def VT(x:Tk):D:=.agg [Lg x.k,.agg [Lg (x.f:Nat),Lg (x.t:Nat)]]
def Le(l:List Tk):D:=.slice (l.map VT)
section
variable {S:Nat->Prop}{w:World}
def S4{x:Tk}{cs:List Value}(h:Rep S w (VT x) cs):cs=[J x.k,J (x.f:Nat),J (x.t:Nat)]:=by
  simp only[VT,Lg,Rep,RepL]at h;obtain⟨c1,c2,rfl,⟨rfl,-⟩,c3,c4,rfl,⟨c5,c6,rfl,⟨rfl,-⟩,c7,c8,rfl,⟨rfl,-⟩,rfl⟩,rfl⟩:=h;rfl
def Rep.tok_elem{l:List Tk}{A:Option Addr}{len c:Nat}(h:Rep S w (Le l) [.slice A len c]){i:Nat}(hi:i<aL l) :
    ∃ad,A=some ad/\(∀j (hj:j<aL [Value.int .i64 l[i].k,J (l[i].f:Nat),J (l[i].t:Nat)]),w.cell? ((ad.add (i*3)).add j)=some [Value.int .i64 l[i].k,J (l[i].f:Nat),J (l[i].t:Nat)][j]):=by
  obtain⟨ad,cs,hA,hl,hc,hr⟩:=Rep.elem (sz:=3) h (λd hd=>by obtain⟨k,_,rfl⟩:=nQ.1 hd;rfl) (i:=i) (aS hi);rw[List.getElem_map]at hr;obtain rfl:=S4 hr;exact⟨ad,hA,hc⟩
end
def Ai(x:Nd)(K:Option Addr)(kc:Nat)(Q:Option Addr)(qc:Nat):List Value :=
  [J x.k,J (x.f:Nat),J (x.t:Nat),J (x.kf:Nat),J (x.kt:Nat),.slice K (aL x.kids) kc,.slice Q (aL x.pcs) qc]
def NK(l:List (Int × Int)):List Value:=l.flatMap λq=>[J q.1,J q.2]
inductive NdsAt (TI TP:Nat):List Nd->List Value->List (Nat × Obj)->Prop
  | nil:NdsAt TI TP [] [] []
  | cons {x:Nd} {xs:List Nd} {K Q:Option Addr} {kc qc:Nat} {sk sq sb:List (Nat × Obj)} {vs:List Value} (hk:SlB TI 1 K (aL x.kids) kc (x.kids.map (Value.int .i64)) sk) (hq:SlB TP 2 Q (aL x.pcs) qc (NK x.pcs) sq) (h:NdsAt TI TP xs vs sb) :
      NdsAt TI TP (x::xs) (Ai x K kc Q qc++vs) (sk++(sq++sb))
section
variable {TI TP:Nat}{xs ys:List Nd}{vs us:List Value}{sb tb:List (Nat × Obj)}
def NdsAt.len(h:NdsAt TI TP xs vs sb):aL vs=aL xs*7:=by
  induction h with
  | nil=>rfl
  | cons _ _ _ ih=>rw[dQ,ih,kQ];simp only[Ai,kQ,cZ];omega
def NdsAt.app(h:NdsAt TI TP xs vs sb)(h':NdsAt TI TP ys us tb):NdsAt TI TP (xs++ys) (vs++us) (sb++tb):=by
  induction h with
  | nil=>exact h'
  | cons hk hq _ ih=>rw[List.cons_append,sQ,sQ,sQ];exact .cons hk hq ih
def NdsAt.split(h:NdsAt TI TP xs vs sb)(hn:n<aL xs):∃(K Q:Option Addr)(kc qc:Nat)(v1 v2:List Value)(s1 sk sq s2:List (Nat × Obj)),
    vs=v1++(Ai xs[n] K kc Q qc++v2)/\sb=s1++(sk++(sq++s2))/\NdsAt TI TP (xs.take n) v1 s1/\SlB TI 1 K (aL xs[n].kids) kc (xs[n].kids.map (Value.int .i64)) sk/\SlB TP 2 Q (aL xs[n].pcs) qc (NK xs[n].pcs) sq/\NdsAt TI TP (xs.drop (n+1)) v2 s2:=by
  induction h generalizing n with
  | nil=>simp at hn
  | @cons x xs K Q kc qc sk sq sb vs hk hq h ih =>
    cases n with
    | zero=>exact⟨K,Q,kc,qc,[],vs,[],sk,sq,sb,rfl,rfl,.nil,hk,hq,by simpa using h⟩
    | succ n =>
      obtain⟨K',Q',kc',qc',v1,v2,s1,sk',sq',s2,rfl,rfl,g1,g2,g3,g4⟩:=ih (n:=n) (aS hn);exact⟨K',Q',kc',qc',Ai x K kc Q qc++v1,v2,sk++(sq++s1),sk',sq',s2,Da,Da,by rw[List.take_succ_cons];exact .cons hk hq g1,g2,g3,by simpa using g4⟩
def nds_join(hn:n<aL xs){x:Nd}{K Q:Option Addr}{kc qc:Nat}{v1 v2:List Value}{s1 sk sq s2:List (Nat × Obj)}(h1:NdsAt TI TP (xs.take n) v1 s1)(hk:SlB TI 1 K (aL x.kids) kc (x.kids.map (Value.int .i64)) sk)(hq:SlB TP 2 Q (aL x.pcs) qc (NK x.pcs) sq)(h2:NdsAt TI TP (xs.drop (n+1)) v2 s2) :
    NdsAt TI TP (xs.set n x) (v1++(Ai x K kc Q qc++v2)) (s1++(sk++(sq++s2))):=by
  rw[List.set_eq_take_append_cons_drop,uQ hn];exact h1.app<|.cons hk hq h2
end
def Qq(s:Str)(Ar:Option Addr)(cr:Nat)(p:Ps)(A:Option Addr)(c:Nat):List Value :=
  [I s,.slice Ar (aL p.rest) cr,J (p.lf:Nat),J (p.lt:Nat),.slice A (aL p.nodes) c,J (p.at_:Nat),J p.err]
structure Jx (TI TP TN TB:Nat) (w:World) (sm:List (Nat × Obj)) (pb:Nat) (s:Str) (p:Ps):Prop where
  ex:∃(A Ar:Option Addr)(c cr:Nat)(sl:List (Nat × Obj))(vals:List Value)(sb:List (Nat × Obj)),sm=(pb,.cells (Qq s Ar cr p A c).toArray TB)::(sl++sb)/\SlB TN 7 A (aL p.nodes) c vals sl/\NdsAt TI TP p.nodes vals sb /\
    Rep (λb=>b∉ids sm) w (Le p.rest) [.slice Ar (aL p.rest) cr]
section
variable {TI TP TN TB:Nat}{w w' w0:World}{sm sm1 pre post bs_:List (Nat × Obj)}{pb:Nat}{s:Str}{p:Ps}{E Ds:List Nat}
def Jx.box(h:Jx TI TP TN TB w sm pb s p)(hh:∀q∈sm,w.heap[q.1]? = some q.2):∃(A Ar:Option Addr)(c cr:Nat),w.heap[pb]? = some (.cells (Qq s Ar cr p A c).toArray TB):=by
  obtain⟨A,Ar,c,cr,sl,vals,sb,rfl,-⟩:=h.ex;exact⟨A,Ar,c,cr,hh _ aZ⟩
end
set_option synthInstance.maxHeartbeats 0
set_option synthInstance.maxSize 9999
def Qp{a:Int}(h1:-2147483648<=a)(h2:a<=2147483647):IntKind.i32.wrap a=a:=by simp only[IntKind.wrap,IntKind.bits,IntKind.signed];simp;omega
def meant_c(c:UInt8)(w0:World):Calls prog 320 #[.int .u8 (c.toNat:Int)] w0 (Za λv w'=>v=.tuple #[.int .i32 (((Me c).getD 0:Nat):Int),.bool (Me c).isSome]/\Same [] w0 w'):=by
 refine Ea func320 ntmps320 ?_;intro hF;refine rn 21 ⟨λhc0=>?_,λhc0=>?_⟩;refine rn 6 ?_;refine Ba (v:=.int .i32<|(c.toNat:Int)) (Qb iX bX O<|Qp Aa kP) ?_;refine rn 5 ⟨?_,hF.same⟩;have hlt:=UInt8.toNat_lt c;unfold Me
 repeat (first|rw[uQ Aa]|rw[tQ Aa])
 rfl;refine rn 7 ⟨λhc1=>?_,λhc1=>?_⟩;refine rn 6 ?_;refine Ba (v:=.int .i32<|(c.toNat:Int)) (Qb iX bX O<|Qp Aa kP) ?_;refine rn 5 ⟨?_,hF.same⟩;have hlt:=UInt8.toNat_lt c;unfold Me
 repeat (first|rw[uQ Aa]|rw[tQ Aa])
 rfl;refine rn 6 ⟨λhc2=>?_,λhc2=>?_⟩;refine rn 3 ?_;refine Ba (v:=.int .i32<|(c.toNat:Int)) (Qb iX bX O<|Qp Aa kP) ?_;refine rn 5 ⟨?_,hF.same⟩;have hlt:=UInt8.toNat_lt c;unfold Me
 repeat (first|rw[uQ Aa]|rw[tQ Aa])
 rfl;refine rn 7 ⟨λhc3=>?_,λhc3=>?_⟩;refine rn 7 ⟨?_,hF.same⟩;have hlt:=UInt8.toNat_lt c;unfold Me
 repeat (first|rw[uQ Aa]|rw[tQ Aa])
 rfl;refine rn 7 ⟨λhc4=>?_,λhc4=>?_⟩;refine rn 7 ⟨?_,hF.same⟩;have hlt:=UInt8.toNat_lt c;unfold Me
 repeat (first|rw[uQ Aa]|rw[tQ Aa])
 rfl;refine rn 7 ⟨λhc5=>?_,λhc5=>?_⟩;refine rn 7 ⟨?_,hF.same⟩;have hlt:=UInt8.toNat_lt c;unfold Me
 repeat (first|rw[uQ Aa]|rw[tQ Aa])
 rfl;refine rn 7 ⟨λhc6=>?_,λhc6=>?_⟩;refine rn 7 ⟨?_,hF.same⟩;have hlt:=UInt8.toNat_lt c;unfold Me
 repeat (first|rw[uQ Aa]|rw[tQ Aa])
 rfl;refine rn 7 ⟨λhc7=>?_,λhc7=>?_⟩;refine rn 7 ⟨?_,hF.same⟩;have hlt:=UInt8.toNat_lt c;unfold Me
 repeat (first|rw[uQ Aa]|rw[tQ Aa])
 rfl;refine rn 10 ⟨?_,hF.same⟩;have hlt:=UInt8.toNat_lt c;unfold Me
 repeat (first|rw[uQ Aa]|rw[tQ Aa])
 rfl
def UniC(t:Str):Prop:=∀(k:Nat)(w:World),Gl w->(t.drop k)[0]? = some 92->(t.drop k)[1]? = some 117->Calls prog 321 #[I (t.drop k)] w (Za λv w'=>v=.tuple #[.int .i32 ((Se (t.drop k)).1:Nat),J ((Se (t.drop k)).2:Nat)]/\Same [] w w')
def UniC.none{t:Str}(h:(92:UInt8)∉t):UniC t:=λk w _ h0 _=>absurd (by obtain⟨h1,h2⟩:=List.getElem?_eq_some_iff.1 h0;rw[<-h2];exact List.mem_of_mem_drop<|eQ h1) h
def YZ(t:Str)(k:Nat)(hU:UniC t)(h92:(t.drop k)[0]? = some 92)(w0:World)(hG:Gl w0):Calls prog 298 #[I (t.drop k)] w0 (Za λv w'=>v=.tuple #[.int .i32 ((He (t.drop k)).1:Nat),J ((He (t.drop k)).2:Nat)]/\Same [] w0 w'):=by
 refine Ea func298 ntmps298 ?_;intro hF;refine rn 15 ⟨λhc0=>?_,λhc0=>?_⟩;refine rn 7 ?_;exact⟨by rw[Su Aa];rfl,hF.same⟩;refine rn 6<|Ba (v:=.int .u8<|((((t.drop k):Str)[1]' Aa).toNat:Int)) (Cb (1) jX O O Aa) ?_;refine Ia (meant_c ((t.drop k)[1]'_) _) ?_;rintro w hF -;refine rn 13 ⟨λhc1=>?_,λhc1=>?_⟩;refine rn 8 ⟨?_,hF.same⟩;rw[Ef Aa];obtain⟨r,hr⟩:=Option.isSome_iff_exists.1 hc1;rw[hr];rfl;refine rn 6<|Ba (v:=.int .u8<|((((t.drop k):Str)[1]' Aa).toNat:Int)) (Cb (1) jX O O Aa) ?_;refine rn 4 ⟨λhc2=>?_,λhc2=>?_⟩;refine rn 3 ?_;have h117:(t.drop k)[1]? = some 117:=by rw[List.getElem?_eq_getElem Aa];exact yQ some<|Lh.2 (show _=117 by omega)
 refine Ia (hU k _ (hG.ext hF.same) h92 h117) ?_;rintro w hF -;refine rn 7 ⟨?_,hF.same⟩;rw[Ef Aa];rw[Option.isSome_eq_false_iff,Option.isNone_iff_eq_none]at hc1;rw[hc1];simp only;rw[uQ Aa];refine rn 9 ⟨?_,hF.same⟩;rw[Ef Aa];rw[Option.isSome_eq_false_iff,Option.isNone_iff_eq_none]at hc1;rw[hc1];simp only;rw[tQ Aa];rfl
def part_c(t:Str)(k:Nat)(hU:UniC t)(hk:0<aL (t.drop k))(w0:World)(hG:Gl w0):Calls prog 267 #[I (t.drop k)] w0 (Za λv w'=>v=.tuple #[.int .i32 ((Fg (t.drop k)).1:Nat),J ((Fg (t.drop k)).2:Nat)]/\Same [] w0 w'):=by
 have hdc:Lib.decodeGo (bs<|t.drop k)=(Lib.decodeL<|t.drop k):=by rw[Lib.decodeGo,tQ kR];rw[<-Jh,List.drop_zero]
 refine Ea func267 ntmps267 ?_;intro hF;refine rn 10<|Ba (v:=.int .u8<|((((t.drop k):Str)[0]' Aa).toNat:Int)) (Cb (0) jX O O Aa) ?_;refine rn 4 ⟨λhc0=>?_,λhc0=>?_⟩;refine rn 3 ?_;have h92:(t.drop k)[0]? = some 92:=by rw[List.getElem?_eq_getElem Aa];exact yQ some<|Lh.2 (show _=92 by omega)
 refine Ia (YZ t k hU h92 _<|hG.ext hF.same) ?_;rintro w hF -;refine rn 7 ?_;exact⟨by rw[Bm hk,uQ Aa],hF.same⟩;refine rn 5<|Ia (Qk (v':=.tuple #[.int .i32 ((Lib.decodeL<|t.drop k).1:Nat),J ((Lib.decodeL<|t.drop k).2:Nat)]) (Ry (t.drop k)<|hG.ext hF.same) (by rw[hdc])) ?_;rintro w hF -;refine rn 14 ⟨λhg0=>?_,λhg0=>?_⟩;refine rn 17 ⟨?_,hF.same⟩;rw[Bm hk,tQ Aa]
 first|rw[uQ Aa];rfl|rw[tQ Aa]
 refine rn 4 ⟨λhg1=>?_,λhg1=>?_⟩;refine rn 7 ⟨λhc1=>?_,λhc1=>?_⟩;refine rn 7 ⟨?_,hF.same⟩;rw[Bm hk,tQ Aa]
 first|rw[uQ Aa];rfl|rw[tQ Aa]
 refine rn 11 ⟨?_,hF.same⟩;rw[Bm hk,tQ Aa]
 first|rw[uQ Aa];rfl|rw[tQ Aa]
 refine rn 18 ⟨?_,hF.same⟩;rw[Bm hk,tQ Aa]
 first|rw[uQ Aa];rfl|rw[tQ Aa]
section
variable {P:Program}{ρ:Operand->Value}{dst:Option Nat}{ty:TypeId}{pos:String}{aft:Array Edge}{g:Option (Nat × Bool)}{w:World}
def x_usd0{x:Operand}{ats:Array TypeId}(hx:ρ x=aQ):(execOp ρ ⟨dst,.call ⟨.builtin .unsafeSliceData,#[x],ats⟩,ty,pos,aft,g⟩).run P w=.ok (.value (.pointer none)) w:=by
  have h:(Builtin.unsafeSliceData_ ats ty #[aQ]).run P w=.ok (.pointer none) w:=rfl;simp[execOp,resolve,invoke,builtin,hx,h]
def run_us0(w:World)(t1 t2:Nat):(Builtin.unsafeString_ #[t1,t2] ty #[.pointer none,J 0]).run P w=.ok (I []) w:=rfl
end
def TS(w0:World)(pb:Nat)(hh:w0.heap[pb]? = some (.cells #[.pointer none,aQ] 123)):Calls prog 106 #[V pb] w0 (Za λv w'=>v=I []/\Same [pb] w0 w'):=by
 refine Lb func106 ntmps106 O O ?_;have hF:FR w0 [pb] [(pb,.cells #[.pointer none,aQ] 123)] w0:=(FR.start w0 [pb]).addD hh (.inr Da) Da;refine rn 6<|Rb (zs:=.of []) (bQ [0,1,2,3,5,6,7,8,9]<|.act 4<|.act 10<|.free 11 .nil) hF ?_;intro w hF;refine rn 9<|Ct O (x_usd0 O) hF ?_;refine Ct O (x_uss O O<|run_us0 w _ _) hF<|rn 4 ?_;exact⟨O,hF.same⟩
def ER(t:Str)(a:Nat)(hU:UniC t)(hl:aL t<=1000000000000)(ha:a<=1000000000000)(w0:World)(hG:Gl w0):Calls prog 233 #[I t,J (a:Int)] w0 (Za λv w'=>v=.tuple #[I ((Wc t a).1),J ((Wc t a).2.1:Nat),J (Wc t a).2.2]/\Same [] w0 w'):=by
 refine Ea func233 ntmps233 ?_;intro hF;refine rn 16 ⟨λhg0=>?_,λhg0=>?_⟩;refine rn 17 ?_;exact⟨by rw[Wc,tQ (by rw[List.getElem?_eq_none Aa];simp)],hF.same⟩;refine rn 2<|Ba (v:=.int .u8<|(((t:Str)[a]' Aa).toNat:Int)) (Cb (a) jX O O Aa) ?_;refine rn 5 ⟨λhc0=>?_,λhc0=>?_⟩;refine rn 9 ?_;exact⟨by rw[Wc,tQ (by rw[List.getElem?_eq_getElem Aa];intro e;injection e with e;exact hc0 (by rw[e];rfl))],hF.same⟩;refine rn 5 ?_;rintro b1 w hb1 hF -;refine rn 6<|Zb (Wd<|((a+1:Nat):Int)) ?_;refine rn 4 ?_;have hBn:BW w0 [] w b1 b1 123 [] []:=BW.own ⟨.inl ⟨rfl,rfl⟩,gQ _,_,_,hF.heap (i:=0) rfl,World.ownsRow_nil _ _ _ _,.inl rfl⟩ (hF.ge (i:=0) rfl) hF.same.size;have hN:([]:Str)=[]->w.heap[b1]? = some (.cells #[.pointer none,aQ] 123):=λ_=>hF.heap (i:=0) rfl;have hB:=hBn;have hF:=hF.drop 1;have hF:FR w0 [] [] w:=hF;have hr0:Em (aL t-a) t (a+1) []=Wc t a:=by rw[Wc,uQ wT]
 refine Sa (λμ σ w=>∃(f:Nat),∃(q:Nat),∃(o:Str),μ=aL t-q/\(Em f t q o=(Wc t a)/\aL t-q<f/\q<=aL t/\aL o<=4*q)/\(o=[]->w.heap[b1]? = some (.cells #[.pointer none,aQ] 123))/\(BW w0 [] w b1 b1 123 [] o)/\AllEq σ [(0,I t),(1,J<|(q:Int)),(7,V b1)]/\FR w0 [] [] w) _ ⟨aL t-a,a+1,[],O,⟨hr0,Aa,Aa,Da⟩,hN,hB,Va,hF⟩ ?_;rintro μ σ w ⟨f,q,o,rfl,hq,hN,hB,hzz,hF⟩;obtain⟨f,rfl⟩:∃g,f=g+1:=⟨f-1,Aa⟩;have hstep:=hq.1;rw[Em]at hstep;refine Wf hzz 10 ⟨λhc1=>?_,λhc1=>?_⟩;refine rn 8<|Ba (v:=.int .u8<|(((t:Str)[q]' Aa).toNat:Int)) (Cb (q) jX O O Aa) ?_;refine rn 4 ⟨λhc2=>?_,λhc2=>?_⟩;refine rn 2 ?_;rcases List.eq_nil_or_concat o with rfl|⟨o1,o2,rfl⟩
 refine Fc (TS _ b1<|hN O) ?_;rintro _ w ⟨rfl,hE⟩;have hF:=hF.wrote hB (hE.mono λx hx _=>Ff.2<|.inl<|pQ.1 hx) Da;refine rn 1<|Zb (Wd<|((q+1:Nat):Int)) ?_;refine rn 6 ?_;rw[dif_pos Aa,uQ<|Lh.2 (by show _=34;omega)]at hstep;exact⟨by rw[<-hstep],hF.same⟩;refine Fc (E6 hB.bd Da) ?_;rintro _ w ⟨rfl,hE⟩;have hF:=hF.wrote hB hE Da;refine rn 1<|Zb (Wd<|((q+1:Nat):Int)) ?_;refine rn 6 ?_;rw[dif_pos Aa,uQ<|Lh.2 (by show _=34;omega)]at hstep;exact⟨by rw[<-hstep],hF.same⟩;refine rn 6<|Ba (v:=I<|(t:Str).drop (q)) (Qf (q) jX) ?_;have hqn:t.drop q≠[]:=by rw[ne_eq,List.drop_eq_nil_iff];omega
 refine Ia (part_c t q hU qY _<|hG.ext hF.same) ?_;intro w hF hE;have hN:=λh=>(hE.block b1 hB.lt Da).trans (hN h);have hB:=hB.ext hE;have hpb:=Wo (t.drop q) hqn;rw[zQ]at hpb;refine rn 15 ⟨λhc3=>?_,λhc3=>?_⟩;refine rn 9 ?_;rw[dif_pos Aa,tQ λe=>hc2 (by rw[e];rfl),uQ Aa]at hstep;exact⟨by rw[<-hstep],hF.same⟩;refine rn 5 ?_;refine Fc (E3 hB.bd ((Fg<|t.drop q).1:Nat) Aa (by have:=(Wo (t.drop q) hqn).2;omega) Aa) ?_;rintro _ w ⟨rfl,hBd,hE⟩;have hF:=hF.wrote hB hE Da;have hB:=hB.wrote hBd hE;clear hBd hE hN;refine rn 5<|Zb (Wd<|((q+(Fg<|t.drop q).2:Nat):Int)) ?_;refine rn 3 ?_;rw[dif_pos Aa,tQ λe=>hc2 (by rw[e];rfl),tQ Aa]at hstep;refine Ha ⟨_,?_,f,q+(Fg<|t.drop q).2,o++Od (((Fg<|t.drop q).1:Nat):Int),rfl,(⟨hstep,Aa,Aa,by rw[dQ];have:=Cd<|(((Fg<|t.drop q).1:Nat):Int);omega⟩),(λh=>absurd (List.append_eq_nil_iff.1 h).2 (by have:=Cd<|(((Fg<|t.drop q).1:Nat):Int);intro e;rw[e]at this;simp at this)),hB,Va,hF⟩;omega;refine rn 12 ?_;rw[dif_neg Aa]at hstep;exact⟨by rw[<-hstep],hF.same⟩
def Zy(t:Str)(hU:UniC t)(hl:aL t<=1000000000000)(w0:World)(hG:Gl w0):Calls prog 178 #[I t] w0 (Za λv w'=>v=.tuple #[I ((Dc t).1),J ((Dc t).2.1:Nat),J (Dc t).2.2]/\Same [] w0 w'):=by
 refine Ea func178 ntmps178 ?_;intro hF;refine rn 10<|Ia (ER t 0 hU hl Aa _<|hG.ext hF.same) ?_;rintro w hF -;refine rn 16 ⟨λhg0=>?_,λhg0=>?_⟩;refine rn 8 ⟨λhc0=>?_,λhc0=>?_⟩;refine rn 9 ⟨?_,hF.same⟩;unfold Dc
 first|rw[uQ ⟨Aa,Aa⟩]|rw[tQ Aa]
 refine rn 13 ⟨?_,hF.same⟩;unfold Dc
 first|rw[uQ ⟨Aa,Aa⟩]|rw[tQ Aa]
 refine rn 21 ⟨?_,hF.same⟩;unfold Dc
 first|rw[uQ ⟨Aa,Aa⟩]|rw[tQ Aa]
def end_c(t:Str)(a:Nat)(hU:UniC t)(hl:aL t<=1000000000000)(ha:a<=aL t)(w0:World)(hG:Gl w0):Calls prog 264 #[I t,J (a:Int)] w0 (Za λv w'=>v=.tuple #[J ((Wc t a).2.1:Nat),J (Wc t a).2.2]/\Same [] w0 w'):=by
 refine Ea func264 ntmps264 ?_;intro hF;refine rn 13 ⟨λhg0=>?_,λhg0=>?_⟩;refine rn 15 ?_;omega;refine rn 8 ⟨λhc0=>?_,λhc0=>?_⟩;refine rn 7 ?_;omega;refine rn 6<|Ia (ER t a hU hl Aa _<|hG.ext hF.same) ?_;rintro w hF -;refine rn 18 ?_;exact⟨O,hF.same⟩
end Go.Scarf
