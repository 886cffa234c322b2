/- A part of the proof. -/
import Derived.Test.YtgkmigdopohcnaaGreatDoorP3
set_option linter.all false
set_option maxHeartbeats 8000000
set_option maxRecDepth 10000
namespace Go.Scarf
open Go.RowKit Go.Proofs
def qQq(c:UInt8):Bool:=(decide (48<=c.toNat)&&decide (c.toNat<=57)) || (decide (97<=c.toNat)&&decide (c.toNat<=102)) || (decide (65<=c.toNat)&&decide (c.toNat<=70))
def hxV(c:UInt8):Nat:=if c.toNat<=57 then c.toNat-48 else if 97<=c.toNat then c.toNat-87 else c.toNat-55
def SO:Str->Option Nat
  | a::b::c::d::_=>if (qQq a&&qQq b&&qQq c&&qQq d)=true then some (4096*hxV a+256*hxV b+16*hxV c+hxV d) else none
  | _=>none
def Sk(c:UInt8):Option Nat:=if c.toNat=34\/c.toNat=92\/c.toNat=47 then some c.toNat else if c.toNat=98 then some 8 else if c.toNat=102 then some 12 else if c.toNat=110 then some 10 else if c.toNat=114 then some 13 else if c.toNat=116 then some 9 else none
def Yo(s:Str):Nat × Nat :=
  match SO (s.drop 2)with
  | none=>(0,0)
  | some h => if 56320 <= h /\ h<57344 then (0, 0) else if h<55296 \/ 57344 <= h then (h, 6) else
    if (s.drop 6).take 2=[92,117] then
      match SO (s.drop 8)with
      | none=>(0,0)
      | some l=>if l<56320\/57344<=l then (0,0) else (65536+(h-55296)*1024+(l-56320),12)
    else (0,0)
def Fm(s:Str):Nat × Nat :=
  match s with
  | _ :: c :: _ => match Sk c with
    | some r=>(r,2)
    | none=>if c.toNat=117 then Yo s else (0,0)
  | _=>(0,0)
def Nk(s:Str):Nat × Nat:=if s.head? = some 92 then Fm s else
  if (Lib.decodeL s).1<32\/((Lib.decodeL s).1=65533/\(Lib.decodeL s).2=1) then (0,0) else Lib.decodeL s
def Iq:Nat->Str->Nat->Str->Str × Nat × Int
  | 0,t,_,_=>([],t.length,2)
  | f + 1, t, at_, out => if h : at_<t.length then
      (if t[at_]=34 then (out,at_+1,0) else if (Nk (t.drop at_)).2=0 then ([],at_,2) else Iq f t (at_+(Nk (t.drop at_)).2) (out++Kh (Nk (t.drop at_)).1))
    else ([],t.length,2)
def Hf(t:Str)(at_:Nat):Str × Nat × Int:=if t[at_]? = some 34 then Iq (t.length-at_) t (at_+1) [] else ([],at_,2)
def Qe(t:Str):Str × Nat × Int:=if (Hf t 0).2.2=0/\(Hf t 0).2.1<t.length then ([],(Hf t 0).2.1,2) else Hf t 0
theorem Yx{s:Str}(h:1<s.length):Fm s=match Sk s[1]with|some r=>(r,2)|none=>if s[1].toNat=117 then Yo s else (0,0):=by
  match s,h with
  | a::c::r,_=>rfl
theorem J8{s:Str}(h:s.length<2):Fm s=(0,0):=by
  match s,h with
  | [],_=>rfl
  | [a],_=>rfl
theorem Pv{a b:UInt8}:a=b↔a.toNat=b.toNat:=⟨λh=>by rw[h],λh=>UInt8.toNat_inj.1 h⟩
theorem Ku{s:Str}(h:0<s.length):Nk s=if s[0].toNat=92 then Fm s else if (Lib.decodeL s).1<32\/((Lib.decodeL s).1=65533/\(Lib.decodeL s).2=1) then (0,0) else Lib.decodeL s:=by
  match s,h with
  | c :: r, _ =>
    unfold Nk;simp only[List.head?_cons,Option.some.injEq,List.getElem_cons_zero];by_cases hc:c=92
    ·rw[if_pos hc,if_pos (show c.toNat=92 by rw[hc];rfl)]
    rw[if_neg hc,if_neg (λe:c.toNat=92=>hc (Pv.2 e))]
theorem WH{s:Str}{h:Nat}(e:SO s=some h):h<65536/\4<=s.length:=by
  unfold SO at e;split at e
  ·split at e
   ·have hv:∀x:UInt8,qQq x=true->hxV x<16:=λx hx=>by
      unfold qQq at hx;unfold hxV;simp only[Bool.or_eq_true,Bool.and_eq_true,decide_eq_true_eq]at hx
      repeat' split
      all_goals omega
    rename_i a b c d r hh
    simp only[Bool.and_eq_true]at hh;have h1:=hv _ hh.1.1.1;have h2:=hv _ hh.1.1.2;have h3:=hv _ hh.1.2;have h4:=hv _ hh.2;injection e with e
    refine⟨by omega,by simp⟩
   cases e
  cases e
theorem JT{c:UInt8}{r:Nat}(e:Sk c=some r):r<256:=by
  have:=UInt8.toNat_lt c;unfold Sk at e
  repeat' (first|(injection e with e;omega)|split at e|cases e)
theorem F8(s:Str):(Fm s).2<=s.length/\(Fm s).1<=1114111:=by
  unfold Fm;split
  ·rename_i c0 c r
   split
   ·rename_i q hq;have:=JT hq;exact⟨by simp,by omega⟩
   split
   ·unfold Yo
    split
    ·exact⟨Nat.zero_le _,by simp⟩
    rename_i h hh
    have h1:=WH hh;simp only[List.length_drop]at h1
    repeat' split
    all_goals first|exact⟨Nat.zero_le _,by simp⟩|skip
    ·exact⟨by omega,by omega⟩
    rename_i l hl _
    have h2:=WH hl;simp only[List.length_drop]at h2;exact⟨by simp only;omega,by simp only;omega⟩
   exact⟨Nat.zero_le _,by simp⟩
  exact⟨Nat.zero_le _,by simp⟩
theorem Wu(s:Str)(hs:s≠[]):(Nk s).2<=s.length/\(Nk s).1<=1114111:=by
  unfold Nk;split
  ·exact F8 s
  split
  ·exact⟨Nat.zero_le _,by simp⟩
  exact⟨Lib.decodeL_le s hs,Lib.decodeL_rune s⟩
theorem Z0:∀(f:Nat)(t:Str)(a:Nat)(out:Str),t.length-a<f->a<=t.length->(Iq f t a out).2.1<=t.length/\a<=(Iq f t a out).2.1/\((Iq f t a out).2.2=0\/(Iq f t a out).2.2=2)/\(Iq f t a out).1.length<=out.length+4*(t.length-a)
  | 0,_,_,_,h,_=>by omega
  | f + 1, t, a, out, hf, ha => by
    rw[Iq];split
    ·rename_i hlt
     split
     ·exact⟨by simp only;omega,by simp only;omega,.inl O,by simp⟩
     split
     ·exact⟨by simp only;omega,gQ _,.inr O,by simp⟩
     rename_i hz
     have hb:=Wu (t.drop a) (by rw[ne_eq,List.drop_eq_nil_iff];omega);rw[List.length_drop]at hb;have:=Z0 f t (a+(Nk (t.drop a)).2) (out++Kh (Nk (t.drop a)).1) Aa Aa;have h4:=Yh ((Nk (t.drop a)).1:Int);rw[dQ]at this;exact⟨this.1,by omega,this.2.2.1,by omega⟩
    exact⟨gQ _,by simp only;omega,.inr O,by simp⟩
theorem TQ(t:Str)(a:Nat)(ha:a<=t.length):(Hf t a).2.1<=t.length/\a<=(Hf t a).2.1/\((Hf t a).2.2=0\/(Hf t a).2.2=2)/\(Hf t a).1.length<=4*t.length:=by
  unfold Hf;split
  ·rename_i h
   have hl:a<t.length:=by
     rcases Nat.lt_or_ge a t.length with h'|h'
     ·exact h'
     rw[List.getElem?_eq_none h']at h;cases h
   have:=Z0 (t.length-a) t (a+1) [] Aa Aa;simp only[List.length_nil]at this;exact⟨this.1,by omega,this.2.2.1,by omega⟩
  exact⟨ha,gQ _,.inr O,by simp⟩
def Qq(c:UInt8):Bool:=decide (0<=Lib.indexByte [32,9,10,13] c)
def RH(c:UInt8):Bool:=decide (0<=Lib.indexByte [45,43,46,48,49,50,51,52,53,54,55,56,57,101,69] c)
def Gi(c:UInt8):Bool:=decide (97<=c.toNat)&&decide (c.toNat<=122)
def Pi(p:UInt8->Bool):Str->Nat
  | []=>0
  | c::s=>if p c=true then Pi p s+1 else 0
theorem Jq(p:UInt8->Bool):∀s:Str,Pi p s<=s.length
  | []=>gQ _
  | c :: s => by rw[Pi];split;· simpa using Jq p s
                 ·exact Nat.zero_le _
structure Tk where
  k:Int
  f:Nat
  t:Nat
def At(s:Str):Int:=if s=[116,114,117,101] then 10 else if s=[102,97,108,115,101] then 11 else if s=[110,117,108,108] then 12 else 0
def Sw(s:Str)(a:Nat)(c:UInt8):Tk × Int :=
  let r:=s.drop a
  if 0<=Lib.indexByte [123,125,91,93,44,58] c then (⟨2+Lib.indexByte [123,125,91,93,44,58] c,a,a+1⟩,0)
  else if Qq c=true then (⟨1,a,a+Pi Qq r⟩,0)
  else if c.toNat=34 then (if (Hf s a).2.2=0 then (⟨8,a,(Hf s a).2.1⟩,0) else (⟨0,(Hf s a).2.1,(Hf s a).2.1⟩,(Hf s a).2.2))
  else if c.toNat=45\/(48<=c.toNat/\c.toNat<=57) then (if (Fc (r.take (Pi RH r))).2=0 then (⟨9,a,a+Pi RH r⟩,0) else (⟨0,a,a⟩,(Fc (r.take (Pi RH r))).2))
  else if At (r.take (Pi Gi r))≠0 then (⟨At (r.take (Pi Gi r)),a,a+Pi Gi r⟩,0) else (⟨0,a,a⟩,2)
def Hh(s:Str)(a:Nat):Tk × Int:=Sw s a ((s.drop a).headD 0)
def U5:Nat->Str->Nat->List Tk->List Tk × Nat × Int
  | 0,s,_,_=>([],s.length,2)
  | f+1,s,a,out=>if a<s.length then (if (Hh s a).2=0 then U5 f s (Hh s a).1.t (out++[(Hh s a).1]) else ([],(Hh s a).1.f,(Hh s a).2)) else (out,s.length,0)
def Ue(s:Str):List Tk × Nat × Int:=if 65536<s.length then ([],0,3) else U5 (s.length+1) s 0 []
structure Nd where
  k:Int
  f:Nat
  t:Nat
  kf:Nat
  kt:Nat
  kids:List Int
  pcs:List (Int × Int)
structure Ps where
  rest:List Tk
  lf:Nat
  lt:Nat
  nodes:List Nd
  at_:Nat
  err:Int
def Ps.kind(p:Ps):Int:=match p.rest with|[]=>0|t::_=>t.k
def Ps.here(p:Ps)(n:Nat):Nat:=match p.rest with|[]=>n|t::_=>t.f
def Ps.fail(p:Ps)(n:Nat)(e:Int):Ps:={ p with at_:=p.here n,err:=e }
def Ps.skip(p:Ps):Ps:=match p.rest with|[]=>p|t::r=>{ p with lf:=t.f,lt:=t.t,rest:=r }
def Pf(t:Int):Int:=if t=12 then 1 else if t=10\/t=11 then 2 else if t=9 then 3 else if t=8 then 4 else if t=4 then 5 else if t=2 then 6 else 0
def addKid(l:List Nd)(n:Nat)(kid:Int)(f t:Int):List Nd:=match l[n]? with|none=>l|some x=>l.set n { x with kids:=x.kids++[kid],pcs:=x.pcs++[(f,t)] }
def setTo(l:List Nd)(n:Nat)(t:Nat):List Nd:=match l[n]? with|none=>l|some x=>l.set n { x with t:=t }
def Gt(kid:Ps × List Str->Bool × Ps × List Str)(len n:Nat)(closing:Int):Nat->Ps × List Str->Bool × Ps × List Str
  | 0,st=>(false,st)
  | g + 1, (p, had) =>
    let r:=kid (p,had)
    if r.1=false then (false,r.2) else
      let q:Ps:={ r.2.1 with nodes:=addKid r.2.1.nodes n p.nodes.length p.lt (r.2.1.here len) }
      if q.kind=closing then (true,q.skip,r.2.2) else if q.kind≠6 then (false,q.fail len 2,r.2.2) else Gt kid len n closing g (q.skip,r.2.2)
def Mj(kid:Ps × List Str->Bool × Ps × List Str)(len n:Nat)(closing:Int)(st:Ps × List Str):Bool × Ps × List Str :=
  if st.1.kind=closing then (true,st.1.skip,st.2) else Gt kid len n closing (st.1.rest.length+1) st
def G0(s:Str)(val:Nat->Nat->Ps->Bool × Ps)(st:Ps × List Str):Bool × Ps × List Str :=
  match st.1.rest with
  | []=>(false,st.1.fail s.length 2,st.2)
  | t :: _ => if t.k ≠ 8 then (false, st.1.fail s.length 2, st.2) else
    let key:=(Qe ((s.take t.t).drop t.f)).1
    if key∈st.2 then (false,st.1.fail s.length 7,st.2) else
      let q:Ps:=st.1.skip
      if q.kind≠7 then (false,q.fail s.length 2,key::st.2) else
        let r:=val t.f t.t q.skip
        (r.1,r.2,key::st.2)
def Zf(s:Str):Nat->Nat->Nat->Ps->Bool × Ps
  | 0,_,_,p=>if Pf p.kind=0 then (false,p.fail s.length 2) else (false,p.fail s.length 5)
  | d + 1, kf, kt, p =>
    match p.rest with
    | []=>(false,p.fail s.length 2)
    | t :: _ =>
      if Pf t.k=0 then (false,p.fail s.length 2) else if p.nodes.length=4096 then (false,p.fail s.length 6) else
        let q:Ps:={ p.skip with nodes:=p.nodes++[⟨Pf t.k,t.f,t.t,kf,kt,[],[]⟩] }
        let r:Bool × Ps:=if Pf t.k=5 then (let r:=Mj (λst=>(λx=>(x.1,x.2,st.2)) (Zf s d 0 0 st.1)) s.length p.nodes.length 5 (q,[]);(r.1,r.2.1))
          else if Pf t.k=6 then (let r:=Mj (G0 s (Zf s d)) s.length p.nodes.length 3 (q,[]);(r.1,r.2.1)) else (true,q)
        (r.1,{ r.2 with nodes:=setTo r.2.nodes p.nodes.length r.2.lt })
def Lf(s:Str):List Nd × Nat × Int :=
  let a:=Ue s
  if a.2.2≠0 then ([],a.2.1,a.2.2) else
    let r:=Zf s 32 0 0 ⟨a.1.filter λt=>decide (t.k≠1),0,0,[],0,0⟩
    if r.1=false then ([],r.2.at_,r.2.err) else if r.2.rest≠[] then ([],r.2.here s.length,2) else (r.2.nodes,s.length,0)
def Tc(s:Str)(f t:Nat):Str:=if f<=t/\t<=s.length then (s.take t).drop f else []
def Pj(k:Int)(s:Str):Str:=if k=2 then s else if k=3 then Tf (Fc s).1 else if k=4 then (Qe s).1 else []
def To(s:Str)(l:List Nd):Nat->Nat->Tree
  | 0,k=>match l[k]? with|none=>.node 0 [] [] []|some x=>.node x.k (Pj x.k (Tc s x.f x.t)) [] []
  | d + 1, k => match l[k]? with
    | none=>.node 0 [] [] []
    | some x =>
      let ks:List Int:=x.kids.takeWhile λj:Int=>decide (0<=j)&&decide (j<(l.length:Int))
      .node x.k (Pj x.k (Tc s x.f x.t)) (if x.k=6 then ks.map λj=>match l[j.toNat]? with|none=>[]|some y=>(Qe (Tc s y.kf y.kt)).1 else []) (ks.map λj=>To s l d j.toNat)
def Ye(s:Str):Tree × Nat × Int:=let r:=Lf s;if r.2.2≠0 then (.node 0 [] [] [],r.2.1,r.2.2) else (To s r.1 32 0,r.2.1,0)
def OS(x:Tk):D:=.agg [Mi x.k,.agg [Mi (x.f:Nat),Mi (x.t:Nat)]]
def Vl(l:List Tk):D:=.slice (l.map OS)
section
variable {S:Nat->Prop}{w:World}
theorem C4{x:Tk}{cs:List Value}(h:Rep S w (OS x) cs):cs=[J x.k,J (x.f:Nat),J (x.t:Nat)]:=by
  simp only[OS,Mi,Rep,RepL]at h;obtain⟨c1,c2,rfl,⟨rfl,-⟩,c3,c4,rfl,⟨c5,c6,rfl,⟨rfl,-⟩,c7,c8,rfl,⟨rfl,-⟩,rfl⟩,rfl⟩:=h;rfl
theorem Rep.tok_elem{l:List Tk}{A:Option Addr}{len c:Nat}(h:Rep S w (Vl l) [.slice A len c]){i:Nat}(hi:i<l.length) :
    ∃ad,A=some ad/\(∀j (hj:j<[Value.int .i64 l[i].k,J (l[i].f:Nat),J (l[i].t:Nat)].length),w.cell? ((ad.add (i*3)).add j)=some [Value.int .i64 l[i].k,J (l[i].f:Nat),J (l[i].t:Nat)][j]):=by
  obtain⟨ad,cs,hA,hl,hc,hr⟩:=Rep.elem (sz:=3) h (λd hd=>by obtain⟨k,_,rfl⟩:=nQ.1 hd;rfl) (i:=i) (by simpa using hi);rw[List.getElem_map]at hr;obtain rfl:=C4 hr;exact⟨ad,hA,hc⟩
end
def Qr(x:Nd)(K:Option Addr)(kc:Nat)(Q:Option Addr)(qc:Nat):List Value :=
  [J x.k,J (x.f:Nat),J (x.t:Nat),J (x.kf:Nat),J (x.kt:Nat),.slice K x.kids.length kc,.slice Q x.pcs.length qc]
def prV(l:List (Int × Int)):List Value:=l.flatMap λq=>[J q.1,J q.2]
inductive NdsAt (TI TP:Nat):List Nd->List Value->List (Nat × Obj)->Prop
  | nil:NdsAt TI TP [] [] []
  | cons {x:Nd} {xs:List Nd} {K Q:Option Addr} {kc qc:Nat} {sk sq sb:List (Nat × Obj)} {vs:List Value} (hk:SlB TI 1 K x.kids.length kc (x.kids.map (Value.int .i64)) sk) (hq:SlB TP 2 Q x.pcs.length qc (prV x.pcs) sq) (h:NdsAt TI TP xs vs sb) :
      NdsAt TI TP (x::xs) (Qr x K kc Q qc++vs) (sk++(sq++sb))
section
variable {TI TP:Nat}{xs ys:List Nd}{vs us:List Value}{sb tb:List (Nat × Obj)}
theorem NdsAt.len(h:NdsAt TI TP xs vs sb):vs.length=xs.length*7:=by
  induction h with
  | nil=>rfl
  | cons _ _ _ ih=>rw[dQ,ih,kQ];simp only[Qr,kQ,List.length_nil];omega
theorem NdsAt.app(h:NdsAt TI TP xs vs sb)(h':NdsAt TI TP ys us tb):NdsAt TI TP (xs++ys) (vs++us) (sb++tb):=by
  induction h with
  | nil=>exact h'
  | cons hk hq _ ih=>rw[List.cons_append,sQ,sQ,sQ];exact .cons hk hq ih
theorem NdsAt.split(h:NdsAt TI TP xs vs sb){n:Nat}(hn:n<xs.length):∃(K Q:Option Addr)(kc qc:Nat)(v1 v2:List Value)(s1 sk sq s2:List (Nat × Obj)),
    vs=v1++(Qr xs[n] K kc Q qc++v2)/\sb=s1++(sk++(sq++s2))/\NdsAt TI TP (xs.take n) v1 s1/\SlB TI 1 K xs[n].kids.length kc (xs[n].kids.map (Value.int .i64)) sk/\SlB TP 2 Q xs[n].pcs.length qc (prV xs[n].pcs) sq/\NdsAt TI TP (xs.drop (n+1)) v2 s2:=by
  induction h generalizing n with
  | nil=>simp at hn
  | @cons x xs K Q kc qc sk sq sb vs hk hq h ih =>
    cases n with
    | zero=>exact⟨K,Q,kc,qc,[],vs,[],sk,sq,sb,rfl,rfl,.nil,hk,hq,by simpa using h⟩
    | succ n =>
      obtain⟨K',Q',kc',qc',v1,v2,s1,sk',sq',s2,rfl,rfl,g1,g2,g3,g4⟩:=ih (n:=n) (by simpa using hn);exact⟨K',Q',kc',qc',Qr x K kc Q qc++v1,v2,sk++(sq++s1),sk',sq',s2,by simp,by simp,by rw[List.take_succ_cons];exact .cons hk hq g1,g2,g3,by simpa using g4⟩
theorem XX{n:Nat}(hn:n<xs.length){x:Nd}{K Q:Option Addr}{kc qc:Nat}{v1 v2:List Value}{s1 sk sq s2:List (Nat × Obj)}(h1:NdsAt TI TP (xs.take n) v1 s1)(hk:SlB TI 1 K x.kids.length kc (x.kids.map (Value.int .i64)) sk)(hq:SlB TP 2 Q x.pcs.length qc (prV x.pcs) sq)(h2:NdsAt TI TP (xs.drop (n+1)) v2 s2) :
    NdsAt TI TP (xs.set n x) (v1++(Qr x K kc Q qc++v2)) (s1++(sk++(sq++s2))):=by
  rw[List.set_eq_take_append_cons_drop,if_pos hn];exact h1.app (.cons hk hq h2)
end
def Jt(s:Str)(Ar:Option Addr)(cr:Nat)(p:Ps)(A:Option Addr)(c:Nat):List Value :=
  [I s,.slice Ar p.rest.length cr,J (p.lf:Nat),J (p.lt:Nat),.slice A p.nodes.length c,J (p.at_:Nat),J p.err]
structure Jx (TI TP TN TB:Nat) (w:World) (sm:List (Nat × Obj)) (pb:Nat) (s:Str) (p:Ps):Prop where
  ex:∃(A Ar:Option Addr)(c cr:Nat)(sl:List (Nat × Obj))(vals:List Value)(sb:List (Nat × Obj)),sm=(pb,.cells (Jt s Ar cr p A c).toArray TB)::(sl++sb)/\SlB TN 7 A p.nodes.length c vals sl/\NdsAt TI TP p.nodes vals sb /\
    Rep (λb=>b∉ids sm) w (Vl p.rest) [.slice Ar p.rest.length cr]
section
variable {TI TP TN TB:Nat}{w w' w0:World}{sm sm1 pre post bs_:List (Nat × Obj)}{pb:Nat}{s:Str}{p:Ps}{E Ds:List Nat}
theorem Jx.box(h:Jx TI TP TN TB w sm pb s p)(hh:∀q∈sm,w.heap[q.1]? = some q.2):∃(A Ar:Option Addr)(c cr:Nat),w.heap[pb]? = some (.cells (Jt s Ar cr p A c).toArray TB):=by
  obtain⟨A,Ar,c,cr,sl,vals,sb,rfl,-⟩:=h.ex;exact⟨A,Ar,c,cr,hh _ List.mem_cons_self⟩
end
end Go.Scarf
