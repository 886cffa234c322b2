/- A part of the proof. -/
import Derived.Test.YtidlkjpohhbbcaaGreatDoorP3
import Derived.Lib.BufferRead
import Derived.Lib.ItoaMem
import Derived.Sort.Walk0
set_option linter.all false
set_option maxHeartbeats 8000000
set_option maxRecDepth 10000
namespace Go.Scarf
open Go.RowKit Go.Proofs Go.Proofs.Tryz
set_option maxRecDepth 100000
section
variable {H:Type}{enc:TypeId × Value->H}{W:World}{base:Nat}{sp:Nat->Bool}{held:Bool}
open Go.ChangeShapes Go.WideShapes Go.ChangeAt Go.Lib Go.Shelf
theorem cs38:prog.cellsOf 38=5:=by kernel_rfl
theorem cs4:prog.cellsOf 4=1:=by kernel_rfl
theorem side_of{fuel:Nat}{cs:List Value}{x:DataW H × List MemPlace}(h:DataW.trod enc prog W base sp held fuel 38 cs=some x):∃q:Sd,Rep (λ_=>True) W (Se q) cs:=by
  obtain⟨xs,n,rfl,-,hcl,hxl,hf⟩:=DataW.trod_struct underlying38 h;have hcl':cs.length=5:=hcl.trans cs38;have get:∀(i:Nat)(hi:i<2),xs[i]? = some (xs[i]'(by rw[hxl];exact hi)):=λi hi=>List.getElem?_eq_getElem _;have h0:=(hf 0 _ rfl).trans (get 0 Aa);have h1:=(hf 1 _ rfl).trans (get 1 Aa);obtain⟨b,hb,-⟩:=DataW.trod_bool underlying4 h0;obtain⟨t,ht⟩:=tree_of _ _ _ h1;have ht':Rep (λ_=>True) W (Jb t) ((cs.drop 1).take (prog.cellsOf 36)):=ht;have hb':(cs.drop 0).take (prog.cellsOf 4)=[.bool b]:=hb;refine⟨⟨b,t⟩,?_⟩;have e:cs=[.bool b]++(cs.drop 1).take (prog.cellsOf 36):=by
    rw[<-hb',cs4,cs36]
    match cs,hcl' with
    | [_,_,_,_,_],_=>rfl
  rw[e];exact Rep.side_mk (s:=⟨b,t⟩) ht'
end
def nq(q:Bool)(c:UInt8):Bool:=if c=34 then !q else q
def RI(q:Bool)(c:UInt8)(l:Str):Str:=if nq q c=true\/(c≠32/\c≠10) then c::l else l
def Mp:Bool->Str->Str
  | _,[]=>[]
  | q,[c]=>RI q c []
  | q,c::d::r=>if q=true/\c=92 then c::d::Mp q r else RI q c (Mp (nq q c) (d::r))
def Bal(a b:Str):Prop:=∀r,Mp false (a++r)=b++Mp false r
def Inq(a:Str):Prop:=∀r,Mp true (a++r)=a++Mp true r
theorem P9{q:Bool}{c:UInt8}{r:Str}(h:¬(q=true/\c=92)):Mp q (c::r)=RI q c (Mp (nq q c) r):=by
  cases r with
  | nil=>rw[Mp,Mp]
  | cons d r=>rw[Mp,if_neg h]
theorem Bal.nil:Bal [] []:=λ_=>rfl
theorem Bal.app{a b a' b':Str}(h:Bal a a')(k:Bal b b'):Bal (a++b) (a'++b'):=λr=>by rw[sQ,h,k,sQ]
theorem Inq.nil:Inq []:=λ_=>rfl
theorem Inq.app{a b:Str}(h:Inq a)(k:Inq b):Inq (a++b):=λr=>by rw[sQ,h,k,sQ]
theorem Bal.byte{c:UInt8}(h1:c≠34)(h2:c≠32)(h3:c≠10):Bal [c] [c]:=λr=>by
  show Mp false (c::r)=c::Mp false r;rw[P9 La,RI,nq,if_neg h1,if_pos (.inr ⟨h2,h3⟩)]
theorem Bal.bytes:∀{a:Str},(∀c∈a,c≠34/\c≠32/\c≠10)->Bal a a
  | [],_=>Bal.nil
  | c :: a, h => by
    have h1:=h c La;exact (Bal.byte h1.1 h1.2.1 h1.2.2).app (Bal.bytes λd hd=>h d (by simp[hd]))
theorem Inq.byte{c:UInt8}(h1:c≠34)(h2:c≠92):Inq [c]:=λr=>by
  show Mp true (c::r)=c::Mp true r;rw[P9 (λh=>h2 h.2),RI,nq,if_neg h1,if_pos (.inl rfl)]
theorem Inq.bytes:∀{a:Str},(∀c∈a,c≠34/\c≠92)->Inq a
  | [],_=>Inq.nil
  | c :: a, h => by
    have h1:=h c La;exact (Inq.byte h1.1 h1.2).app (Inq.bytes λd hd=>h d (by simp[hd]))
theorem U1{r:Int}(h:128<=r):∀x∈Lib.encodeRuneZ r,128<=x:=by
  intro x hx;by_cases h1:r<=2047
  ·rw[Lib.encodeRuneZ_two h h1]at hx;simp at hx;omega
  by_cases h2:(2048<=r/\r<55296)\/(57343<r/\r<=65535)
  ·rw[Lib.encodeRuneZ_three h2]at hx;simp at hx;omega
  by_cases h3:65536<=r/\r<=1114111
  ·rw[Lib.encodeRuneZ_four h3.1 h3.2]at hx;simp at hx;omega
  rw[Lib.encodeRuneZ_bad Aa]at hx;simp at hx;omega
theorem LG{r:Int}(h:¬Ce r≠0):r≠34/\r≠92/\r≠10:=by
  have h':Ce r=0:=Classical.not_not.1 h;refine⟨?_,?_,?_⟩ <;> (rintro rfl;revert h';decide)
theorem JH{r:Nat}(h:32<=r)(hl:¬Ce r≠0):∀c∈Vf r,c≠34/\c≠92/\c≠10:=by
  intro c hc;obtain⟨x,hx,rfl⟩:=nQ.1 hc;have hb:=Lib.encodeRuneZ_byte _ x hx;have hn:=LG hl;have key:x≠34/\x≠92/\x≠10:=by
    by_cases h1:(r:Int)<=127
    ·rw[Lib.encodeRuneZ_one Aa h1]at hx
     obtain rfl:=pQ.1 hx;exact hn
    have := U1 (by omega : (128 : Int) <= r) x hx;omega
  refine⟨λe=>key.1 ?_,λe=>key.2.1 ?_,λe=>key.2.2 ?_⟩ <;>
    (have e':=congrArg UInt8.toNat e;simp only[UInt8.toNat_ofNat']at e';first|(have:(34:UInt8).toNat=34:=rfl;omega)|(have:(92:UInt8).toNat=92:=rfl;omega)|(have:(10:UInt8).toNat=10:=rfl;omega))
theorem ZN:∀u:Nat,∀c∈Lib.decDigits u,Bi c=true:=λu=>by
  induction u using Nat.strongRecOn with
  | ind u ih =>
    intro c hc;rw[Lib.decDigits]at hc;split at hc
    ·rw[pQ.1 hc, Bi]
     simp only[UInt8.toNat_ofNat',Bool.and_eq_true,decide_eq_true_eq];omega
    rcases mQ.1 hc with hc|hc
    ·exact ih (u/10) Aa c hc
    rw[pQ.1 hc, Bi];simp only[UInt8.toNat_ofNat',Bool.and_eq_true,decide_eq_true_eq];omega
def numC(c:UInt8):Prop:=Bi c=true\/c=45\/c=101
theorem XX(x:Num):∀c∈Gi x,numC c:=by
  intro c hc;unfold Gi at hc;split at hc
  ·cases hc
  split at hc
  ·rw[pQ.1 hc];exact .inl Oa
  rename_i h1 h2
  have hd:∀c∈x.digits,Bi c=true:=by
    have h3:Fe x=true:=by simpa using h1
    unfold Fe at h3;simp only[Bool.or_eq_true,Bool.and_eq_true,decide_eq_true_eq]at h3;rcases h3 with h3|h3
    ·subst h3;exact absurd rfl h2
    have h4 : Sl x.digits = true := by simp_all
    unfold Sl at h4;rw[Bool.and_eq_true,List.all_eq_true]at h4;exact h4.1
  have hi:∀c∈Lib.itoa x.exp,numC c:=by
    intro c hc;unfold Lib.itoa at hc;split at hc
    ·rcases oQ.1 hc with rfl|hc
     ·exact .inr (.inl O)
     exact .inl (ZN _ c hc)
    exact .inl (ZN _ c hc)
  rcases mQ.1 hc with hc|hc
  ·split at hc
   ·rcases oQ.1 hc with rfl|hc
    ·exact .inr (.inl O)
    exact .inl (hd c hc)
   exact .inl (hd c hc)
  split at hc
  ·rcases oQ.1 hc with rfl|hc
   ·exact .inr (.inr O)
   exact hi c hc
  cases hc
theorem KF{t:Str}(h:Th t=true):∀c∈t,numC c:=by
  unfold Th at h;rw[Bool.and_eq_true,decide_eq_true_eq,decide_eq_true_eq]at h;rw[<-h.2];exact XX _
def escB(b:UInt8):Str:=if b.toNat<128 then Yl b.toNat else [b]
def Jo:Str->Str
  | []=>[]
  | b::s=>escB b++Jo s
theorem K7:∀a b:Str,Jo (a++b)=Jo a++Jo b
  | [],b=>rfl
  | x::a,b=>by rw[List.cons_append,Jo,Jo,K7 a b,sQ]
theorem DZ(r:Int):Lib.encodeRune r=Vf r:=rfl
theorem R_:∀{s:Str},(∀c∈s,128<=c.toNat)->Jo s=s
  | [],_=>rfl
  | c :: s, h => by
    have h1:=h c La;rw[Jo,escB,if_neg Aa,R_ λd hd=>h d (by simp[hd])];rfl
theorem esc_high{r:Nat}(h:128<=r):Yl r=Vf r:=by
  have h0:¬Ce (r:Int)≠0:=by
    unfold Ce
    repeat' split
    all_goals first|omega|simp
  rw[Yl,if_neg h0,if_pos Aa]
theorem YK{r:Nat}(h:128<=r):∀c∈Vf r,128<=c.toNat:=by
  intro c hc;obtain⟨x,hx,rfl⟩:=nQ.1 hc;have hb:=Lib.encodeRuneZ_byte _ x hx;have:=U1 (by omega:(128:Int)<=r) x hx;simp only[UInt8.toNat_ofNat'];omega
theorem SJ(r:Nat):Yl r=Jo (Vf r):=by
  by_cases h:r<128
  ·have e:Vf (r:Int)=[UInt8.ofNat r]:=by
     rw[Vf,Lib.encodeRuneZ_one Aa Aa];simp
   have e2:(UInt8.ofNat r).toNat=r:=by simp only[UInt8.toNat_ofNat'];omega
   rw[e,Jo,Jo,escB,e2,if_pos h,qQ]
  rw[esc_high Aa,R_ (YK Aa)]
theorem TJ(s:Str)(p:Nat):Lib.validD (s.drop p)=true->Pt s p=Jo (s.drop p):=by
  induction h:s.length-p using Nat.strongRecOn generalizing p with
  | ind n ih =>
    intro hv;by_cases hp:p<s.length
    ·have hne : s.drop p ≠ [] := by intro e;have := congrArg List.length e;simp at this;omega
     rw[Lib.validD_step _ hne]at hv;split at hv
     ·cases hv
     rename_i hok
     have he:=Lib.encode_decode (s.drop p) hne hok;rw[Hl]at he hv;have h2:=Uf s p;rw[List.drop_drop]at hv;rw[Ep hp,ih (s.length-(p+(Utf8.decode (bs s) p).2)) Aa _ rfl hv,SJ,<-DZ,he,<-List.drop_drop,<-K7,List.take_append_drop]
    rw[M0 hp,List.drop_eq_nil_of_le Aa];rfl
theorem Wu{s:Str}(h:Lib.validD s=true):Cj s=[34]++(Jo s++[34]):=by
  rw[Cj,TJ s 0 (by simpa using h),List.drop_zero,sQ]
theorem Zy{s:Str}(h:Lib.validD s=true):∃r,qS s=34::r:=by
  rw[qS,if_pos h,Wu h];exact⟨_,O⟩
def Ends(r:Str):Prop:=∀c s,r=c::s->c=44\/c=93\/c=125
theorem Ends.nil:Ends []:=λc s h=>by cases h
theorem W2{k:Int}{t:Str}{ks:List Str}{xs:List Tree}(h:rnodeB (.node k t ks xs)=true) :
    (k=1/\t=[]/\ks=[]/\xs=[])\/(k=2/\(t=[116,114,117,101]\/t=[102,97,108,115,101])/\ks=[]/\xs=[])\/(k=3/\Th t=true/\ks=[]/\xs=[]) \/
    (k=4/\Lib.validD t=true/\ks=[]/\xs=[])\/(k=5/\t=[]/\ks=[])\/(k=6/\t=[]/\ks.Nodup/\(∀x∈ks,Lib.validD x=true)/\ks.length=xs.length):=by
  unfold rnodeB at h;rw[Bool.and_eq_true,decide_eq_true_eq]at h;obtain⟨h7,h⟩:=h;have h7':k≠7:=h7;simp only[nodeB]at h;by_cases h5:k=5
  ·rw[if_pos h5]at h
   simp at h;exact .inr (.inr (.inr (.inr (.inl ⟨h5,h.2,h.1⟩))))
  rw[if_neg h5]at h;by_cases h6:k=6
  ·rw[if_pos h6]at h
   simp[So]at h;exact .inr (.inr (.inr (.inr (.inr ⟨h6,h.2,h.1.1.1,h.1.1.2,by omega⟩))))
  rw[if_neg h6]at h;by_cases hh:ks≠[]\/xs≠[]
  ·rw[if_pos hh]at h;cases h
  rw[if_neg hh]at h;have hk:ks=[]:=Classical.byContradiction λhc=>hh (.inl hc);have hx:xs=[]:=Classical.byContradiction λhc=>hh (.inr hc);by_cases h1:k=1
  ·rw[if_pos h1]at h
   simp at h;exact .inl ⟨h1,h,hk,hx⟩
  rw[if_neg h1]at h;by_cases h2:k=2
  ·rw[if_pos h2]at h
   simp at h;exact .inr (.inl ⟨h2,h,hk,hx⟩)
  rw[if_neg h2]at h;by_cases h3:k=3
  ·rw[if_pos h3]at h
   exact .inr (.inr (.inl ⟨h3,h,hk,hx⟩))
  rw[if_neg h3]at h;by_cases h4:k=4
  ·rw[if_pos h4]at h
   exact .inr (.inr (.inr (.inl ⟨h4,h,hk,hx⟩)))
  rw[if_neg h4,if_neg h7']at h;cases h
open Go.RowKit
def Xe(s:Sd):Tree:=.node 5 [] [] (if s.has then [s.val] else [])
def Gt(s:Sd)(k:Int):Bool:=!s.has || (Ye s.val&&(decide (k≠5) || decide (s.val.kind=5)))
def Fu(c:Cf):Bool:=Gt c.b c.cls&&(Gt c.l c.cls&&(Gt c.r c.cls&&(decide (1<=c.cls)&&decide (c.cls<=6))))
def Qx(x y:Tree):Tree × Tree:=if If y x<0 then (y,x) else (x,y)
def JW(k:Int):Tree:=.node 3 (Gi (Q8 k)) [] []
def M8(c:Cf):Tree:=.node 5 [] [] [JW c.cls,Xe c.b,(Qx (Xe c.l) (Xe c.r)).1,(Qx (Xe c.l) (Xe c.r)).2]
def Ek(c:Cf):Str × Bool:=if Fu c=true then (Bt (Wd (M8 c)),decide (Ou (Wd (M8 c))=0)) else ([],false)
theorem B5(xs:List Tree):sortT (.node 5 [] [] xs)=.node 5 [] [] (xs.map sortT):=by
  rw[sortT];simp[Yg]
theorem GT(s:Sd):sortT (Xe s)=.node 5 [] [] (if s.has then [sortT s.val] else []):=by
  unfold Xe;rw[B5];split <;> rfl
theorem Zr(a b:Str):At a b=decide (a<b):=Go.Proofs.bytesLess_eq a b
structure Mm where
  pr:Str
  sd:Sd
def P2(v:Tree):Bool:=decide (v.kind=0)&&(decide (v.text=[])&&(decide (v.keys=[])&&decide (v.items=[])))
def In(m:Mm):Bool:=Lib.validD m.pr&&(Gt m.sd 0&&(m.sd.has || P2 m.sd.val))
def Er(t:List Mm)(i:Nat):Bool:=match t[i]? with
  | none=>true
  | some m => In m&&(match i with
    | 0=>true
    | j + 1 => match t[j]? with
      | none=>true
      | some q=>At q.pr m.pr)
def Bh(t:List Mm):Bool:=(List.range t.length).all (Er t)&&decide (t.length<=256)
def Yu(s:Sd):Sd:=if s.has then ⟨true,s.val⟩ else noS
def Lg(t:List Mm)(p:Str):Nat:=(t.takeWhile λm=>At m.pr p).length
def U8(t:List Mm)(p:Str):Bool:=match t[Lg t p]? with|some m=>decide (m.pr=p)|none=>false
def Kh(t:List Mm)(c:Cf):Nat × Bool:=if (Ek c).2&&Bh t then (Lg t (Ek c).1,U8 t (Ek c).1) else (0,false)
def Tj(t:List Mm)(c:Cf)(s:Sd):List Mm × Int :=
  if Bh t&&((Ek c).2&&(Gt s c.cls && !(decide (c.cls=5) && !s.has))) then
    let p:=(Ek c).1
    let k:=Lg t p
    if U8 t p then (t.take k++⟨p,Yu s⟩::t.drop (k+1),0) else if t.length=256 then ([],11) else (t.take k++⟨p,Yu s⟩::t.drop k,0)
  else ([],1)
def Jj(t:List Mm)(c:Cf):Sd × Bool:=if (Kh t c).2 then (match t[(Kh t c).1]? with|some m=>m.sd|none=>noS,true) else (noS,false)
def Asc(t:List Mm):Prop:=t.Pairwise λa b=>a.pr<b.pr
theorem E0{a b c:Str}(h1:a<b)(h2:b<c):a<c:=List.lt_trans h1 h2
theorem OC{a:Str}:¬a<a:=List.lt_irrefl a
theorem FP{a b:Str}(h1:¬a<b)(h2:¬b<a):a=b:=List.le_antisymm (List.not_lt.1 h2) (List.not_lt.1 h1)
theorem BV:∀(t:List Mm),(∀i,Er t i=true)->Asc t/\∀m∈t,In m=true
  | [],_=>⟨List.Pairwise.nil,λ_ h=>(by cases h)⟩
  | m :: t, h => by
    have hm:In m=true:=by have:=h 0;simp only[Er,List.getElem?_cons_zero,Bool.and_true]at this;exact this
    have ht:∀i,Er t i=true:=λi=>by
      have h1:=h (i+1);unfold Er at h1 ⊢;rw[List.getElem?_cons_succ]at h1;cases hi:t[i]? with
      | none=>rfl
      | some q =>
        rw[hi]at h1;simp only[Bool.and_eq_true]at h1 ⊢;refine⟨h1.1,?_⟩;cases i with
        | zero=>rfl
        | succ j=>simpa using h1.2
    obtain⟨h1,h2⟩:=BV t ht;refine⟨List.pairwise_cons.2 ⟨λq hq=>?_,h1⟩,λq hq=>?_⟩
    ·cases t with
     | nil=>cases hq
     | cons y t =>
       have hy:m.pr<y.pr:=by
         have:=h 1;simp only[Er,List.getElem?_cons_succ,List.getElem?_cons_zero,Bool.and_eq_true,Zr,decide_eq_true_eq]at this;exact this.2
       rcases oQ.1 hq with rfl|hq
       ·exact hy
       exact E0 hy ((List.pairwise_cons.1 h1).1 q hq)
    rcases oQ.1 hq with rfl|hq
    ·exact hm
    exact h2 q hq
theorem asc_to{t:List Mm}(h:Asc t)(hm:∀m∈t,In m=true):∀i,Er t i=true:=λi=>by
  unfold Er;cases hi:t[i]? with
  | none=>rfl
  | some m =>
    obtain⟨hlt,rfl⟩:=List.getElem?_eq_some_iff.1 hi;simp only[Bool.and_eq_true];refine⟨hm _ (eQ hlt),?_⟩;cases i with
    | zero=>rfl
    | succ j =>
      simp only;rw[List.getElem?_eq_getElem Aa];simp only[Zr,decide_eq_true_eq];exact List.pairwise_iff_getElem.1 h j (j+1) Aa hlt Aa
theorem Lp{t:List Mm}:Bh t=true↔Asc t/\(∀m∈t,In m=true)/\t.length<=256:=by
  unfold Bh;rw[Bool.and_eq_true,List.all_eq_true,decide_eq_true_eq];constructor
  ·rintro⟨h, hl⟩
   have:=BV t λi=>by
     rcases Nat.lt_or_ge i t.length with hi|hi
     ·exact h i (List.mem_range.2 hi)
     unfold Er;rw[List.getElem?_eq_none hi]
   exact⟨this.1,this.2,hl⟩
  rintro⟨h1, h2, h3⟩;exact⟨λi _=>asc_to h1 h2 i,h3⟩
theorem has_c(x:Tv)(w0:World):Calls prog 161 #[.agg (x.cells).toArray] w0 (Oc λv w'=>v=.agg #[.bool true,J (x.k),I (x.t),.slice x.A x.n x.c,.slice x.B x.m x.e]/\Same [] w0 w'):=by
 refine Ea func161 O ntmps161 Bb (Tb _) ?_;have hF:=FR.start w0 [];refine Da (Df hF O ?_);rintro b1 w hb1 hF -;refine Gc (cs:=#[.bool false,J 0,I [],aQ,aQ]) hF tX O ?_;rintro b2 w hb2 hF -;refine Ob (Yb (Ig aZ oZ O hF.F 1 O O) ?_);refine Ia (w':=w) (v:=.agg #[.bool true,J (x.k),I (x.t),.slice x.A x.n x.c,.slice x.B x.m x.e]) Ib (Ke hF pZ O O Oi ?_);rintro w hF -;refine Ca (Xa (Va (Ka (Ni O (l:=[.bool true,J (x.k),I (x.t),.slice x.A x.n x.c,.slice x.B x.m x.e]) O bZ pZ O (hF.cellsAll 0 O)) ?_)));exact⟨O,hF.same⟩
structure SdOk (s:Sd):Prop where
  sz:Db s.val<=1000000000
  ok:Wp s.val
theorem E8(s:Sd)(x:Sv)(S:Nat->Prop)(w0:World)(hX:Rep S w0 (Se s) x.cells)(hs:SdOk s)(hG:Gl w0):Calls prog 221 #[.agg x.cells.toArray] w0 (Oc λv w'=>∃y:Sv,v=.agg y.cells.toArray/\Rep (Btw w0 w') w' (Se (Zj s)) y.cells/\Same [] w0 w'):=by
 have hx:=Ze hX;refine Ea func221 O ntmps221 Bb (Tb _) ?_;have hF:=FR.start w0 [];refine Da (Df hF O ?_);rintro b1 w hb1 hF -;refine Gc (cs:=#[.bool false,J 0,I [],aQ,aQ]) hF tX O ?_;rintro b2 w hb2 hF -;refine Ca (Fa (Da (Ba (Rb Sk O) (Yb (OE cZ O hF.F 1 O O) (Ba (Wi O) (Ca ?_))))));refine He O O (λhc0=>?_) (λhc0=>?_);have h0:s.has=false:=by rw[<-hx.1];simpa using hc0
 refine Da (Ia (w':=w) (v:=.agg #[.bool false,J 0,I [],aQ,aQ]) Ib ?_);refine Ke hF pZ O O Oi ?_;rintro w hF -;refine Ca (Xa (Va (Ka (Ni O (l:=[.bool false,J 0,I [],aQ,aQ]) O bZ pZ O (hF.cellsAll 0 O)) ?_)));have e:Zj s=noS:=by rw[Zj,if_neg (by rw[h0];decide)]
 rw[e];exact⟨⟨false,O_⟩,O,Ho,hF.same⟩;have h0:s.has=true:=by rw[<-hx.1];simpa using hc0
 refine Na (Ga (Da (Ba (Rb Ih O) (Ia (v:=.agg (x.v.cells).toArray) (Za (l:=x.v.cells) aZ oZ O O (hF.part 1 1 O O)) ?_))));refine Ta (RP s.val hs.sz _ _ x.v.cells (hF.rep hx.2.2.2.2) hs.ok (hG.ext hF.same)) (Ma en_93 O O) ?_;rintro _ w ⟨ct,rfl,hRt,hE⟩;obtain⟨q,rfl,-⟩:=Wh hRt;have hYX:=RX.made (ids:=[b2,b1]) hF.same.size (λx hx=>hF.lt_ids (by grind)) hRt;have hF:=hF.ext hE;clear hE hRt;refine Ta (has_c q _) (Ma en_161 O O) ?_;rintro _ w ⟨rfl,hE⟩;have hF:=hF.ext hE;have hYX:=hYX.ext hE;refine Ke hF pZ O O Oi ?_;intro w hF hE;have hYX:=hYX.store hE (by grind);refine Ca (Xa (Va (Ka (Ni O (l:=[.bool true,J (q.k),I (q.t),.slice q.A q.n q.c,.slice q.B q.m q.e]) O bZ pZ O (hF.cellsAll 0 O)) ?_)));have e:Zj s=⟨true,Vt s.val⟩:=by rw[Zj,if_pos h0]
 rw[e]
 ·exact⟨⟨true,q⟩,O,S5 (s:=⟨true,Vt s.val⟩) hYX.done,hF.same⟩
def Z4(l:MapL)(k:Str)(v:Value):MapL:=match l.findIdx? (λx=>decide (x.1=k))with
  | some i=>l.set i (k,v)
  | none=>l++[(k,v)]
theorem D4{l:MapL}{k:Str}{i:Nat}(h:l.findIdx? (λx=>decide (x.1=k))=some i):∃hi:i<l.length,l[i].1=k:=by
  obtain⟨hi,h1,-⟩:=List.findIdx?_eq_some_iff_getElem.1 h;exact⟨hi,by simpa using h1⟩
theorem Yk(x:Str × Value)(l:MapL)(k:Str):Mf (x::l) k=if x.1=k then some x.2 else Mf l k:=by
  unfold Mf;rw[List.find?_cons];by_cases h:x.1=k <;> simp[h]
theorem J_(v:Value)(k k':Str):∀l:MapL,Mf (Z4 l k v) k'=if k=k' then some v else Mf l k'
  | [] => by
    have e:Z4 [] k v=[(k,v)]:=rfl;rw[e,Yk]
  | x :: l => by
    have ih:=J_ v k k' l;unfold Z4 at ih ⊢;rw[List.findIdx?_cons];by_cases h:x.1=k
    ·simp only[h, decide_true, if_true, List.set_cons_zero]
     rw[Yk,Yk];by_cases h2:k=k'
     ·rw[if_pos h2,if_pos h2]
     rw[if_neg h2,if_neg h2,if_neg (λe=>h2 (h▸e))]
    simp only[h, decide_false, Bool.false_eq_true, if_false];cases hf:l.findIdx? (λx=>decide (x.1=k))with
    | none =>
      rw[hf]at ih;simp only[Option.map_none,List.cons_append]at ih ⊢;rw[Yk,ih,Yk];by_cases h2:x.1=k'
      ·rw[if_pos h2,if_neg (λe=>h (h2.trans e.symm)),if_pos h2]
      rw[if_neg h2,if_neg h2]
    | some i =>
      rw[hf]at ih;simp only[Option.map_some,List.set_cons_succ]at ih ⊢;rw[Yk,ih,Yk];by_cases h2:x.1=k'
      ·rw[if_pos h2,if_neg (λe=>h (h2.trans e.symm)),if_pos h2]
      rw[if_neg h2,if_neg h2]
section
variable {P:Program}{R:Exit->Act->World->Prop}{n:Nat}{k:Kt}{s:Nat->Value}{w:World}{ops rest:List Oper}
variable {d:Nat}{ty:TypeId}{pos:String}{aft:Array Edge}{g:Option (Nat × Bool)}
variable {w0:World}{Ds:List Nat}{bs_:List (Nat × Obj)}{ρ:Operand->Value}{dst:Option Nat}
theorem WF(l:MapL){i:Nat}{v:Value}{key:Str}(hi:i<l.length) :
    ((Dc l 0).toArray.modify i λe=>{ e with key:=I key,val:=v })=(Dc (l.set i (key,v)) 0).toArray:=by
  apply Array.ext
  ·simp[Dh]
  intro q h1 h2;have hq:q<l.length:=by simpa[Dh]using h1
  have hq2:q<(l.set i (key,v)).length:=by rw[List.length_set];exact hq
  have e1:=Nu l 0 q hq;have e2:=Nu (l.set i (key,v)) 0 q hq2;rw[Array.getElem_modify];simp only[List.getElem_toArray,e1,e2];by_cases e:i=q
  ·subst e
   rw[if_pos rfl];simp
  rw[if_neg e];simp[List.getElem_set_ne e]
theorem US{t kt e b:Nat}{x y z:Operand}{l:MapL}{key:Str}{v:Value}(ht:P.underlying t=some (.map kt e))(hk:P.underlying kt=some .string)
    (hx:ρ x=.map (some b)) (hy:ρ y=I key) (hv:ρ z=v) (hb:w.heap[b]? = some (Ee l)) :
    (execOp ρ ⟨dst,.mapUpdate t x y z,ty,pos,aft,g⟩).run P w=.ok .skip { w with heap:=w.heap.setIfInBounds b (Ee (Z4 l key v)) }:=by
  unfold Z4;cases hf:l.findIdx? (λx=>decide (x.1=key))with
  | none =>
    have hn:Mf l key=none:=by rw[<-Xv,hf];rfl
    exact K2 ht hk hx hy hv hb hn
  | some i =>
    obtain⟨hi,hik⟩:=D4 hf;have hfk:(l.findIdx? (λy=>decide (y.1=key))).bind (λj=>(l[j]?).map λy=>(j,y.2))=some (i,l[i].2):=by
      rw[hf];simp[hi]
    have hs:=H7 (P:=P) (o:=Ee (l.set i (key,v))) hb ⟨_,_,rfl⟩;have ho:Ee (l.set i (key,v))=.map ((Dc l 0).toArray.modify i λe=>{ e with key:=I key,val:=v }) l.length:=by
      rw[WF l hi,Ee];simp
    rw[ho]at hs ⊢;have hes:(((Dc l 0).toArray[i]?).map (·.key)).getD (I key)=I key:=by
      have e1:=Nu l 0 i hi;rw[List.getElem?_toArray,List.getElem?_eq_getElem (by rw[Dh];exact hi),e1];show Value.string (bs l[i].1)=_;rw[hik]
    have hkt:(Instr.keyThatStays (I key) (I key)).run P w=.ok (I key) w:=by
      simp[Instr.keyThatStays,Instr.sameBits,SQ]
    simp only[execOp,Instr.mapUpdate,hx,hy,hv,Sem.run_bind,run_underlying ht,Qp hb,Bo hk,Cq hk,Result.andThen,hfk,hes,hkt,hs];rfl
theorem MR(i:Nat){t kt e b:Nat}{x y z:Operand}{l:MapL}{key:Str}{v:Value}(hF:FR w0 Ds bs_ w)(ht:P.underlying t=some (.map kt e))(hk:P.underlying kt=some .string)
    (hx:ev n s x=.map (some b)) (hy:ev n s y=I key) (hv:ev n s z=v) (hi:bs_[i]? = some (b,Ee l))
    (h:∀w',FR w0 Ds (bs_.set i (b,Ee (Z4 l key v))) w'->Same [b] w w'->Og P R n ops k rest s w')
    (hw:Ya ops n s ⟨none,.mapUpdate t x y z,ty,pos,aft,g⟩=true:=by rfl):Og P R n ops k (⟨none,.mapUpdate t x y z,ty,pos,aft,g⟩::rest) s w :=
  S7 (US ht hk hx hy hv (hF.heap hi)) (h _ (hF.setObj i hi) (Zt w b _)) hw
end
structure Nodes where
  lab:Nat->Str
  lf:Nat->Nat
  le:∀x,lf x<=x
section
variable {a b:Nodes}{i k j l:Nat}
end
def lfOk(fs:List Int)(n:Nat):Prop:=∀j (h:j<fs.length),j<n->0<=fs[j]/\fs[j]<=(j:Int)/\∀i (hi:i<j),fs[j]<=(i:Int)->fs[j]<=fs[i]' Aa
def lfN(fs:List Int)(x:Nat):Nat:=min (fs.getD x 0).toNat x
theorem lfOk.at{fs:List Int}{n j:Nat}(h:lfOk fs n)(hj:j<fs.length)(hn:j<n):((lfN fs j:Nat):Int)=fs[j]:=by
  obtain⟨h1,h2,-⟩:=h j hj hn;have e:fs.getD j 0=fs[j]:=by simp[List.getD,hj]
  rw[lfN,e];omega
inductive Rts (fs:List Int):Nat->List Nat->Prop
  | nil:Rts fs 0 []
  | snoc {r:Nat} {l:List Nat}:Rts fs (lfN fs r) l->Rts fs (r+1) (l++[r])
theorem Rts.none{fs:List Int}{p:Nat}(h:Rts fs p []):p=0:=by
  generalize e:([]:List Nat)=m at h;cases h with
  | nil=>rfl
  | snoc h1=>simp at e
theorem Rts.len{fs:List Int}{p:Nat}{l:List Nat}(h:Rts fs p l):l.length<=p:=by
  induction h with
  | nil=>simp
  | snoc h1 ih =>
    rename_i r l
    have:lfN fs r<=r:=Nat.min_le_right _ _;simp only[dQ,kQ,List.length_nil];omega
theorem lfOk.snoc{fs:List Int}{j:Nat}(h:lfOk fs j)(hj:j<fs.length)(h0:0<=fs[j])(h1:fs[j]<=(j:Int))(hc:∀z (hz:z<j),fs[j]<=(z:Int)->fs[j]<=fs[z]' Aa):lfOk fs (j+1):=by
  intro i hi hn;by_cases e:i=j
  ·subst e
   exact⟨h0,h1,λz hz hle=>hc z hz hle⟩
  exact h i hi Aa
section
variable {ls gs ks:List Str}{fs hs is:List Int}
end
section
variable {ls gs:List Str}{fs hs:List Int}{r:Str}
end
theorem rows_eq{α:Type}{a b:List α}{j:Nat}(h:∀i (h:i<a.length) (h2:i<b.length),i<j->a[i]=b[i])(hl:a.length=b.length)(hj:a.length<=j):a=b:=List.ext_getElem hl λi h1 h2=>h i h1 h2 Aa
theorem ES{α:Type}{a b:List α}{j:Nat}{h1:j<a.length}{h2:j<b.length}(hq:∀i (h:i<a.length) (h2:i<b.length),i<j->a[i]=b[i])(h:a[j]=b[j]):∀i (h:i<a.length) (h2:i<b.length),i<j+1->a[i]=b[i]:=λi h3 h4 h5=>by
  by_cases e:i=j
  ·subst e;exact h
  exact hq i h3 h4 Aa
theorem ints_c(S S':Nat->Prop)(w0:World)(a b:List Int)(A B:Option Addr)(c e:Nat)(hX:Rep S w0 (.slice (a.map Ai)) [.slice A a.length c])(hY:Rep S' w0 (.slice (b.map Ai)) [.slice B b.length e]):Calls prog 33 #[.slice A a.length c,.slice B b.length e] w0 (Oc λv w'=>v=.bool (decide (a=b))/\Same [] w0 w'):=by
 have hXl:=hX.slice_len;have hYl:=hY.slice_len;rw[rQ]at hXl hYl;refine Ea func33 O ntmps33 Bb (Nc _ _) ?_;have hF:=FR.start w0 [];refine Da (Ba (Kb O) (Ca (Fa (Da (Ba (Qe O) (Ba (Qg lX O) (Ba (Qe O) (Ba (Qg lX O) (Ba (Sn O O) (Eb ?_))))))))));refine Ga (Lb O O (λhc0=>?_) (λhc0=>?_));refine Da (Ba (Kb O) (Ca ?_));refine Lc (v:=.bool false) O O ?_;exact⟨congrArg Value.bool (decide_eq_false λq=>by subst q;omega).symm,hF.same⟩;refine Na (Ga (Fa (Da (Ba (Gb O) (Ca (Sa ?_))))));have hll:a.length=b.length:=by omega
 refine Rc (λμ σ w=>∃(j:Nat),μ=a.length-j/\(j<=a.length)/\(∀i (h:i<a.length) (h2:i<b.length),i<j->a[i]=b[i])/\AllEq σ [(0,.slice A a.length c),(1,.slice B b.length e),(5,J ((j:Int)))]/\FR w0 [] [] w) _ ⟨0,O,Aa,(λi _ _ h=>by omega),Tu,hF⟩ ?_;rintro μ σ w ⟨j,rfl,hj,hq,hs,hF⟩;refine Cg.slots hs ?_;clear hs;intro σ;refine Fa (Da (Ba (Cb O) (Ba (Qe O) (Ba (Qg lX O) (Ba (Dl O O) (Ca ?_))))));refine Lb O O (λhc1=>?_) (λhc1=>?_);refine Na (Ga (Fa (Sa (Fa ?_))));refine Be (zs:=.of []) (bQ [0,1,2,3,4,5,6,7,8] .nil) hF ?_;intro w hF;refine Hb O (Qe O) (Hb O (Cb O) ?_);obtain⟨ad0,hA0,hk0,hx0⟩:=hX.int_elem (i:=j) Aa;refine Ab O (v:=.pointer (some (ad0.add (j*1)))) (λw hC=>Ra (i:=(j:Int)) H_ O hA0 O Aa Aa) (Ab O (v:=J (a[j])) (λw hC=>Yc xQ O (hC.cell0 hk0)) (Hb O (Qe O) (Hb O (Cb O) ?_)));obtain⟨ad1,hA1,hk1,hx1⟩:=hY.int_elem (i:=j) Aa;refine Ab O (v:=.pointer (some (ad1.add (j*1)))) (λw hC=>Ra (i:=(j:Int)) H_ O hA1 O Aa Aa) (Ab O (v:=J (b[j])) (λw hC=>Yc xQ O (hC.cell0 hk1)) (Hb O (Sn O O) (d_nil (Ga ?_))));refine Lb O O (λhc2=>?_) (λhc2=>?_);refine Da (Ba (Kb O) (Ca ?_));refine Lc (v:=.bool false) O O ?_;exact⟨congrArg Value.bool (decide_eq_false λq=>by subst q;exact absurd rfl (by assumption)).symm,hF.same⟩;refine Na (Wa (Ga (Ja (Ba (Cb O) (Ba (Un (((j+1:Nat):Int)) O O) (Ba (Gb O) (Eb ?_)))))));refine Qb ⟨_,?_,j+1,O,Aa,(ES hq (Classical.not_not.1 (by assumption))),Tu,hF⟩;omega;refine Ic (Ec O ?_);refine Ga (Da (Ba (Kb O) (Ca ?_)));refine Lc (v:=.bool true) O O ?_;exact⟨congrArg Value.bool (decide_eq_true (rows_eq hq hll Aa)).symm,hF.same⟩
theorem JV(k:Int)(t:Str)(hk:-9223372036854775808<=k/\k<=9223372036854775807)(ht:t.length<=9223372036854775807)(w:World):Rep (λ_=>True) w (Jb (.node k t [] [])) [J k,I t,aQ,aQ]:=Rep.tree_mk (ks:=[]) (xs:=[]) hk ht (Rep.nil_slice 0 Aa none) (Rep.nil_slice 0 Aa none)
theorem DM{x:Tree}(h:Ye x=true):Vt x=x:=by rw[Vt,if_pos (Cs h)]
section
variable {P:Program}{w0 w:World}{Ds:List Nat}{pre post sb:List (Nat × Obj)}
end
section
variable {P:Program}{R:Exit->Act->World->Prop}{n:Nat}{kt:Kt}{s:Nat->Value}{w:World}{ops rest:List Oper}
variable {d:Nat}{ty:TypeId}{pos:String}{aft:Array Edge}{g:Option (Nat × Bool)}
variable {w0:World}{Ds:List Nat}{sb:List (Nat × Obj)}
end
end Go.Scarf
