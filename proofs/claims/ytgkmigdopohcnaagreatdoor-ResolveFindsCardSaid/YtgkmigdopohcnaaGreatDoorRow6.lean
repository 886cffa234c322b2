/- A part of the proof. -/
import Derived.Test.YtgkmigdopohcnaaGreatDoorP3
import Derived.Lib.BufferRead
import Derived.Lib.ItoaMem
import Derived.Sort.Walk0
set_option linter.all false
set_option maxHeartbeats 8000000
set_option maxRecDepth 10000
namespace Go.Scarf
open Go.RowKit Go.Proofs Go.Proofs.Tryz
set_option maxRecDepth 100000
section
variable {H:Type}{enc:TypeId × Value->H}{W:World}{base:Nat}{sp:Nat->Bool}{held:Bool}
open Go.ChangeShapes Go.WideShapes Go.ChangeAt Go.Lib Go.Shelf
theorem cs27:prog.cellsOf 27=5:=by kernel_rfl
theorem cs29:prog.cellsOf 29=17:=by kernel_rfl
theorem cs4:prog.cellsOf 4=1:=by kernel_rfl
theorem Hv{fuel:Nat}{cs:List Value}{x:DataW H × List MemPlace}(h:DataW.trod enc prog W base sp held fuel 27 cs=some x):∃q:Sd,Rep (λ_=>True) W (Od q) cs:=by
  obtain⟨xs,n,rfl,-,hcl,hxl,hf⟩:=DataW.trod_struct underlying27 h;have hcl':cs.length=5:=hcl.trans cs27;have get:∀(i:Nat)(hi:i<2),xs[i]? = some (xs[i]'(by rw[hxl];exact hi)):=λi hi=>List.getElem?_eq_getElem _;have h0:=(hf 0 _ rfl).trans (get 0 Ba);have h1:=(hf 1 _ rfl).trans (get 1 Ba);obtain⟨b,hb,-⟩:=DataW.trod_bool cX h0;obtain⟨t,ht⟩:=NY _ _ _ h1;have ht':Rep (λ_=>True) W (Hb t) ((cs.drop 1).take (prog.cellsOf 25)):=ht;have hb':(cs.drop 0).take (prog.cellsOf 4)=[.bool b]:=hb;refine⟨⟨b,t⟩,?_⟩;have e:cs=[.bool b]++(cs.drop 1).take (prog.cellsOf 25):=by
    rw[<-hb',cs4,cs25]
    match cs,hcl' with
    | [_,_,_,_,_],_=>rfl
  rw[e];exact Rep.side_mk (s:=⟨b,t⟩) ht'
theorem cf_of{fuel:Nat}{cs:List Value}{x:DataW H × List MemPlace}(h:DataW.trod enc prog W base sp held fuel 29 cs=some x):∃q:Cf,Rep (λ_=>True) W (D5 q) cs:=by
  obtain⟨xs,n,rfl,-,hcl,hxl,hf⟩:=DataW.trod_struct underlying29 h;have hcl':cs.length=17:=hcl.trans cs29;have get:∀(i:Nat)(hi:i<5),xs[i]? = some (xs[i]'(by rw[hxl];exact hi)):=λi hi=>List.getElem?_eq_getElem _;have h0:=(hf 0 _ rfl).trans (get 0 Ba);have h1:=(hf 1 _ rfl).trans (get 1 Ba);have h2:=(hf 2 _ rfl).trans (get 2 Ba);have h3:=(hf 3 _ rfl).trans (get 3 Ba);have h4:=(hf 4 _ rfl).trans (get 4 Ba);obtain⟨a,ha⟩:=Iv (g:=Hl) xZ cs9 (λn _ cs x h=>Uz h) h0;obtain⟨k,hk⟩:=JJ h1;obtain⟨b,hb⟩:=Hv h2;obtain⟨l,hl⟩:=Hv h3;obtain⟨r,hr⟩:=Hv h4;refine⟨⟨a,k,b,l,r⟩,?_⟩;have e:cs=(cs.drop 0).take (prog.cellsOf 22)++((cs.drop 1).take (prog.cellsOf 3)++((cs.drop 2).take (prog.cellsOf 27)++((cs.drop 7).take (prog.cellsOf 27)++((cs.drop 12).take (prog.cellsOf 27)++[])))):=by
    rw[show prog.cellsOf 22=1 by kernel_rfl,cs3,cs27]
    match cs,hcl' with
    | [_,_,_,_,_,_,_,_,_,_,_,_,_,_,_,_,_],_=>rfl
  rw[e];unfold D5;exact Rep.agg_mk (RepL.cons_mk ha (RepL.cons_mk hk (RepL.cons_mk hb (RepL.cons_mk hl (RepL.cons_mk hr RepL.nil_mk)))))
theorem PI{r:Reach}{b0:Nat}{v:Value}{d:DataW H}{q:List MemPlace}(hv:Value.okWide prog W r b0 29 v)(h:DataW.Trod enc prog W base sp held 29 v d q) :
    ∃(x:Cf)(cs:List Value),v=.agg cs.toArray/\Rep (λ_=>True) W (D5 x) cs:=by
  obtain⟨cs,rfl,-⟩:=okWide_struct underlying29 hv;obtain⟨fuel,hf⟩:=h;obtain⟨t,ht⟩:=cf_of hf;exact⟨t,cs.toList,O,ht⟩
theorem EM{r:Reach}{b0:Nat}{v:Value}{d:DataW H}{q:List MemPlace}(hv:Value.okWide prog W r b0 27 v)(h:DataW.Trod enc prog W base sp held 27 v d q) :
    ∃(x:Sd)(cs:List Value),v=.agg cs.toArray/\Rep (λ_=>True) W (Od x) cs:=by
  obtain⟨cs,rfl,-⟩:=okWide_struct underlying27 hv;obtain⟨fuel,hf⟩:=h;obtain⟨t,ht⟩:=Hv hf;exact⟨t,cs.toList,O,ht⟩
theorem ZY:prog.readableRec 29=true:=by kernel_rfl
theorem DZ:29<prog.types.size:=of_decide_eq_true Ib
theorem rec27:prog.readableRec 27=true:=by kernel_rfl
theorem row27:27<prog.types.size:=of_decide_eq_true Ib
end
def nq(q:Bool)(c:UInt8):Bool:=if c=34 then !q else q
def ZC(q:Bool)(c:UInt8)(l:Str):Str:=if nq q c=true\/(c≠32/\c≠10) then c::l else l
def Ln:Bool->Str->Str
  | _,[]=>[]
  | q,[c]=>ZC q c []
  | q,c::d::r=>if q=true/\c=92 then c::d::Ln q r else ZC q c (Ln (nq q c) (d::r))
def Bal(a b:Str):Prop:=∀r,Ln false (a++r)=b++Ln false r
def Inq(a:Str):Prop:=∀r,Ln true (a++r)=a++Ln true r
theorem P7{q:Bool}{c:UInt8}{r:Str}(h:¬(q=true/\c=92)):Ln q (c::r)=ZC q c (Ln (nq q c) r):=by
  cases r with
  | nil=>rw[Ln,Ln]
  | cons d r=>rw[Ln,if_neg h]
theorem Bal.nil:Bal [] []:=λ_=>rfl
theorem Bal.app{a b a' b':Str}(h:Bal a a')(k:Bal b b'):Bal (a++b) (a'++b'):=λr=>by rw[sQ,h,k,sQ]
theorem Inq.nil:Inq []:=λ_=>rfl
theorem Inq.app{a b:Str}(h:Inq a)(k:Inq b):Inq (a++b):=λr=>by rw[sQ,h,k,sQ]
theorem Bal.byte{c:UInt8}(h1:c≠34)(h2:c≠32)(h3:c≠10):Bal [c] [c]:=λr=>by
  show Ln false (c::r)=c::Ln false r;rw[P7 La,ZC,nq,if_neg h1,if_pos (.inr ⟨h2,h3⟩)]
theorem Bal.bytes:∀{a:Str},(∀c∈a,c≠34/\c≠32/\c≠10)->Bal a a
  | [],_=>Bal.nil
  | c :: a, h => by
    have h1:=h c La;exact (Bal.byte h1.1 h1.2.1 h1.2.2).app (Bal.bytes λd hd=>h d (by simp[hd]))
theorem Inq.byte{c:UInt8}(h1:c≠34)(h2:c≠92):Inq [c]:=λr=>by
  show Ln true (c::r)=c::Ln true r;rw[P7 (λh=>h2 h.2),ZC,nq,if_neg h1,if_pos (.inl rfl)]
theorem Inq.bytes:∀{a:Str},(∀c∈a,c≠34/\c≠92)->Inq a
  | [],_=>Inq.nil
  | c :: a, h => by
    have h1:=h c La;exact (Inq.byte h1.1 h1.2).app (Inq.bytes λd hd=>h d (by simp[hd]))
theorem QD{r:Int}(h:128<=r):∀x∈Lib.encodeRuneZ r,128<=x:=by
  intro x hx;by_cases h1:r<=2047
  ·rw[Lib.encodeRuneZ_two h h1]at hx;simp at hx;omega
  by_cases h2:(2048<=r/\r<55296)\/(57343<r/\r<=65535)
  ·rw[Lib.encodeRuneZ_three h2]at hx;simp at hx;omega
  by_cases h3:65536<=r/\r<=1114111
  ·rw[Lib.encodeRuneZ_four h3.1 h3.2]at hx;simp at hx;omega
  rw[Lib.encodeRuneZ_bad Ba]at hx;simp at hx;omega
theorem WK:∀u:Nat,∀c∈Lib.decDigits u,Hi c=true:=λu=>by
  induction u using Nat.strongRecOn with
  | ind u ih =>
    intro c hc;rw[Lib.decDigits]at hc;split at hc
    ·rw[pQ.1 hc, Hi]
     simp only[UInt8.toNat_ofNat',Bool.and_eq_true,decide_eq_true_eq];omega
    rcases mQ.1 hc with hc|hc
    ·exact ih (u/10) Ba c hc
    rw[pQ.1 hc, Hi];simp only[UInt8.toNat_ofNat',Bool.and_eq_true,decide_eq_true_eq];omega
def RY(c:UInt8):Prop:=Hi c=true\/c=45\/c=101
theorem AR(x:Num):∀c∈Qh x,RY c:=by
  intro c hc;unfold Qh at hc;split at hc
  ·cases hc
  split at hc
  ·rw[pQ.1 hc];exact .inl Ta
  rename_i h1 h2
  have hd:∀c∈x.digits,Hi c=true:=by
    have h3:Ie x=true:=by simpa using h1
    unfold Ie at h3;simp only[Bool.or_eq_true,Bool.and_eq_true,decide_eq_true_eq]at h3;rcases h3 with h3|h3
    ·subst h3;exact absurd rfl h2
    have h4 : Lr x.digits = true := by simp_all
    unfold Lr at h4;rw[Bool.and_eq_true,List.all_eq_true]at h4;exact h4.1
  have hi:∀c∈Lib.itoa x.exp,RY c:=by
    intro c hc;unfold Lib.itoa at hc;split at hc
    ·rcases oQ.1 hc with rfl|hc
     ·exact .inr (.inl O)
     exact .inl (WK _ c hc)
    exact .inl (WK _ c hc)
  rcases mQ.1 hc with hc|hc
  ·split at hc
   ·rcases oQ.1 hc with rfl|hc
    ·exact .inr (.inl O)
    exact .inl (hd c hc)
   exact .inl (hd c hc)
  split at hc
  ·rcases oQ.1 hc with rfl|hc
   ·exact .inr (.inr O)
   exact hi c hc
  cases hc
theorem MD{t:Str}(h:Xk t=true):∀c∈t,RY c:=by
  unfold Xk at h;rw[Bool.and_eq_true,decide_eq_true_eq,decide_eq_true_eq]at h;rw[<-h.2];exact AR _
def escB(b:UInt8):Str:=if b.toNat<128 then Do b.toNat else [b]
def St:Str->Str
  | []=>[]
  | b::s=>escB b++St s
theorem E4:∀a b:Str,St (a++b)=St a++St b
  | [],b=>rfl
  | x::a,b=>by rw[List.cons_append,St,St,E4 a b,sQ]
theorem NQ(r:Int):Lib.encodeRune r=Uf r:=rfl
theorem J7:∀{s:Str},(∀c∈s,128<=c.toNat)->St s=s
  | [],_=>rfl
  | c :: s, h => by
    have h1:=h c La;rw[St,escB,if_neg Ba,J7 λd hd=>h d (by simp[hd])];rfl
theorem RU{r:Nat}(h:128<=r):Do r=Uf r:=by
  have h0:¬Pe (r:Int)≠0:=by
    unfold Pe
    repeat' split
    all_goals first|omega|simp
  rw[Do,if_neg h0,if_pos Ba]
theorem QF{r:Nat}(h:128<=r):∀c∈Uf r,128<=c.toNat:=by
  intro c hc;obtain⟨x,hx,rfl⟩:=nQ.1 hc;have hb:=Lib.encodeRuneZ_byte _ x hx;have:=QD (by omega:(128:Int)<=r) x hx;simp only[UInt8.toNat_ofNat'];omega
theorem SC(r:Nat):Do r=St (Uf r):=by
  by_cases h:r<128
  ·have e:Uf (r:Int)=[UInt8.ofNat r]:=by
     rw[Uf,Lib.encodeRuneZ_one Ba Ba];simp
   have e2:(UInt8.ofNat r).toNat=r:=by simp only[UInt8.toNat_ofNat'];omega
   rw[e,St,St,escB,e2,if_pos h,qQ]
  rw[RU Ba,J7 (QF Ba)]
theorem KD(s:Str)(p:Nat):Lib.validD (s.drop p)=true->Rs s p=St (s.drop p):=by
  induction h:s.length-p using Nat.strongRecOn generalizing p with
  | ind n ih =>
    intro hv;by_cases hp:p<s.length
    ·have hne : s.drop p ≠ [] := by intro e;have := congrArg List.length e;simp at this;omega
     rw[Lib.validD_step _ hne]at hv;split at hv
     ·cases hv
     rename_i hok
     have he:=Lib.encode_decode (s.drop p) hne hok;rw[Jk]at he hv;have h2:=Xf s p;rw[List.drop_drop]at hv;rw[Nn hp,ih (s.length-(p+(Utf8.decode (bs s) p).2)) Ba _ rfl hv,SC,<-NQ,he,<-List.drop_drop,<-E4,List.take_append_drop]
    rw[Xx hp,List.drop_eq_nil_of_le Ba];rfl
theorem IE{s:Str}(h:Lib.validD s=true):Us s=[34]++(St s++[34]):=by
  rw[Us,KD s 0 (by simpa using h),List.drop_zero,sQ]
def Ends(r:Str):Prop:=∀c s,r=c::s->c=44\/c=93\/c=125
theorem Ends.nil:Ends []:=λc s h=>by cases h
theorem NE{k:Int}{t:Str}{ks:List Str}{xs:List Tree}(h:rnodeB (.node k t ks xs)=true) :
    (k=1/\t=[]/\ks=[]/\xs=[])\/(k=2/\(t=[116,114,117,101]\/t=[102,97,108,115,101])/\ks=[]/\xs=[])\/(k=3/\Xk t=true/\ks=[]/\xs=[]) \/
    (k=4/\Lib.validD t=true/\ks=[]/\xs=[])\/(k=5/\t=[]/\ks=[])\/(k=6/\t=[]/\ks.Nodup/\(∀x∈ks,Lib.validD x=true)/\ks.length=xs.length):=by
  unfold rnodeB at h;rw[Bool.and_eq_true,decide_eq_true_eq]at h;obtain⟨h7,h⟩:=h;have h7':k≠7:=h7;simp only[nodeB]at h;by_cases h5:k=5
  ·rw[if_pos h5]at h
   simp at h;exact .inr (.inr (.inr (.inr (.inl ⟨h5,h.2,h.1⟩))))
  rw[if_neg h5]at h;by_cases h6:k=6
  ·rw[if_pos h6]at h
   simp[Qn]at h;exact .inr (.inr (.inr (.inr (.inr ⟨h6,h.2,h.1.1.1,h.1.1.2,by omega⟩))))
  rw[if_neg h6]at h;by_cases hh:ks≠[]\/xs≠[]
  ·rw[if_pos hh]at h;cases h
  rw[if_neg hh]at h;have hk:ks=[]:=Classical.byContradiction λhc=>hh (.inl hc);have hx:xs=[]:=Classical.byContradiction λhc=>hh (.inr hc);by_cases h1:k=1
  ·rw[if_pos h1]at h
   simp at h;exact .inl ⟨h1,h,hk,hx⟩
  rw[if_neg h1]at h;by_cases h2:k=2
  ·rw[if_pos h2]at h
   simp at h;exact .inr (.inl ⟨h2,h,hk,hx⟩)
  rw[if_neg h2]at h;by_cases h3:k=3
  ·rw[if_pos h3]at h
   exact .inr (.inr (.inl ⟨h3,h,hk,hx⟩))
  rw[if_neg h3]at h;by_cases h4:k=4
  ·rw[if_pos h4]at h
   exact .inr (.inr (.inr (.inl ⟨h4,h,hk,hx⟩)))
  rw[if_neg h4,if_neg h7']at h;cases h
theorem P8{x:Tree}(h:Gf x=true):Td rnodeB x=true:=by
  unfold Gf at h;rw[Bool.and_eq_true]at h;exact h.2
open Go.RowKit
def Qe(s:Sd):Tree:=.node 5 [] [] (if s.has then [s.val] else [])
def Im(s:Sd)(k:Int):Bool:=!s.has || (Gf s.val&&(decide (k≠5) || decide (s.val.kind=5)))
def Kq(c:Cf):Bool:=Im c.b c.cls&&(Im c.l c.cls&&(Im c.r c.cls&&(decide (1<=c.cls)&&decide (c.cls<=6))))
def Av(x y:Tree):Tree × Tree:=if Af y x<0 then (y,x) else (x,y)
def OL(k:Int):Tree:=.node 3 (Qh (M4 k)) [] []
def Gs(c:Cf):Tree:=.node 5 [] [] [OL c.cls,Qe c.b,(Av (Qe c.l) (Qe c.r)).1,(Av (Qe c.l) (Qe c.r)).2]
def Mf(c:Cf):Str × Bool:=if Kq c=true then (Am (Ae (Gs c)),decide (Lw (Ae (Gs c))=0)) else ([],false)
def RZ(c:Cf):Cf:=⟨[],c.cls,c.b,c.r,c.l⟩
theorem Cn(a b:Str):Ip a b=decide (a<b):=Go.Proofs.bytesLess_eq a b
structure Mm where
  pr:Str
  sd:Sd
def Hx(v:Tree):Bool:=decide (v.kind=0)&&(decide (v.text=[])&&(decide (v.keys=[])&&decide (v.items=[])))
def Gm(m:Mm):Bool:=Lib.validD m.pr&&(Im m.sd 0&&(m.sd.has || Hx m.sd.val))
def Dp(t:List Mm)(i:Nat):Bool:=match t[i]? with
  | none=>true
  | some m => Gm m&&(match i with
    | 0=>true
    | j + 1 => match t[j]? with
      | none=>true
      | some q=>Ip q.pr m.pr)
def Df(t:List Mm):Bool:=(List.range t.length).all (Dp t)&&decide (t.length<=256)
def Bg(s:Sd):Sd:=if s.has then ⟨true,s.val⟩ else noS
def Vd(t:List Mm)(p:Str):Nat:=(t.takeWhile λm=>Ip m.pr p).length
def Wq(t:List Mm)(p:Str):Bool:=match t[Vd t p]? with|some m=>decide (m.pr=p)|none=>false
def Be(t:List Mm)(c:Cf):Nat × Bool:=if (Mf c).2&&Df t then (Vd t (Mf c).1,Wq t (Mf c).1) else (0,false)
def Jd(t:List Mm)(c:Cf)(s:Sd):List Mm × Int :=
  if Df t&&((Mf c).2&&(Im s c.cls && !(decide (c.cls=5) && !s.has))) then
    let p:=(Mf c).1
    let k:=Vd t p
    if Wq t p then (t.take k++⟨p,Bg s⟩::t.drop (k+1),0) else if t.length=256 then ([],11) else (t.take k++⟨p,Bg s⟩::t.drop k,0)
  else ([],1)
def Kf(t:List Mm)(c:Cf):List Mm × Bool:=if Df t then (if (Be t c).2 then (t.take (Be t c).1++t.drop ((Be t c).1+1),true) else (t,false)) else ([],false)
def Zf(t:List Mm)(c:Cf):Sd × Bool:=if (Be t c).2 then (match t[(Be t c).1]? with|some m=>m.sd|none=>noS,true) else (noS,false)
def KF(t:List Mm):Prop:=t.Pairwise λa b=>a.pr<b.pr
theorem Zo{a b c:Str}(h1:a<b)(h2:b<c):a<c:=List.lt_trans h1 h2
theorem Xz{a:Str}:¬a<a:=List.lt_irrefl a
theorem X7{a b:Str}(h1:¬a<b)(h2:¬b<a):a=b:=List.le_antisymm (List.not_lt.1 h2) (List.not_lt.1 h1)
theorem WT:∀(t:List Mm),(∀i,Dp t i=true)->KF t/\∀m∈t,Gm m=true
  | [],_=>⟨List.Pairwise.nil,λ_ h=>(by cases h)⟩
  | m :: t, h => by
    have hm:Gm m=true:=by have:=h 0;simp only[Dp,List.getElem?_cons_zero,Bool.and_true]at this;exact this
    have ht:∀i,Dp t i=true:=λi=>by
      have h1:=h (i+1);unfold Dp at h1 ⊢;rw[List.getElem?_cons_succ]at h1;cases hi:t[i]? with
      | none=>rfl
      | some q =>
        rw[hi]at h1;simp only[Bool.and_eq_true]at h1 ⊢;refine⟨h1.1,?_⟩;cases i with
        | zero=>rfl
        | succ j=>simpa using h1.2
    obtain⟨h1,h2⟩:=WT t ht;refine⟨List.pairwise_cons.2 ⟨λq hq=>?_,h1⟩,λq hq=>?_⟩
    ·cases t with
     | nil=>cases hq
     | cons y t =>
       have hy:m.pr<y.pr:=by
         have:=h 1;simp only[Dp,List.getElem?_cons_succ,List.getElem?_cons_zero,Bool.and_eq_true,Cn,decide_eq_true_eq]at this;exact this.2
       rcases oQ.1 hq with rfl|hq
       ·exact hy
       exact Zo hy ((List.pairwise_cons.1 h1).1 q hq)
    rcases oQ.1 hq with rfl|hq
    ·exact hm
    exact h2 q hq
theorem asc_to{t:List Mm}(h:KF t)(hm:∀m∈t,Gm m=true):∀i,Dp t i=true:=λi=>by
  unfold Dp;cases hi:t[i]? with
  | none=>rfl
  | some m =>
    obtain⟨hlt,rfl⟩:=List.getElem?_eq_some_iff.1 hi;simp only[Bool.and_eq_true];refine⟨hm _ (eQ hlt),?_⟩;cases i with
    | zero=>rfl
    | succ j =>
      simp only;rw[List.getElem?_eq_getElem Ba];simp only[Cn,decide_eq_true_eq];exact List.pairwise_iff_getElem.1 h j (j+1) Ba hlt Ba
theorem Bi{t:List Mm}:Df t=true↔KF t/\(∀m∈t,Gm m=true)/\t.length<=256:=by
  unfold Df;rw[Bool.and_eq_true,List.all_eq_true,decide_eq_true_eq];constructor
  ·rintro⟨h, hl⟩
   have:=WT t λi=>by
     rcases Nat.lt_or_ge i t.length with hi|hi
     ·exact h i (List.mem_range.2 hi)
     unfold Dp;rw[List.getElem?_eq_none hi]
   exact⟨this.1,this.2,hl⟩
  rintro⟨h1, h2, h3⟩;exact⟨λi _=>asc_to h1 h2 i,h3⟩
theorem MJ{t:List Mm}(h:KF t)(p:Str):(∀m∈t.take (Vd t p),m.pr<p)/\(∀m∈t.drop (Vd t p),¬m.pr<p)/\Vd t p<=t.length:=by
  unfold Vd
  induction t with
  | nil=>exact⟨λ_ h=>(by cases h),λ_ h=>(by cases h),gQ _⟩
  | cons x t ih =>
    obtain⟨h1,h2⟩:=List.pairwise_cons.1 h;obtain⟨i1,i2,i3⟩:=ih h2;rw[List.takeWhile_cons];cases hx:Ip x.pr p with
    | true =>
      have hx':x.pr<p:=by rw[Cn,decide_eq_true_eq]at hx;exact hx
      simp only[if_true,kQ,List.take_succ_cons,List.drop_succ_cons];refine⟨λm hm=>?_,i2,by omega⟩;rcases oQ.1 hm with rfl|hm
      ·exact hx'
      exact i1 m hm
    | false =>
      have hx':¬x.pr<p:=by rw[Cn,decide_eq_false_iff_not]at hx;exact hx
      simp only[Bool.false_eq_true,if_false,List.length_nil,List.take_zero,List.drop_zero];refine⟨λ_ h=>(by cases h),λm hm hlt=>?_,Nat.zero_le _⟩;rcases oQ.1 hm with rfl|hm
      ·exact hx' hlt
      exact hx' (Zo (h1 m hm) hlt)
def Gg(t:List Mm)(p:Str):Option Mm:=t.find? λm=>decide (m.pr=p)
theorem Hy{t:List Mm}(h:KF t){p:Str}(hh:Wq t p=true):∃a m b,t=a++m::b/\a.length=Vd t p/\m.pr=p/\(∀q∈a,q.pr<p)/\∀q∈b,p<q.pr:=by
  unfold Wq at hh;obtain⟨c1,c2,c3⟩:=MJ h p;cases hk:t[Vd t p]? with
  | none=>rw[hk]at hh;cases hh
  | some m =>
    rw[hk]at hh;obtain⟨hlt,hg⟩:=List.getElem?_eq_some_iff.1 hk;have hp:m.pr=p:=of_decide_eq_true hh;refine⟨t.take (Vd t p),m,t.drop (Vd t p+1),?_,by rw[List.length_take];omega,hp,c1,λq hq=>?_⟩
    ·conv => lhs;rw[<- List.take_append_drop (Vd t p) t]
     rw[List.drop_eq_getElem_cons hlt,hg]
    have hd : t.drop (Vd t p) = m :: t.drop (Vd t p + 1) := by rw[List.drop_eq_getElem_cons hlt, hg]
    have:=List.Pairwise.sublist (List.drop_sublist (Vd t p) t) h;rw[hd]at this;have:=(List.pairwise_cons.1 this).1 q hq
    rwa [hp]at this
theorem J5{t:List Mm}(h:KF t){p:Str}(hh:Wq t p=false):(∀q∈t.take (Vd t p),q.pr<p)/\∀q∈t.drop (Vd t p),p<q.pr:=by
  unfold Wq at hh;obtain⟨c1,c2,c3⟩:=MJ h p;refine⟨c1,λq hq=>?_⟩;cases hk:t[Vd t p]? with
  | none =>
    rw[List.getElem?_eq_none_iff]at hk;rw[List.drop_eq_nil_of_le hk]at hq;cases hq
  | some m =>
    rw[hk]at hh;obtain⟨hlt,hg⟩:=List.getElem?_eq_some_iff.1 hk;have hp:¬m.pr=p:=of_decide_eq_false hh;have hd:t.drop (Vd t p)=m::t.drop (Vd t p+1):=by rw[List.drop_eq_getElem_cons hlt,hg]
    have hm:p<m.pr:=by
      have h1:=c2 m (by rw[hd];exact List.mem_cons_self);rcases Decidable.em (p<m.pr)with h2|h2
      ·exact h2
      exact absurd (X7 h1 h2) hp
    have:=List.Pairwise.sublist (List.drop_sublist (Vd t p) t) h;rw[hd]at this hq;rcases oQ.1 hq with rfl|hq
    ·exact hm
    exact Zo hm ((List.pairwise_cons.1 this).1 q hq)
theorem Et{l:List Mm}{p:Str}(h:∀q∈l,q.pr≠p):Gg l p=none:=by
  unfold Gg;rw[List.find?_eq_none];intro q hq;simpa using h q hq
theorem Sj(a b:List Mm)(p:Str):Gg (a++b) p=(Gg a p).or (Gg b p):=by unfold Gg;rw[List.find?_append]
theorem Nl(m:Mm)(b:List Mm)(p:Str):Gg (m::b) p=if m.pr=p then some m else Gg b p:=by
  unfold Gg;rw[List.find?_cons];split <;> simp_all
theorem Y0{a b:Str}(h:a<b):a≠b:=λe=>Xz (e▸h)
theorem QA{t:List Mm}(h:KF t)(p:Str):Wq t p=(Gg t p).isSome/\(Wq t p=true->t[Vd t p]? = Gg t p):=by
  cases hh:Wq t p with
  | true =>
    obtain⟨a,m,b,e,ha,hp,h1,h2⟩:=Hy h hh;have hl:Gg t p=some m:=by
      rw[e,Sj,Et λq hq=>Y0 (h1 q hq),Nl,if_pos hp];rfl
    rw[hl];refine⟨O,λ_=>?_⟩;rw[<-ha,e];simp
  | false =>
    obtain⟨h1,h2⟩:=J5 h hh;have hl:Gg t p=none:=Et λq hq=>by
      rw[<-List.take_append_drop (Vd t p) t]at hq;rcases mQ.1 hq with hq|hq
      ·exact Y0 (h1 q hq)
      exact λe=>Y0 (h2 q hq) e.symm
    rw[hl];exact⟨O,λh=>by cases h⟩
theorem EJ{a b:List Mm}{m:Mm}(h:KF (a++b))(h1:∀q∈a,q.pr<m.pr)(h2:∀q∈b,m.pr<q.pr):KF (a++m::b):=by
  obtain⟨ha,hb,hab⟩:=List.pairwise_append.1 h;refine List.pairwise_append.2 ⟨ha,List.pairwise_cons.2 ⟨h2,hb⟩,λx hx y hy=>?_⟩;rcases oQ.1 hy with rfl|hy
  ·exact h1 x hx
  exact hab x hx y hy
theorem NS{s:Sd}{k:Int}(h:Im s k=true):Im (Bg s) 0=true/\((Bg s).has || Hx (Bg s).val)=true:=by
  unfold Im at h;unfold Bg;cases hs:s.has with
  | true=>simp only[if_true];rw[hs]at h;simp only[Bool.not_true,Bool.false_or,Bool.and_eq_true]at h;exact⟨by unfold Im;simp[h.1],rfl⟩
  | false=>exact⟨rfl,rfl⟩
theorem XL{t:List Mm}{c:Cf}{s:Sd}(h:(Jd t c s).2=0)(hv:(Mf c).2=true->Lib.validD (Mf c).1=true) :
    Df t=true/\(Mf c).2=true/\Im s c.cls=true/\Df (Jd t c s).1=true/\Gg (Jd t c s).1 (Mf c).1=some ⟨(Mf c).1,Bg s⟩/\(∀p,p≠(Mf c).1->Gg (Jd t c s).1 p=Gg t p):=by
  unfold Jd at h ⊢;by_cases hc:(Df t&&((Mf c).2&&(Im s c.cls && !(decide (c.cls=5) && !s.has))))=true
  ·rw[if_pos hc]at h ⊢
   simp only[Bool.and_eq_true]at hc;obtain⟨hr,hp,hf,-⟩:=hc;obtain⟨r1,r2,r3⟩:=Bi.1 hr;have hm:Gm ⟨(Mf c).1,Bg s⟩=true:=by
     unfold Gm;simp only[Bool.and_eq_true];exact⟨hv hp,NS hf⟩
   refine⟨hr,hp,hf,?_⟩;by_cases hh:Wq t (Mf c).1=true
   ·rw[if_pos hh]at h ⊢
    obtain⟨a,m,b,e,ha,hmp,h1,h2⟩:=Hy r1 hh;have e1:t.take (Vd t (Mf c).1)=a:=by rw[<-ha,e];simp
    have e2:t.drop (Vd t (Mf c).1+1)=b:=by rw[<-ha,e];simp
    simp only;rw[e1,e2];have hab:KF (a++b):=by rw[e]at r1;exact r1.sublist ((List.Sublist.refl a).append (List.sublist_cons_self m b))
    refine⟨Bi.2 ⟨EJ hab h1 h2,λq hq=>?_,?_⟩,?_,λp hne=>?_⟩
    ·rcases mQ.1 hq with hq|hq
     ·exact r2 q (by rw[e];simp[hq])
     rcases oQ.1 hq with rfl|hq
     ·exact hm
     exact r2 q (by rw[e];simp[hq])
    ·rw[e]at r3;simpa using r3
    ·rw[Sj,Et λq hq=>Y0 (h1 q hq),Nl,if_pos rfl];rfl
    rw[e,Sj,Sj,Nl,Nl,if_neg (λe=>hne e.symm),if_neg (by rw[hmp];exact λe=>hne e.symm)]
   rw[if_neg hh]at h ⊢;by_cases hl:t.length=256
   ·rw[if_pos hl]at h;cases h
   rw[if_neg hl]at h ⊢;simp only;obtain⟨h1,h2⟩:=J5 r1 (by simpa using hh);refine⟨Bi.2 ⟨EJ (by rw[List.take_append_drop];exact r1) h1 h2,λq hq=>?_,?_⟩,?_,λp hne=>?_⟩
   ·rcases mQ.1 hq with hq|hq
    ·exact r2 q (List.mem_of_mem_take hq)
    rcases oQ.1 hq with rfl|hq
    ·exact hm
    exact r2 q (List.mem_of_mem_drop hq)
   ·simp only[dQ,kQ,List.length_take,List.length_drop];omega
   ·rw[Sj,Et λq hq=>Y0 (h1 q hq),Nl,if_pos rfl];rfl
   conv => rhs;rw[<- List.take_append_drop (Vd t (Mf c).1) t]
   rw[Sj,Sj,Nl,if_neg (λe=>hne e.symm)]
  rw[if_neg hc]at h;cases h
theorem Tp{t:List Mm}{c:Cf}(hr:Df t=true)(hp:(Mf c).2=true):Zf t c=(match Gg t (Mf c).1 with|some m=>(m.sd,true)|none=>(noS,false)):=by
  have h:=QA (Bi.1 hr).1 (Mf c).1;unfold Zf Be;rw[hp,hr];simp only[Bool.and_self,if_true];cases hl:Gg t (Mf c).1 with
  | none=>rw[hl]at h;rw[h.1];rfl
  | some m=>rw[hl]at h;have h1:=h.1;rw[h1,h.2 h1];rfl
theorem AM{t:List Mm}{c:Cf}(hr:Df t=true)(hp:(Mf c).2=true) :
    (Kf t c).2=(Gg t (Mf c).1).isSome/\Df (Kf t c).1=true/\Gg (Kf t c).1 (Mf c).1=none/\(∀p,p≠(Mf c).1->Gg (Kf t c).1 p=Gg t p):=by
  obtain⟨r1,r2,r3⟩:=Bi.1 hr;have h:=QA r1 (Mf c).1;unfold Kf Be;rw[hp,hr];simp only[Bool.and_self,if_true];by_cases hh:Wq t (Mf c).1=true
  ·rw[if_pos hh]
   obtain⟨a,m,b,e,ha,hmp,h1,h2⟩:=Hy r1 hh;have e1:t.take (Vd t (Mf c).1)=a:=by rw[<-ha,e];simp
   have e2:t.drop (Vd t (Mf c).1+1)=b:=by rw[<-ha,e];simp
   simp only;rw[e1,e2];have hab:KF (a++b):=by rw[e]at r1;exact r1.sublist ((List.Sublist.refl a).append (List.sublist_cons_self m b))
   refine⟨by rw[<-h.1,hh],Bi.2 ⟨hab,λq hq=>?_,?_⟩,?_,λp hne=>?_⟩
   ·rcases mQ.1 hq with hq|hq
    ·exact r2 q (by rw[e];simp[hq])
    exact r2 q (by rw[e];simp[hq])
   ·rw[e]at r3;simp only[dQ,kQ]at r3 ⊢;omega
   ·rw[Sj,Et λq hq=>Y0 (h1 q hq),Et λq hq e=>Y0 (h2 q hq) e.symm];rfl
   rw[e,Sj,Sj,Nl,if_neg (by rw[hmp];exact λe=>hne e.symm)]
  rw[if_neg hh];have hn:Gg t (Mf c).1=none:=by have:=h.1;rw[Bool.not_eq_true]at hh;rw[hh]at this;cases hl:Gg t (Mf c).1 with|none=>rfl|some m=>rw[hl]at this;cases this
  exact⟨by rw[hn];rfl,hr,hn,λ_ _=>rfl⟩
theorem IP(k:Int)(t:Str)(hk:-9223372036854775808<=k/\k<=9223372036854775807)(ht:t.length<=9223372036854775807)(w:World):Rep (λ_=>True) w (Hb (.node k t [] [])) [J k,I t,aQ,aQ]:=Rep.tree_mk (ks:=[]) (xs:=[]) hk ht (Rep.nil_slice 0 Ba none) (Rep.nil_slice 0 Ba none)
end Go.Scarf
