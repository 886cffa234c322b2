/- A part of the proof. -/
import Derived.Test.YtidlkjpohhbbcaaGreatDoorMore
import Derived.Laws.MakeOwn
set_option linter.all false
set_option maxHeartbeats 8000000
set_option maxRecDepth 10000
namespace Go.Scarf
open List renaming length->aL
open Go.RowKit
class EnF (P:Program) (f:FuncId):Prop where h:Fa P f
class AvF (n:Nat) (s:Nat->Value) (xs:List Operand) (vs:outParam (List Value)):Prop where h:xs.map (ev n s)=vs
class SuF (l l0:List (Nat × Obj)):Prop where h:l0.Sublist l
class CwF (w0:World) (Ds:List Nat) (bs:List (Nat × Obj)) (C:World->Prop):Prop where h:∀w,FR w0 Ds bs w->C w
class MmF (l:List Nat) (i:Nat) (b:outParam Bool):Prop where h:l.contains i=b
class LiF (z:Lt) (D:outParam (World->Prop)) (l ps:outParam (List Nat)):Prop where h:z=⟨l,D,ps⟩
class ZoF (P:Program) (t:TypeId) (cs:outParam (List Value)):Prop where h:∃z,(∀w,(zeroValue t).run P w=.ok z w)/\z.cells=cs.toArray
class AlF (P:Program) (n:Nat) (s:Nat->Value) (op:Op) (v:outParam (Nat->Value)) (o:outParam Obj):Prop where h:∀dst ty pos aft g w,(execOp (ev n s) ⟨dst,op,ty,pos,aft,g⟩).run P w=.ok (.value (v w.heap.size)) (w.alloc o)
section
variable {n i j:Nat}{s:Nat->Value}{x:Operand}{xs:List Operand}{v:Value}{vs:List Value}{p q:Nat × Obj}{l l0 m m0:List (Nat × Obj)}{b:Bool}{li:List Nat}
instance : AvF n s [] []:=⟨rfl⟩
instance [h:EvF n s x v] [k:AvF n s xs vs]:AvF n s (x::xs) (v::vs):=⟨by rw[lZ,h.h,k.h]⟩
instance (priority:=low) [h:SuF l l0]:SuF (p::l) l0:=⟨.cons _ h.h⟩
instance : SuF l []:=⟨List.nil_sublist _⟩
instance [h:SuF l l0]:SuF (p::l) (p::l0):=⟨.cons_cons _ h.h⟩
instance [h:SuF l l0]:SuF (m++l) (m++l0):=⟨h.h.append_left m⟩
instance (priority:=low) [h:SuF l l0]:SuF (m++l) l0:=⟨h.h.trans (List.sublist_append_right _ _)⟩
instance [h:SuF l l0] [k:SuF m m0]:SuF (l++m) (l0++m0):=⟨h.h.append k.h⟩
instance (priority:=low) [h:SuF l l0]:SuF (l++m) l0:=⟨h.h.trans (List.sublist_append_left _ _)⟩
instance : SuF l l:=⟨.refl _⟩
instance : MmF [] i false:=⟨rfl⟩
instance [h:Bq (Nat.beq i j) false] [k:MmF li i b]:MmF (j::li) i b:=⟨by rw[List.contains_cons,k.h];have:=Nat.ne_of_beq_eq_false h.h;simp[this]⟩
instance : MmF (i::li) i true:=⟨Da⟩
instance {D:World->Prop} {l ps:List Nat}:LiF ⟨l,D,ps⟩ D l ps:=⟨rfl⟩
end
section
variable {w0:World}{Ds:List Nat}{bs bs0:List (Nat × Obj)}
instance [k:SuF bs bs0]:CwF w0 Ds bs (λw=>FR w0 Ds bs0 w):=⟨λ_ h=>h.sub k.h⟩
instance : CwF w0 Ds bs (λ_=>True):=⟨λ_ _=>trivial⟩
instance {C1 C2:World->Prop} [h1:CwF w0 Ds bs C1] [h2:CwF w0 Ds bs C2]:CwF w0 Ds bs (λw=>C1 w/\C2 w):=⟨λw h=>⟨h1.h w h,h2.h w h⟩⟩
instance {b off i T:Nat} {vs:List Value} {v:Value} {fz:Nat × Nat} [hb:HsF bs b i (.cells vs.toArray T fz)] [hv:GlF vs off v]:CwF w0 Ds bs (λw=>w.cell? ⟨b,off,none⟩=some v):=⟨λ_ h=>h.cell i hb.h (aS hv.h)⟩
class PtF (l:List Value) (off m:Nat) (l':outParam (List Value)):Prop where
  h:(l.drop off).take m=l'
  l:aL l'=m
section
variable {a:Value}{l l':List Value}{off m:Nat}
instance : PtF l 0 0 []:=⟨rfl,rfl⟩
instance (priority:=low) {c d:List Value} [h:ApF c d l] [k:PtF l off m l']:PtF (c++d) off m l':=⟨by rw[h.h];exact k.h,k.l⟩
instance [h:PtF l 0 m l']:PtF (a::l) 0 (m+1) (a::l'):=⟨by have:=h.h;rw[List.drop_zero]at this ⊢;rw[List.take_succ_cons,this],by rw[kQ,h.l]⟩
instance [h:PtF l off m l']:PtF (a::l) (off+1) m l':=⟨h.h,h.l⟩
end
section
variable {P:Program}{n t m b off i T:Nat}{s:Nat->Value}{q:Operand}{w w0:World}{Ds:List Nat}{bs_:List (Nat × Obj)}{vs l:List Value}{fz:Nat × Nat}
theorem partF_c(hF:FR w0 Ds bs_ w)(hb:bs_[i]? = some (b,.cells vs.toArray T fz))(hl:PtF vs off m l):∀j (hj:j<aL l),w.cell? ((⟨b,off,none⟩:Addr).add j)=some l[j]:=λj hj=>by
  have e:(⟨b,off,none⟩:Addr).add j=⟨b,off+j,none⟩:=by unfold Addr.add;split <;> simp_all
  rw[e,Db (hF.heap hb)<|off+j];have h:((vs.drop off).take m)[j]? = some l[j]:=by rw[hl.h,List.getElem?_eq_getElem hj]
  rw[List.getElem?_take,uQ (by rw[<-hl.l];exact hj),List.getElem?_drop]at h;simpa using h
instance [hF:FR w0 Ds bs_ w] [ha:AgT P t] [hs:SzF P t m] [hx:EvF n s q (.pointer (some ⟨b,off,none⟩))] [hb:HsF bs_ b i (.cells vs.toArray T fz)] [hl:PtF vs off m l]:YW P n s w (.load t q) (.agg l.toArray):=⟨λ_ _ _ _ _ w' h=>by subst h;exact Ma ha.h hs.h hx.h hl.l (partF_c hF hb.h hl)⟩
end
end
section
variable {P:Program}{n:Nat}{s:Nat->Value}{x:Operand}{v:Value}{vs:List Value}{t:TypeId}
instance [h:EvF n s x v] [ho:OnF v]:AlF P n s (.box t x) (λb=>V b) (.cells #[v] t):=⟨λ_ _ _ _ _ _=>by rw[TR h.h,ho.h]⟩
instance [h:EvF n s x (.agg vs.toArray)]:AlF P n s (.box t x) (λb=>V b) (.cells vs.toArray t):=⟨λ_ _ _ _ _ _=>by rw[TR h.h];rfl⟩
instance [h:ZoF P t vs]:AlF P n s (.alloc t) (λb=>V b) (.cells vs.toArray t):=⟨λ_ _ _ _ _ _=>by
  obtain⟨z,h1,h2⟩:=h.h;rw[Ql h1,h2]⟩
end
def EI{P:Program}{f:FuncId}{n:Nat}{s:Nat->Value}{xs:List Operand}{vs:List Value}{ats:Array TypeId}{dst:Option Nat}{ty:TypeId}{pos:String}{aft:Array Edge}{g:Option (Nat × Bool)}{w:World}(hf:Fa P f)(h:xs.map (ev n s)=vs) :
    (execOp (ev n s) ⟨dst,.call ⟨.value (.func f),xs.toArray,ats⟩,ty,pos,aft,g⟩).run P w=.ok (.enter f vs.toArray) w:=by
  have e:xs.toArray.map (ev n s)=vs.toArray:=by rw[List.map_toArray,h]
  have h0:ev n s (.func f)=.func (.func f) #[] #[]:=rfl;simp[execOp,resolve,Deferred.ofValue,h0,e,invoke,hf vs.toArray w]
class FcF (C:World->Prop) (w0:outParam World) (Ds:outParam (List Nat)) (bs:outParam (List<|Nat × Obj)):Prop where h:∀w,C w->FR w0 Ds bs w
instance {w0:World} {Ds:List Nat} {bs:List (Nat × Obj)}:FcF (λw=>FR w0 Ds bs w) w0 Ds bs:=⟨λ_ h=>h⟩
instance {w0:World} {Ds:List Nat} {bs:List (Nat × Obj)} {G:World->Prop}:FcF (λw=>FR w0 Ds bs w/\G w) w0 Ds bs:=⟨λ_ h=>h.1⟩
section
variable {P:Program}{R:Exit->Act->World->Prop}{n:Nat}{k:Kt}{s:Nat->Value}{w w0:World}{ops rest:List Oper}{m d i:Nat}{op:Op}{ty t:TypeId}{pos:String}{aft:Array Edge}{g:Option (Nat × Bool)}{v:Value}{zs:Lt}{C D:World->Prop}{order:Ord}{B:Prop}
variable {f:FuncId}{xs:List Operand}{vs:List Value}{ats:Array TypeId}{Q:Value->World->Prop}{Ds:List Nat}{bs_ bs':List (Nat × Obj)}{li ps:List Nat}{vb:Nat->Value}{o:Obj}
def LiF.c(hl:LiF zs D li ps)(b:Bool)(hm:MmF li i b):zs.contains i=b:=by rw[hl.h];exact hm.h
def LiF.p(hl:LiF zs D li ps)(b:Bool)(hm:MmF ps i b):zs.ps.contains i=b:=by rw[hl.h];exact hm.h
def LiF.dd(hl:LiF zs D li ps):zs.D=D:=by rw[hl.h]
def Fc(hc:Calls P f vs.toArray w (Za Q))(h:∀v w',Q v w'->Og P R n ops k rest (Ic s d v) w')[hf:EnF P f][hg:GdF ops n s g true][ha:AvF n s xs vs]:Og P R n ops k (⟨some d,.call ⟨.value (.func f),xs.toArray,ats⟩,ty,pos,aft,g⟩::rest) s w :=
  Xb hc (EI hf.h ha.h) h (hg.h ..)
def Ia[hF:FR w0 Ds bs_ w](hc:Calls P f vs.toArray w (Za λv' w'=>v'=v/\Same [] w w'))(h:∀w',FR w0 Ds bs_ w'->Same [] w w'->Og P R n ops k rest (Ic s d v) w')[EnF P f][GdF ops n s g true][AvF n s xs vs]:Og P R n ops k (⟨some d,.call ⟨.value (.func f),xs.toArray,ats⟩,ty,pos,aft,g⟩::rest) s w :=
  Fc hc λ_ w' hq=>by rw[hq.1];exact h w' (hF.ext hq.2) hq.2
def Lk(hc:Calls P f vs.toArray w (Za Q))(h:∀v w',Q v w'->C w'/\Dg P R n ops k zs order C (Ic s d v) w')[h1:GlF ops i ⟨some d,.call ⟨.value (.func f),xs.toArray,ats⟩,ty,pos,aft,g⟩][hf:EnF P f][hg:GdF ops n s g true][ha:AvF n s xs vs][hl:LiF zs D li ps][hm:MmF li i false]:Dg P R n ops k zs (.act i order) C s w :=
  Nr h1.h hc (EI hf.h ha.h) h (hg.h ..) (hl.c _ hm)
def Rc[hF:FR w0 Ds bs_ w][hC:CwF w0 Ds bs_ C](hc:Calls P f vs.toArray w (Za λv' w'=>v'=v/\Same [] w w'))(h:∀w',FR w0 Ds bs_ w'->Same [] w w'->Dg P R n ops k zs order C (Ic s d v) w')[GlF ops i ⟨some d,.call ⟨.value (.func f),xs.toArray,ats⟩,ty,pos,aft,g⟩][EnF P f][GdF ops n s g true][AvF n s xs vs][LiF zs D li ps][MmF li i false]:Dg P R n ops k zs (.act i order) C s w :=
  Lk hc λ_ w' hq=>⟨hC.h _<|hF.ext hq.2,by rw[hq.1];exact h w' (hF.ext hq.2) hq.2⟩
instance [hF:FR w0 Ds bs_ w] [hg:GdF ops n s g true] [ha:AlF P n s op vb o]:Rn 1 (Og P R n ops k (⟨some d,op,ty,pos,aft,g⟩::rest) s w) (∀b w',b=w.heap.size->FR w0 Ds ((b,o)::bs_) w'->Same [] w w'->Og P R n ops k rest (Ic s d (vb b)) w'):=⟨λf=>Wr hF (ha.h ..) f (hg.h ..)⟩
instance [h1:GlF ops i ⟨some d,op,ty,pos,aft,g⟩] [hF:FR w0 Ds bs_ w] [hg:GdF ops n s g true] [ha:AlF P n s op vb o] [hl:LiF zs D li ps] [hm:MmF li i false] [hC:∀b,CwF w0 Ds ((b,o)::bs_) C]:Rn 1 (Dg P R n ops k zs (.act i order) C s w) (∀b w',b=w.heap.size->FR w0 Ds ((b,o)::bs_) w'->Same [] w w'->Dg P R n ops k zs order C (Ic s d (vb b)) w'):=⟨λf=>Y5 h1.h hF (ha.h ..) (λb w' h1 h2 h3=>⟨(hC b).h _ h2,f b w' h1 h2 h3⟩) (hg.h ..) (hl.c _ hm)⟩
instance [h1:GlF ops i ⟨some d,op,ty,pos,aft,g⟩] [hF:FR w0 Ds bs_ w] [hg:GdF ops n s g true] [hy:YF P n s op v] [hl:LiF zs D li ps] [hm:MmF li i false] [hC:CwF w0 Ds bs_ C] [h:Rn m (Dg P R n ops k zs order C (Ic s d v) w) B]:Rn (m+1) (Dg P R n ops k zs (.act i order) C s w) B:=⟨λb=>Ct h1.h (hy.h _ _ _ _ _ w) (hC.h _ hF) (h.r b) (hg.h ..) (hl.c _ hm)⟩
variable {q q':Operand}{b j off a T:Nat}{fz:Nat × Nat}{l l':List Value}{u:Value}{ii:Nat}
instance [h1:GlF ops i ⟨some d,.load t q,ty,pos,aft,g⟩] [hg:GdF ops n s g true] [hc:FcF C w0 Ds bs_] [ha:AgF P t] [hx:EvF n s q (.pointer (some ⟨b,off,none⟩))] [hb:HsF bs_ b j (.cells vs.toArray T fz)] [hv:GlF vs off v] [hl:LiF zs D li ps] [hm:MmF ps i false] [h:Rn m (Dg P R n ops k zs order C (Ic s d v) w) B]:Rn (m+1) (Dg P R n ops k zs (.free i order) C s w) B:=⟨λb=>f_Y h1.h (ylu ha.h hx.h hc.h j hb.h (aS hv.h)) (h.r b) (hg.h ..) (hl.p _ hm)⟩
instance [h1:GlF ops i ⟨some d,.load t q,ty,pos,aft,g⟩] [hg:GdF ops n s g true] [hc:FcF C w0 Ds bs_] [ha:AgT P t] [hs:SzF P t a] [hx:EvF n s q (V b)] [hb:HsF bs_ b j (.cells vs.toArray T fz)] [hv:LnF vs a] [hl:LiF zs D li ps] [hm:MmF ps i false] [h:Rn m (Dg P R n ops k zs order C (Ic s d (.agg vs.toArray)) w) B]:Rn (m+1) (Dg P R n ops k zs (.free i order) C s w) B:=⟨λb=>f_Y h1.h (ylg ha.h hs.h (hx:=hx.h) hc.h j (hb:=hb.h) (hm:=hv.h)) (h.r b) (hg.h ..) (hl.p _ hm)⟩
instance [h1:GlF ops i ⟨none,.store t q q',ty,pos,aft,g⟩] [hF:FR w0 Ds bs_ w] [hs:SzF P t 1] [hg:GdF ops n s g true] [hx:EvF n s q (.pointer (some ⟨b,off,none⟩))] [hy:EvF n s q' v] [ho:OnF v] [hb:HsF bs_ b j (.cells l.toArray T (0,0))] [hc:AtF l off u v l'] [hu:UbF bs_ b (.cells l'.toArray T (0,0)) ii (.cells l.toArray T (0,0)) bs'] [hl:LiF zs D li ps] [hm:MmF li i false] [hC:CwF w0 Ds bs' C]:Rn 1 (Dg P R n ops k zs (.act i order) C s w) (∀w',FR w0 Ds bs' w'->Same [b] w w'->Dg P R n ops k zs order C s w'):=⟨λf=>f_st v h1.h hF hs.h hx.h hy.h hu.h hc.h (λw' h1 h2=>⟨hC.h _ h1,f w' h1 h2⟩) ho.h ho.o (hg.h ..) (hl.c _ hm)⟩
instance [h1:GlF ops i ⟨none,.store t q q',ty,pos,aft,g⟩] [hF:FR w0 Ds bs_ w] [hs:SzF P t a] [hg:GdF ops n s g true] [hx:EvF n s q (V b)] [hy:EvF n s q' (.agg l'.toArray)] [hk:LnF l' a] [ho:OnL l'] [hb:HsF bs_ b j (.cells l.toArray T (0,0))] [hn:LnF l a] [hu:UbF bs_ b (.cells l'.toArray T (0,0)) ii (.cells l.toArray T (0,0)) bs'] [hl:LiF zs D li ps] [hm:MmF li i false] [hC:CwF w0 Ds bs' C]:Rn 1 (Dg P R n ops k zs (.act i order) C s w) (∀w',FR w0 Ds bs' w'->Same [b] w w'->Dg P R n ops k zs order C s w'):=⟨λf=>FZ h1.h hF hs.h hx.h hy.h hu.h (λw' h1 h2=>⟨hC.h _ h1,f w' h1 h2⟩) hk.h (by rw[hn.h,hk.h]) ho.h (hg.h ..) (hl.c _ hm)⟩
instance [h1:GlF ops i ⟨none,.store t q q',ty,pos,aft,g⟩] [hF:FR w0 Ds bs_ w] [hs:SzF P t 1] [hg:GdF ops n s g true] [hx:EvF n s q (.pointer (some ⟨b,off,none⟩))] [hy:EvF n s q' v] [ho:OnF v] [hb:HsF bs_ b j (.cells l.toArray T (0,0))] [hc:AtF l off u v l'] [hu:UbF bs_ b (.cells l'.toArray T (0,0)) ii (.cells l.toArray T (0,0)) bs'] [hl:LiF zs D li ps] [hm:MmF li i true] [hC:CwF w0 Ds bs' D]:Rn 1 (Dg P R n ops k zs (.act i order) C s w) (∀w',FR w0 Ds bs' w'->Same [b] w w'->Dg P R n ops k zs order D s w'):=⟨λf=>D_st v h1.h hF hs.h hx.h hy.h hu.h hc.h (λw' h1 h2=>by rw[hl.dd];exact⟨hC.h _ h1,f w' h1 h2⟩) ho.h ho.o (hg.h ..) (hl.c _ hm)⟩
instance [h1:GlF ops i ⟨none,.store t q q',ty,pos,aft,g⟩] [hF:FR w0 Ds bs_ w] [hs:SzF P t a] [hg:GdF ops n s g true] [hx:EvF n s q (V b)] [hy:EvF n s q' (.agg l'.toArray)] [hk:LnF l' a] [ho:OnL l'] [hb:HsF bs_ b j (.cells l.toArray T (0,0))] [hn:LnF l a] [hu:UbF bs_ b (.cells l'.toArray T (0,0)) ii (.cells l.toArray T (0,0)) bs'] [hl:LiF zs D li ps] [hm:MmF li i true] [hC:CwF w0 Ds bs' D]:Rn 1 (Dg P R n ops k zs (.act i order) C s w) (∀w',FR w0 Ds bs' w'->Same [b] w w'->Dg P R n ops k zs order D s w'):=⟨λf=>D_sg h1.h hF hs.h hx.h hy.h hu.h (λw' h1 h2=>by rw[hl.dd];exact⟨hC.h _ h1,f w' h1 h2⟩) hk.h (by rw[hn.h,hk.h]) ho.h (hg.h ..) (hl.c _ hm)⟩
end
def XU(c:List Value):∀(j:Nat)(pre mid:List Value),aL c<=aL mid->∀off,off+j=aL pre ->
    (c.zipIdx j).foldl (λcs (q:Value × Nat)=>cs.setIfInBounds (off+q.2) q.1) (pre++mid).toArray=(pre++(c++mid.drop (aL c))).toArray:=by
  induction c with
  | nil=>intro j pre mid _ off _;simp
  | cons a c ih =>
    intro j pre mid hl off ho;cases mid with
    | nil=>simp at hl
    | cons b mid =>
      have h:=ih (j+1) (pre++[a]) mid (aS hl) off qM;simp only[List.zipIdx_cons,List.foldl_cons,kQ,List.drop_succ_cons,sQ,List.singleton_append]at h ⊢;rw[show (pre++b::mid).toArray.setIfInBounds (off+j) a=(pre++a::mid).toArray by rw[ho];simp,h];simp
class ElC (n:Nat) (s:Nat->Value) (x:Operand) (m:Nat) (c:outParam (List Value)):Prop where
  h:(ev n s x).cells=c.toArray
  l:aL c=m
class BpF (n:Nat) (s:Nat->Value) (ps:List (Nat × Operand)) (k m:Nat) (cs:outParam (List Value)):Prop where
  l:aL cs=aL ps*m
  h:∀pre mid:List Value,aL pre=k*m->aL mid=aL ps*m->Instr.fill (λi=>some (i*m,m)) (pre++mid).toArray (ps.map λx=>(x.1,ev n s x.2))=some (pre++cs).toArray
section
variable {P:Program}{n m k len:Nat}{s:Nat->Value}{x:Operand}{v a:Value}{c d e vs:List Value}{ps:List (Nat × Operand)}{t T:TypeId}
instance [h:EvF n s x v] [ho:OnF v]:ElC n s x 1 [v]:=⟨by rw[h.h,ho.h],rfl⟩
instance [h:EvF n s x (.agg vs.toArray)] [hl:LnF vs m]:ElC n s x m vs:=⟨by rw[h.h];rfl,hl.h⟩
instance : BpF n s [] k m []:=⟨Da,λpre mid _ h=>by simp[Instr.fill,List.eq_nil_of_length_eq_zero (aS h)]⟩
instance [h:ElC n s x m c] [g:BpF n s ps (k+1) m d] [ha:ApF c d e]:BpF n s ((k,x)::ps) k m e:=⟨by rw[<-ha.h,dQ,h.l,g.l,kQ,Nat.succ_mul,Nat.add_comm],λpre mid hp hm=>by
  have hl:aL c<=aL mid:=by rw[h.l,hm,kQ,Nat.succ_mul];omega
  rw[lZ,Instr.fill];dsimp only;rw[h.h,tQ (by simp only[List.size_toArray,ne_eq,h.l,not_true,decide_false,Bool.false_or,xQ,dQ,hp];have:=h.l;omega)];rw[show (c.toArray.zipIdx.foldl (λcs (q:Value × Nat)=>cs.setIfInBounds (k*m+q.2) q.1) (pre++mid).toArray)=(pre++(c++mid.drop (aL c))).toArray by
    rw[<-Array.foldl_toList,Array.toList_zipIdx];exact XU c 0 pre mid hl _ (by rw[hp];rfl)]
  rw[<-sQ,g.h (pre++c) _ (by rw[dQ,hp,h.l,Nat.succ_mul]) (by rw[zQ,hm,h.l,kQ,Nat.succ_mul];omega),sQ,ha.h]⟩
instance [hu:UnS P t T] [hs:SzF P T m] [hz:ZvF P T k] [hn:LnF ps len] [h1:Bq (Nat.ble (len*m) 16777216) true] [h0:Bq (Nat.beq (len*m) 0) false] [h:BpF n s ps 0 m vs]:AlF P n s (.buildSlice t len ps.toArray) (λb=>W b len len) (.cells vs.toArray T):=⟨λ_ _ _ _ _ _=>by
  obtain⟨z,hz,-⟩:=hz.h;refine Md hu.h hs.h hz (eq_true (Nat.le_of_ble_eq_true h1.h)) (eq_false (Nat.ne_of_beq_eq_false h0.h)) ?_;have:=h.h [] (((Array.range (len*m)).map (z.cells[· % z.cells.size]!)).toList) Da (by simp[hn.h]);rw[nZ,nZ,Array.toArray_toList]at this;simpa using this⟩
end
def Y2(N:Nat)(f:Nat->Int):Array Value:=((List.range N).map λk=>Value.int .i64 (f k)).toArray
def BT{N k:Nat}{f:Nat->Int}(h:k<N):(Y2 N f)[k]? = some (J (f k)):=by simp[Y2,h]
def setF(f:Nat->Int)(k:Nat)(v:Int):Nat->Int:=λx=>if x=k then v else f x
theorem WL(N:Nat):(List.replicate N (Value.int .i64 0)).toArray=Y2 N λ_=>0:=by grind [Y2]
section
variable {w0 w w':World}{Ds:List Nat}{bs:List (Nat × Obj)}
structure Grid2 (w:World) (pb n m:Nat) (T1 T2:TypeId) (rb:Nat->Nat) (p:Nat->Nat->Int):Prop where
  top:w.heap[pb]? = some (.cells ((List.range n).map λi=>Value.slice (some ⟨rb i,0,none⟩) m m).toArray T1)
  row:∀i,i<n->w.heap[rb i]? = some (.cells (Y2 m (p i)) T2)
  inj:∀i j,i<n->j<n->rb i=rb j->i=j
  ne:∀i,i<n->rb i≠pb
variable {pb n m:Nat}{T1 T2:TypeId}{rb:Nat->Nat}{p:Nat->Nat->Int}
def Grid2.cell(h:Grid2 w pb n m T1 T2 rb p){i j:Nat}(hi:i<n)(hj:j<m):w.cell? ⟨rb i,j,none⟩=some (J (p i j)):=by rw[Db<|h.row i hi,BT hj]
def Grid2.keep(h:Grid2 w pb n m T1 T2 rb p){E:List Nat}(hs:Same E w w')(h1:pb∉E)(h2:∀i,i<n->rb i∉E):Grid2 w' pb n m T1 T2 rb p :=
  ⟨(hs.block _ (Pa h.top) h1).trans h.top,λi hi=>(hs.block _ (Pa<|h.row i hi)<|h2 i hi).trans (h.row i hi),h.inj,h.ne⟩
def Grid2.ext(h:Grid2 w pb n m T1 T2 rb p)(hs:Same [] w w'):Grid2 w' pb n m T1 T2 rb p:=h.keep hs Da Da
def set2(p:Nat->Nat->Int)(i j:Nat)(v:Int):Nat->Nat->Int:=λa=>if a=i then setF (p i) j v else p a
theorem Grid2.put(h:Grid2 w pb n m T1 T2 rb p){i j:Nat}{v:Int}(hi:i<n)(hs:Same [rb i] w w')(hn:w'.heap[rb i]? = some (.cells (Y2 m (setF (p i) j v)) T2)):Grid2 w' pb n m T1 T2 rb (set2 p i j v):=by
  refine⟨(hs.block _ (Pa h.top) (by simpa using λe=>h.ne i hi e.symm)).trans h.top,λa ha=>?_,h.inj,h.ne⟩;by_cases e:a=i
  ·grind [set2]
  have : w'.heap[rb a]? = w.heap[rb a]? := hs.block _ (Pa<|h.row a ha) (by simpa using λq => e (h.inj a i ha hi q));rw[this,h.row a ha,set2,tQ e]
end
section
variable {P:Program}{R:Exit->Act->World->Prop}{n:Nat}{k:Kt}{s:Nat->Value}{w:World}{ops rest:List Oper}
variable {ty:TypeId}{pos:String}{aft:Array Edge}{g:Option (Nat × Bool)}{w0:World}{Ds:List Nat}{bs:List (Nat × Obj)}
end
theorem made_one(z:Value)(n:Nat):madeCells #[z] n=(List.replicate n z).toArray:=by
  unfold madeCells;grind
section
variable {P:Program}{w:World}{ρ:Operand->Value}{dst:Option Nat}{ty:TypeId}{pos:String}{aft:Array Edge}{g:Option (Nat × Bool)}
theorem x_make1{t e bytes:Nat}{z:Value}{x y:Operand}{N:Nat}(hE:Elems P t e 1 bytes)(hz0:(P.info? e).map (·.zero)=some (some z))(hc:z.cells=#[z])(hx:ρ x=J (N:Int))(hy:ρ y=J (N:Int))(h:N<=1000000000)(hb:bytes<=32) :
    (execOp ρ ⟨dst,.makeSlice t x y,ty,pos,aft,g⟩).run P w=.ok (.value (.slice (some ⟨w.heap.size,0,none⟩) N N)) (w.alloc (.cells (List.replicate N z).toArray e)):=by
  obtain⟨i,z',hi,hz,hs,hby,-⟩:=hE.info;rw[hi]at hz0;have ez:i.zero=some z:=qK
  have hle:(i.bytes:Int)*(N:Int)<=281474976710656:=by
    rw[hby];have:bytes*N<=32*1000000000:=Nat.mul_le_mul hb h;grind
  have hr:=run_make (P:=P) w t e i z hE.ht hi ez .i64 .i64 N N Aa (Int.le_refl _) hle Aa;rw[hs,Nat.mul_one,hc,Int.toNat_natCast,made_one]at hr;simp[execOp,hx,hy,hr]
def x_makeI{t e:Nat}{x y:Operand}{N:Nat}(hE:Elems P t e 1 8)(hz0:(P.info? e).map (·.zero)=some (some (J 0)))(hx:ρ x=J (N:Int))(hy:ρ y=J (N:Int))(h:N<=1000000000) :
    (execOp ρ ⟨dst,.makeSlice t x y,ty,pos,aft,g⟩).run P w=.ok (.value (.slice (some ⟨w.heap.size,0,none⟩) N N)) (w.alloc (.cells (Y2 N λ_=>0) e)):=by
  rw[<-WL];exact x_make1 hE hz0 O hx hy h Ja
end
class ElF (P:Program) (t:TypeId) (e m bytes:outParam Nat):Prop where h:Elems P t e m bytes
class UsF (l sb:List (Nat × Obj)) (f:outParam (List (Nat × Obj)->List (Nat × Obj))):Prop where h:∃pre post,l=pre++(sb++post)/\∀z,f z=pre++(z++post)
section
variable {l sb x:List (Nat × Obj)}{f:List (Nat × Obj)->List (Nat × Obj)}{a:Nat × Obj}
instance (priority:=low) [h:UsF l sb f]:UsF (l++x) sb (λz=>f z++x):=⟨by
  obtain⟨p,q,rfl,hf⟩:=h.h;exact⟨p,q++x,Da,λz=>by simp[hf]⟩⟩
instance [h:UsF l sb f]:UsF (a::l) sb (λz=>a::f z):=⟨by
  obtain⟨p,q,rfl,hf⟩:=h.h;exact⟨a::p,q,Da,λz=>by simp[hf]⟩⟩
instance [h:UsF l sb f]:UsF (x++l) sb (λz=>x++f z):=⟨by
  obtain⟨p,q,rfl,hf⟩:=h.h;exact⟨x++p,q,Da,λz=>by simp[hf]⟩⟩
instance : UsF (sb++l) sb (λz=>z++l):=⟨[],l,Da,Da⟩
instance : UsF sb sb (λz=>z):=⟨[],[],Da,Da⟩
end
section
variable {P:Program}{R:Exit->Act->World->Prop}{n:Nat}{kt:Kt}{s:Nat->Value}{w w0:World}{ops rest:List Oper}{Ds:List Nat}{bs_ sb:List (Nat × Obj)}{bs':List (Nat × Obj)->List (Nat × Obj)}
variable {d i j T a:Nat}{ty:TypeId}{pos:String}{aft:Array Edge}{g:Option (Nat × Bool)}{zs:Lt}{C D:World->Prop}{order:Ord}{li ps:List Nat}
variable {x y:Operand}{t e m bytes b len c k c2 len':Nat}{A:Option Addr}{xs news ys:List Value}{fz:Nat × Nat}
def PK(hS:SlB e m A len c xs sb)(hlen:len+k=len')(hys:xs++news=ys)
    (h:∀A' c' sb' w',SlB e m A' len' c' ys sb'->FR w0 Ds (bs' sb') w'->Same (sb.map (·.1)) w w'->(∀p∈sb',p.1∈sb.map (·.1)\/w.heap.size<=p.1)->Og P R n ops kt rest (Ic s d (.slice A' len' c')) w')
    [hF:FR w0 Ds bs_ w] [hE:ElF P t e m bytes] [hg:GdF ops n s g true] [hx:EvF n s x (.slice A len c)] [hy:EvF n s y (W b k c2)] [hb:HsF bs_ b j (.cells news.toArray T fz)] [hl:LnF news a] [hk:Bq (Nat.beq a (k*m)) true] [h1:OnL news] [hu:UsF bs_ sb bs']
    (h63:len+k<=maxLen:=by simp only[maxLen];omega) (hbytes:(len+k)*bytes<=140737488355328:=by omega):Og P R n ops kt (⟨some d,.call ⟨.builtin .append,#[x,y],#[t,t]⟩,ty,pos,aft,g⟩::rest) s w:=by
  obtain⟨pre,post,e1,e2⟩:=hu.h;have hc:=Kc<|hF.cellsAll j hb.h;subst e1;refine Vk pre post hE.h hF hS hx.h hy.h (by rw[hl.h];exact Nat.eq_of_beq_eq_true hk.h) (λ_=>⟨_,O,hc⟩) (Ig<|List.all_eq_true.1 h1.h) h63 hlen hys hbytes (λA' c' sb' w' a1 a2 a3 a4=>h A' c' sb' w' a1 ?_ a3 a4)<|hg.h ..;rw[e2];exact a2
def Uv(hS:SlB e m A len c xs sb)(hlen:len+k=len')(hys:xs++news=ys)
    (h:∀A' c' sb' w',SlB e m A' len' c' ys sb'->FR w0 Ds (bs' sb') w'->Same (sb.map (·.1)) w w'->(∀p∈sb',p.1∈sb.map (·.1)\/w.heap.size<=p.1)->Dg P R n ops kt zs order C (Ic s d (.slice A' len' c')) w')
    [hF:FR w0 Ds bs_ w] [hE:ElF P t e m bytes] [hg:GdF ops n s g true] [hx:EvF n s x (.slice A len c)] [hy:EvF n s y (W b k c2)] [hb:HsF bs_ b j (.cells news.toArray T fz)] [hl:LnF news a] [hk:Bq (Nat.beq a (k*m)) true] [h1:OnL news] [hu:UsF bs_ sb bs'] [h1i:GlF ops i ⟨some d,.call ⟨.builtin .append,#[x,y],#[t,t]⟩,ty,pos,aft,g⟩] [hL:LiF zs D li ps] [hm:MmF li i false] [hC:∀z,CwF w0 Ds (bs' z) C]
    (h63:len+k<=maxLen:=by simp only[maxLen];omega) (hbytes:(len+k)*bytes<=140737488355328:=by omega):Dg P R n ops kt zs (.act i order) C s w:=by
  obtain⟨pre,post,e1,e2⟩:=hu.h;have hc:=Kc<|hF.cellsAll j hb.h;subst e1;refine Yk pre post h1i.h hE.h hF hS hx.h hy.h (by rw[hl.h];exact Nat.eq_of_beq_eq_true hk.h) (λ_=>⟨_,O,hc⟩) (Ig<|List.all_eq_true.1 h1.h) h63 hlen hys hbytes (λA' c' sb' w' a1 a2 a3 a4=>⟨(hC sb').h _ (by rw[e2];exact a2),h A' c' sb' w' a1 (by rw[e2];exact a2) a3 a4⟩) (hg.h ..)<|hL.c _ hm
end
class NiF (i:Int) (j:outParam Nat):Prop where h:i=(j:Int)
instance {j:Nat}:NiF (j:Int) j:=⟨rfl⟩
instance {k:Nat}:NiF (OfNat.ofNat k) k:=⟨rfl⟩
instance {a b:Int} {i j:Nat} [h:NiF a i] [k:NiF b j]:NiF (a+b) (i+j):=⟨by rw[h.h,k.h];rfl⟩
class ZiF (P:Program) (e:TypeId):Prop where h:(P.info? e).map (·.zero)=some (some (J 0))
class AlK (P:Program) (n:Nat) (s:Nat->Value) (op:Op) (v:outParam (Nat->Value)) (o:outParam Obj) (c:outParam Prop):Prop where h:c->∀dst ty pos aft g w,(execOp (ev n s) ⟨dst,op,ty,pos,aft,g⟩).run P w=.ok (.value (v w.heap.size)) (w.alloc o)
section
variable {P:Program}{R:Exit->Act->World->Prop}{n:Nat}{k:Kt}{s:Nat->Value}{w w0:World}{ops rest:List Oper}{Ds:List Nat}{bs_:List (Nat × Obj)}
variable {d i N t e:Nat}{ty:TypeId}{pos:String}{aft:Array Edge}{g:Option (Nat × Bool)}{zs:Lt}{C D:World->Prop}{order:Ord}{li ps:List Nat}{op:Op}{vb:Nat->Value}{o:Obj}{c:Prop}{x y:Operand}{a b:Int}
instance [hE:ElF P t e 1 8] [hz:ZiF P e] [hx:EvF n s x (J a)] [hy:EvF n s y (J a)] [h:NiF a N]:AlK P n s (.makeSlice t x y) (λb=>W b N N) (.cells (Y2 N λ_=>0) e) (N<=1000000000):=⟨λhc _ _ _ _ _ _=>x_makeI hE.h hz.h (by rw[hx.h,h.h]) (by rw[hy.h,h.h]) hc⟩
instance [hF:FR w0 Ds bs_ w] [hg:GdF ops n s g true] [ha:AlK P n s op vb o c]:Rn 1 (Og P R n ops k (⟨some d,op,ty,pos,aft,g⟩::rest) s w) (c/\∀b w',b=w.heap.size->FR w0 Ds ((b,o)::bs_) w'->Same [] w w'->Og P R n ops k rest (Ic s d (vb b)) w'):=⟨λf=>Wr hF (ha.h f.1 ..) f.2 (hg.h ..)⟩
instance [h1:GlF ops i ⟨some d,op,ty,pos,aft,g⟩] [hF:FR w0 Ds bs_ w] [hg:GdF ops n s g true] [ha:AlK P n s op vb o c] [hl:LiF zs D li ps] [hm:MmF li i false] [hC:∀b,CwF w0 Ds ((b,o)::bs_) C]:Rn 1 (Dg P R n ops k zs (.act i order) C s w) (c/\∀b w',b=w.heap.size->FR w0 Ds ((b,o)::bs_) w'->Same [] w w'->Dg P R n ops k zs order C (Ic s d (vb b)) w'):=⟨λf=>Y5 h1.h hF (ha.h f.1 ..) (λb w' h1 h2 h3=>⟨(hC b).h _ h2,f.2 b w' h1 h2 h3⟩) (hg.h ..) (hl.c _ hm)⟩
end
instance {α:Type} {a a':α} {la lx:List α} {i:Nat} [h:GlF (List.append la lx) i a]:GlF (List.append (a'::la) lx) (i+1) a:=⟨h.h⟩
instance {α:Type} {a:α} {lx:List α} {i:Nat} [h:GlF lx i a]:GlF (List.append [] lx) i a:=⟨h.h⟩
class AlE (s:Nat->Value) (l:List (Nat × Value)):Prop where h:AllEq s l
instance {s:Nat->Value}:AlE s []:=⟨trivial⟩
class IqF (a b:Int):Prop where h:a=b
instance {a:Int}:IqF a a:=⟨rfl⟩
instance {j:Nat}:IqF ((j:Int)+1) ((j+1:Nat):Int):=⟨rfl⟩
instance {j:Nat}:IqF ((j+1:Nat):Int) ((j:Int)+1):=⟨rfl⟩
instance {j:Nat}:IqF (OfNat.ofNat j) ((OfNat.ofNat j:Nat):Int):=⟨rfl⟩
class VqF (a b:Value):Prop where h:a=b
instance {a:Value}:VqF a a:=⟨rfl⟩
instance {k:IntKind} {a b:Int} [h:IqF a b]:VqF (.int k a) (.int k b):=⟨by rw[h.h]⟩
instance {s:Nat->Value} {t:Nat} {u v:Value} {l:List (Nat × Value)} [h:SlF s t u] [e:VqF u v] [k:AlE s l]:AlE s ((t,v)::l):=⟨⟨h.h.trans e.h,k.h⟩⟩
def Va{s:Nat->Value}{l:List (Nat × Value)}[h:AlE s l]:AllEq s l:=h.h
class NeF (l:List (Nat × Obj)) (b c:Nat):Prop where h:l.Pairwise (λp q=>q.1≠p.1)->b≠c
class DsF (l:List (Nat × Obj)) (b:Nat) (p:List (Nat × Obj)):Prop where h:l.Pairwise (λp q=>q.1≠p.1)->b∉p.map (·.1)
section
variable {P:Program}{R:Exit->Act->World->Prop}{n:Nat}{k:Kt}{s:Nat->Value}{w w0:World}{ops:List Oper}{zs:Lt}{C:World->Prop}{order:Ord}{Ds:List Nat}{bs bs0 p q l:List (Nat × Obj)}{i b c:Nat}{o o':Obj}{x:Nat × Obj}
def Bs(i:Nat)(h:Dg P R n ops k zs (.act i order) C s w):Dg P R n ops k zs (.act i order) C s w:=h
def ndF(i:Nat)(h:Dg P R n ops k zs (.free i order) C s w):Dg P R n ops k zs (.free i order) C s w:=h
instance {m m' m0:List (Nat × Obj)} {q a0:Nat × Obj} [h:AtF m i a0 q m'] [k:SuF m' m0]:SuF (m.set i q) m0:=⟨by rw[h.h.set];exact k.h⟩
instance {m m' m0:List (Nat × Obj)} [h:DrF m i m'] [k:SuF m' m0]:SuF (m.drop i) m0:=⟨by rw[h.h];exact k.h⟩
theorem FR.su[h:SuF bs bs0](hF:FR w0 Ds bs w):FR w0 Ds bs0 w:=hF.sub h.h
theorem FR.hp(hF:FR w0 Ds bs w)[h:HsF bs b i o]:w.heap[b]? = some o:=hF.heap h.h
def XN[h:HsF l b i o]:(b,o)∈l:=List.mem_of_getElem? h.h
instance [HsF l c i o]:NeF ((b,o')::l) b c:=⟨λh e=>(List.pairwise_cons.1 h).1 (c,o) XN e.symm⟩
instance [HsF l b i o]:NeF ((c,o')::l) b c:=⟨λh e=>(List.pairwise_cons.1 h).1 (b,o) XN e⟩
instance [h:NeF l b c]:NeF (x::l) b c:=⟨λg=>h.h (List.pairwise_cons.1 g).2⟩
instance [h:NeF l b c]:NeF (l++q) b c:=⟨λg=>h.h (List.pairwise_append.1 g).1⟩
theorem FR.ne(hF:FR w0 Ds bs w)[h:NeF bs b c]:b≠c:=h.h hF.desc
def us_mem{f:List (Nat × Obj)->List (Nat × Obj)}[h:UsF l p f](hx:c∈p.map (·.1)):∃z∈l,z.1=c:=by
  obtain⟨z,hz,e⟩:=nQ.1 hx;obtain⟨a,d,rfl,-⟩:=h.h;exact⟨z,by simp[hz],e⟩
instance {f:List (Nat × Obj)->List (Nat × Obj)} [UsF l p f]:DsF ((b,o)::l) b p:=⟨λh hb=>by
  obtain⟨z,hz,e⟩:=us_mem (l:=l) hb;exact (List.pairwise_cons.1 h).1 z hz e⟩
instance [h:DsF l b p]:DsF (x::l) b p:=⟨λg=>h.h (List.pairwise_cons.1 g).2⟩
instance [h:DsF l b p]:DsF (l++q) b p:=⟨λg=>h.h (List.pairwise_append.1 g).1⟩
instance {f:List (Nat × Obj)->List (Nat × Obj)} [HsF l b i o] [UsF q p f]:DsF (l++q) b p:=⟨λg hb=>by
  obtain⟨z,hz,e⟩:=us_mem (l:=q) hb;exact (List.pairwise_append.1 g).2.2 (b,o) XN z hz e⟩
theorem FR.ds(hF:FR w0 Ds bs w)[h:DsF bs b p]:b∉p.map (·.1):=h.h hF.desc
end
section
variable {S:Nat->Prop}{w:World}
theorem Rep.slice_is{ds:List D}{v:Value}(h:Rep S w (.slice ds) [v]):∃A c,v=.slice A (aL ds) c:=by grind [Rep]
theorem Rep.elem1{ds:List D}{A:Option Addr}{len c:Nat}(h:Rep S w (.slice ds) [.slice A len c])(hs:∀d∈ds,Gc d=1){i:Nat}(hi:i<aL ds) :
    ∃ad v,A=some ad/\w.cell? (ad.add (i*1))=some v/\Rep S w ds[i] [v]:=by
  obtain⟨ad,cs,hA,hl,hc,hr⟩:=Rep.elem (sz:=1) h hs hi
  match cs,hl with
  | [v], _ =>
    have:=hc 0 Da;grind [Ln]
def Rep.int_elem{ns:List Int}{A:Option Addr}{len c:Nat}(h:Rep S w (.slice (ns.map Lg)) [.slice A len c]){i:Nat}(hi:i<aL ns) :
    ∃ad,A=some ad/\w.cell? (ad.add (i*1))=some (J ns[i])/\(-9223372036854775808<=ns[i]/\ns[i]<=9223372036854775807):=by
  obtain⟨ad,v,hA,hc,hr⟩:=Rep.elem1 h (λd hd=>by obtain⟨k,_,rfl⟩:=nQ.1 hd;rfl) (i:=i) (aS hi);rw[List.getElem_map,Lg,Rep]at hr;obtain⟨he,hk⟩:=hr;obtain rfl:=(List.cons.inj he).1;exact⟨ad,hA,hc,hk⟩
end
end Go.Scarf
