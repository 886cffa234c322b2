/- A part of the proof. -/
import Derived.Test.YtidlkjpohhbbcaaGreatDoorE12
import Derived.Laws.CopyRow
import Derived.Lib.AppendZerosOnto
set_option linter.all false
set_option maxHeartbeats 8000000
set_option maxRecDepth 10000
set_option synthInstance.maxHeartbeats 0
set_option synthInstance.maxSize 9999
namespace Go.Scarf
open List renaming length->aL
open Go.RowKit Go.Proofs Go.Proofs.Tryz
variable {cs cur zl:List Value}{A a:Option Addr}{b dCap dLen e i j m o sCap sLen t2:Nat}{l:List Str}{x y:Operand}{t:List Mm}{z:Value}{T:TypeId}{v:Tree}{L:List Cf}{pick:List Int}
structure Cv where
  A:Option Addr
  n:Nat
  c:Nat
  k:Int
  x:Sv
  y:Sv
  z:Sv
abbrev Cv.cells(q:Cv):List Value:=[.slice q.A q.n q.c,J q.k]++th q.x q.y q.z
structure CvOf (S:Nat->Prop) (w:World) (c:Cf) (q:Cv):Prop where
  n:q.n=aL c.path
  k:q.k=c.cls
  p:Rep S w (Ee c.path) [.slice q.A q.n q.c]
  x:Rep S w (Ad c.b) q.x.cells
  y:Rep S w (Ad c.l) q.y.cells
  z:Rep S w (Ad c.r) q.z.cells
theorem cf_open{S:Nat->Prop}{w:World}{c:Cf}(h:Rep S w (ZJ c) cs):∃q:Cv,cs=q.cells/\CvOf S w c q:=by
  unfold ZJ at h;rw[Rep]at h;obtain⟨c1,d1,rfl,h1,h⟩:=RepL.cons_inv h;obtain⟨c2,d2,rfl,h2,h⟩:=RepL.cons_inv h;obtain⟨c3,d3,rfl,h3,h⟩:=RepL.cons_inv h;obtain⟨c4,d4,rfl,h4,h⟩:=RepL.cons_inv h;obtain⟨c5,d5,rfl,h5,h⟩:=RepL.cons_inv h;obtain rfl:=RepL.nil_inv h;obtain⟨A,n,rfl⟩:∃A e,c1=[.slice A (aL c.path) e]:=by
    have h1':=h1;unfold Ee at h1';rw[Rep]at h1';obtain⟨A,c,rfl,-⟩:=h1';exact⟨A,c,by rw[rQ]⟩
  obtain rfl:c2=[J c.cls]:=by
    unfold Lg at h2;rw[Rep]at h2;exact h2.1
  obtain⟨x,rfl,-⟩:=Ww h3;obtain⟨y,rfl,-⟩:=Ww h4;obtain⟨z,rfl,-⟩:=Ww h5;exact⟨⟨A,aL c.path,n,c.cls,x,y,z⟩,Da,⟨O,O,h1,h3,h4,h5⟩⟩
def CvOf.ext{S:Nat->Prop}{w w':World}{c:Cf}{q:Cv}(h:CvOf S w c q)(hs:Same [] w w'):CvOf S w' c q:=⟨h.n,h.k,h.p.ext hs,h.x.ext hs,h.y.ext hs,h.z.ext hs⟩
theorem Rep.cf_elem{S:Nat->Prop}{w:World}{l:List Cf}{len c:Nat}(h:Rep S w (.slice (l.map ZJ)) [.slice A len c])(hi:i<aL l) :
    ∃(ad:Addr)(q:Cv),A=some ad/\(∀j (hj:j<aL q.cells),w.cell? ((ad.add (i*17)).add j)=some q.cells[j])/\CvOf S w l[i] q:=by
  obtain⟨ad,cs,hA,hl,hc,hr⟩:=Rep.elem (sz:=17) h (λd hd=>by obtain⟨k,_,rfl⟩:=nQ.1 hd;exact size_cfD k) (i:=i) (aS hi);grind [cf_open]
theorem Rep.sd_elem{S:Nat->Prop}{w:World}{l:List Sd}{len c:Nat}(h:Rep S w (.slice (l.map Ad)) [.slice A len c])(hi:i<aL l) :
    ∃(ad:Addr)(q:Sv),A=some ad/\(∀j (hj:j<aL q.cells),w.cell? ((ad.add (i*5)).add j)=some q.cells[j])/\Rep S w (Ad l[i]) q.cells:=by
  obtain⟨ad,cs,hA,hl,hc,hr⟩:=Rep.elem (sz:=5) h (λd hd=>by obtain⟨k,_,rfl⟩:=nQ.1 hd;exact Zv k) (i:=i) (aS hi);grind [Ww]
structure CfOk (c:Cf):Prop where
  b:SdOk c.b
  l:SdOk c.l
  r:SdOk c.r
def CfOk.all{c:Cf}(h:CfOk c):∀s∈[c.b,c.l,c.r],SdOk s:=by
  intro s hs;simp only[oQ,List.not_mem_nil,or_false]at hs;rcases hs with rfl|rfl|rfl
  ·exact h.b
  ·exact h.l
  exact h.r
def L7(c:Cf):B9 c=[c.b,c.l,c.r].all λs=>X0 s c.cls:=by simp[B9]
def Yr(k:Int)(s:Str):Int:=if k≠7 then -1 else if (Wb s).2≠0 then -1 else (Lr (Wb s).1).1
def T4(v:Tree):Ki v=Yr v.kind v.text:=rfl
theorem W7(c:Cf)(q:Cv)(pk:Int)(S:Nat->Prop)(w0:World)(hq:CvOf S w0 c q)(hk:CfOk c)(hG:Gl w0):Calls prog 159 #[.agg q.cells.toArray,J pk] w0 (Za λv w'=>∃y:Sv,v=.tuple #[.agg y.cells.toArray,.bool (Hi c pk).2]/\Rep (Btw w0 w') w' (Ad (Hi c pk).1) y.cells/\Same [] w0 w'):=by
 refine Ea func159 ntmps159 ?_;intro hF;refine rn 3 ?_;rintro b1 w hb1 hF -;refine rn 1 ?_;rintro b2 w hb2 hF -;refine rn 17 ⟨λhc0=>?_,λhc0=>?_⟩;refine rn 4<|Fc (X8 c.b q.x S _ (hF.rep hq.x) hk.b<|hG.ext hF.same) ?_;rintro _ w ⟨y,rfl,hRt,hE⟩;have hY:=RX.made (ids:=[b2,b1]) hF.same.size (λx hx=>hF.lt_ids (aS hx)) hRt;have hF:=hF.ext hE;clear hE hRt;refine rn 1 ?_;intro w hF hE;have hY:=hY.store hE qK;refine rn 4 ?_;have e:Hi c pk=(Gj c.b,true):=by unfold Hi;rw[uQ hc0]
 rw[e]
 ·exact⟨y,O,hY.done,hF.same⟩
 refine rn 7 ⟨λhc1=>?_,λhc1=>?_⟩;refine rn 4<|Fc (X8 c.l q.y S _ (hF.rep hq.y) hk.l<|hG.ext hF.same) ?_;rintro _ w ⟨y,rfl,hRt,hE⟩;have hY:=RX.made (ids:=[b2,b1]) hF.same.size (λx hx=>hF.lt_ids (aS hx)) hRt;have hF:=hF.ext hE;clear hE hRt;refine rn 1 ?_;intro w hF hE;have hY:=hY.store hE qK;refine rn 4 ?_;have e:Hi c pk=(Gj c.l,true):=by unfold Hi;rw[tQ hc0,uQ hc1]
 rw[e]
 ·exact⟨y,O,hY.done,hF.same⟩
 refine rn 7 ⟨λhc2=>?_,λhc2=>?_⟩;refine rn 4<|Fc (X8 c.r q.z S _ (hF.rep hq.z) hk.r<|hG.ext hF.same) ?_;rintro _ w ⟨y,rfl,hRt,hE⟩;have hY:=RX.made (ids:=[b2,b1]) hF.same.size (λx hx=>hF.lt_ids (aS hx)) hRt;have hF:=hF.ext hE;clear hE hRt;refine rn 1 ?_;intro w hF hE;have hY:=hY.store hE qK;refine rn 4 ?_;have e:Hi c pk=(Gj c.r,true):=by unfold Hi;rw[tQ hc0,tQ hc1,uQ hc2]
 rw[e]
 ·exact⟨y,O,hY.done,hF.same⟩
 refine rn 5<|Ba (w':=w) (v:=.agg #[.bool false,J 0,I [],aQ,aQ]) Ua ?_;refine rn 1 ?_;rintro w hF -;refine rn 4 ?_;have e:Hi c pk=(noS,false):=by unfold Hi;rw[tQ hc0,tQ hc1,tQ hc2]
 rw[e];exact⟨⟨false,Z8⟩,O,Ul,hF.same⟩
theorem fits_c(c:Cf)(q:Cv)(S:Nat->Prop)(w0:World)(hq:CvOf S w0 c q)(hk:CfOk c)(hG:Gl w0):Calls prog 158 #[.agg q.cells.toArray] w0 (Za λv w'=>v=.bool (B9 c)/\Same [] w0 w'):=by
 refine Ea func158 ntmps158 ?_;intro hF;refine rn 3 ?_;rintro b1 w hb1 hF -;refine rn 13 ?_;rintro b2 w hb2 hF -;have hrow:Rep (λx=>S x\/x=b2) _ (.slice<|[c.b,c.l,c.r].map Ad) _:=hF.rowS 0 rfl (n:=3) (RepL.cons_mk (hF.rep hq.x)<|RepL.cons_mk (hF.rep hq.y)<|RepL.cons_mk (c2:=[]) (hF.rep hq.z) RepL.nil_mk) rfl Aa;refine rn 5<|Sa (λμ σ w=>∃(j:Nat),μ=3-j/\(j<=3)/\(Rep (λx=>S x\/x=b2) w (.slice<|[c.b,c.l,c.r].map Ad) [.slice (some ⟨b2,0,none⟩) 3 3])/\(([c.b,c.l,c.r].take j).all (λs=>X0 s c.cls)=true)/\AllEq σ [(1,V b1),(11,.slice (some ⟨b2,0,none⟩) 3 3),(12,J 3),(13,J<|(j:Int))]/\FR w0 [] [(b2,.cells ((th q.x q.y q.z)).toArray 38),(b1,.cells (q.cells).toArray 40)] w) _ ⟨0,O,Aa,hrow,O,Va,hF⟩ ?_;rintro μ σ w ⟨j,rfl,hj,hrow,ha,hzz,hF⟩;refine Wf hzz 7 ⟨λhc0=>?_,λhc0=>?_⟩;refine rn 5 ?_;have hj3:j<aL [c.b,c.l,c.r]:=by simp only[kQ,cZ];omega
 obtain⟨ad,s,hAs,hks,hes⟩:=hrow.sd_elem (i:=j) hj3;obtain⟨sd,hsd⟩:∃sd,sd=[c.b,c.l,c.r][j]:=⟨_,rfl⟩;rw[<-hsd]at hes;have hsok:SdOk sd:=hsd▸hk.all _ (eQ _);have hse:=Lc hes;have hqk:=hq.k;refine rn 1<|Ba (v:=.pointer<|some<|ad.add<|j*5) (Ca (i:=(j:Int)) sl_104 hAs)<|Ba (v:=.agg (s.cells).toArray) (Ma (l:=s.cells) rZ vZ O O hks) ?_;refine rn 1 ?_;intro b3 w hb3 hF hE;have hrow:=hrow.ext hE;have hes:=hes.ext hE;have hse:=Lc hes;refine rn 8 ⟨λhg0=>?_,λhg0=>?_⟩;refine rn 2<|Ia (C4 sd.val hsok.sz _ _ s.v.cells hse.2.2.2.2 hsok.ok<|hG.ext hF.same) ?_;intro w hF hE;have hrow:=hrow.ext hE;have hes:=hes.ext hE;have hse:=Lc hes;refine rn 3 ⟨λhg1=>?_,λhg1=>?_⟩;refine rn 20 ⟨yQ Value.bool ?_,hF.same⟩;symm;rw[L7,List.all_eq_false];refine⟨sd,hsd▸eQ _,?_⟩;unfold X0;simp_all;refine rn 5 ⟨λhg2=>?_,λhg2=>?_⟩;refine rn 10 ⟨λhc1=>?_,λhc1=>?_⟩;refine rn 6 ⟨yQ Value.bool ?_,hF.same⟩;symm;rw[L7,List.all_eq_false];refine⟨sd,hsd▸eQ _,?_⟩;unfold X0;simp_all;refine rn 4<|Zb (Wd<|((j+1:Nat):Int)) ?_;refine rn 2 ?_;have hgood:X0 sd c.cls=true:=by unfold X0;simp_all
 refine Ha ⟨_,?_,j+1,O,Aa,hrow,zD,Va,hF.su⟩;omega;refine rn 14<|Zb (Wd<|((j+1:Nat):Int)) ?_;refine rn 2 ?_;have hgood:X0 sd c.cls=true:=by unfold X0;simp_all
 refine Ha ⟨_,?_,j+1,O,Aa,hrow,zD,Va,hF.su⟩;omega;refine rn 23<|Zb (Wd<|((j+1:Nat):Int)) ?_;refine rn 2 ?_;have hgood:X0 sd c.cls=true:=by unfold X0;simp_all
 refine Ha ⟨_,?_,j+1,O,Aa,hrow,zD,Va,hF.su⟩;omega;refine rn 8 ⟨yQ Value.bool ?_,hF.same⟩;obtain rfl:j=3:=Aa
 rw[L7];exact ha.symm
theorem DP(x:Tv)(hl:aL x.t<=140737488355328)(w0:World)(hG:Gl w0):Calls prog 160 #[.agg (x.cells).toArray] w0 (Za λv w'=>v=J (Yr x.k x.t)/\Same [] w0 w'):=by
 refine Ea func160 ntmps160 ?_;intro hF;refine rn 3 ?_;rintro b1 w hb1 hF -;refine rn 12 ⟨λhc0=>?_,λhc0=>?_⟩;refine rn 6 ?_;exact⟨yQ (Value.int .i64) (by simp_all[Yr]),hF.same⟩;refine rn 6<|Ia (Ly x.t hl) ?_;rintro w hF -;refine rn 4 ?_;rintro b2 w hb2 hF -;refine rn 11 ⟨λhc1=>?_,λhc1=>?_⟩;refine rn 6 ?_;exact⟨yQ (Value.int .i64) (by simp_all[Yr]),hF.same⟩;refine rn 5 ?_;refine Ia (PG (Wb x.t).1 (by have:=Nf x.t;omega) _<|hG.ext hF.same) ?_;rintro w hF -;refine rn 14 ?_;exact⟨yQ (Value.int .i64) (by simp_all[Yr]),hF.same⟩
theorem PX(v:Value)(k:Str):∀m:MapL,aL (C5 m k v)=aL m+if Ie m k=none then 1 else 0:=λm=>by
  have h:=Yt m k;unfold C5;cases hf:m.findIdx? (λx=>decide (x.1=k))with
  | none=>grind
  | some i =>
    obtain⟨hi,-⟩:=N7 hf;grind
structure CntM (m:MapL) (l:List Str):Prop where
  get:∀t,Ie m t=if t∈l then some (J (l.count t:Int)) else none
  len:aL m=aL l.eraseDups
def CntM.nil:CntM [] []:=⟨λt=>by simp[Ie],rfl⟩
theorem CntM.val{m:MapL}(h:CntM m l)(t:Str):(Ie m t).getD (J 0)=J ((l.count t:Nat):Int):=by
  rw[h.get];grind
theorem CntM.add{m:MapL}(h:CntM m l)(t:Str):CntM (C5 m t (J (((l.count t+1:Nat)):Int))) (l++[t]):=by
  refine⟨λk=>?_,?_⟩
  ·rw[IA]
   by_cases e:t=k
   ·grind
   rw[tQ e, h.get, List.count_append, List.count_singleton];grind
  rw[PX, h.len, h.get, List.eraseDups_append, dQ];by_cases ht:t∈l
  ·rw[uQ ht]
   have:[t].removeAll l=[]:=by simp[List.removeAll,ht]
   grind
  rw[tQ ht];have:[t].removeAll l=[t]:=by simp[List.removeAll,ht]
  grind
def PC{xs:List Tree}(hj:j<aL xs):Jg (xs.take (j+1))=Jg (xs.take j)++Ue xs[j]:=by
  rw[Cn,Cn,iQ hj,List.flatMap_append];simp
def Q8(x:Tree):aL (Ue x)<=La x:=Tree.ind (Q:=λx=>aL (Ue x)<=La x) (λk t ks xs ih=>by
  have hs:∀ys:List Tree,(∀y∈ys,aL (Ue y)<=La y)->aL (Jg ys)<=Ra ys:=λys=>by
    induction ys with
    | nil=>intro _;simp[Jg]
    | cons y ys ihy =>
      intro h;have h1:=h y Da;have h2:=ihy λz hz=>h z wP;rw[Jg,Ra,dQ];omega
  have:=hs xs ih;rw[Ue,La,dQ];split <;> simp <;> omega) x
def ZK(x:Tree):Prop:=∀(S:Nat->Prop)(w0:World)(mb:Nat)(m:MapL)(l:List Str)(cs:List Value),Rep S w0 (Na x) cs->(∀b,S b->b<w0.heap.size/\b∉[mb])->w0.heap[mb]? = some (Vc m)->CntM m l->aL l+La x<=1000000000 ->
  Calls prog 157 #[.agg cs.toArray,.map (some mb)] w0 (Za λv w'=>∃m',v=.tuple #[]/\w'.heap[mb]? = some (Vc m')/\CntM m' (l++Ue x)/\Same [mb] w0 w')
theorem SJ(ys:List Tree):aL (Jg ys)<=Ra ys:=by
  have:=Q8<|.node 0 [] [] ys;rw[Ue,La,tQ Ja,nZ]at this;have h2:∀zs:List Tree,aL (Jg zs)<=Ra zs:=λzs=>by
    induction zs with
    | nil=>simp[Jg]
    | cons z zs ih=>have:=Q8 z;rw[Jg,Ra,dQ];omega
  grind
theorem GC(xs:List Tree)(j:Nat)(hj:j<aL xs):Ra (xs.take j)+La xs[j]<=Ra xs:=by
  have h:xs=xs.take j++xs[j]::xs.drop (j+1):=qX
  have h2:=yQ Ra h;rw[Dj,Ra]at h2;omega
def DL(k:Int)(t:Str)(ks:List Str)(xs:List Tree)(ih:∀x,x∈xs->ZK x):ZK (.node k t ks xs):=by
 intro S w0 mb m l cs hR hS hmb hCm hsz;obtain⟨A,c,B,e,rfl,-,-,-,hX⟩:=hR.tree_inv;have hXl:=hX.slice_len;rw[La]at hsz;refine Lb func157 ntmps157 O O ?_;have hF:FR w0 [mb] [(mb,Vc m)] w0:=FR.open_ (by simp[hmb]) Da;refine rn 3 ?_;rintro b1 w hb1 hF -;refine rn 3<|Eb (λσ w=>∃(m1:MapL),∃(l1:List Str),(l1=l++(if k=7 then [t] else []))/\(CntM m1 l1)/\AllEq σ [(1,.map<|some mb),(2,V b1)]/\FR w0 [mb] [(b1,.cells #[J k,I t,.slice A (aL ks) c,.slice B (aL xs) e] 36),(mb,Vc m1)] w) ?_ ?_;refine rn 8 ⟨λhc0=>?_,λhc0=>?_⟩;refine rn 4<|Ba (v:=J<|((l.count t:Nat):Int)) (Hq underlying180 jX zeroValue3 O O (hF.heap (i:=1) O)<|hCm.val _) ?_;have hlc:=List.count_le_length (a:=t) (l:=l);refine Zb (Wd<|((l.count t+1:Nat):Int))<|RT 1 (v:=J<|((l.count t+1:Nat):Int)) hF underlying180 jX O O O O ?_;rintro w hF -;have hF:FR w0 [mb] [(b1,.cells #[J k,I t,.slice A (aL ks) c,.slice B (aL xs) e] 36),(mb,Vc<|C5 (m) (t)<|J<|((l.count t+1:Nat):Int))] w:=hF;refine rn 1 ?_;exact Ha ⟨C5 m t<|J ((l.count t+1:Nat):Int),l++[t],by rw[uQ hc0],hCm.add t,Va,hF⟩;refine rn 1 ?_;exact Ha ⟨m,l,by rw[tQ hc0,qQ],hCm,Va,hF⟩;rintro σ w ⟨m1,l1,hl1,hC1,hzz,hF⟩;refine Aj hzz 10<|Sa (λμ σ w=>∃(j:Nat),∃(m2:MapL),μ=aL xs-j/\(j<=aL xs)/\(CntM m2<|l1++Jg (xs.take j))/\AllEq σ [(1,.map<|some mb),(15,.slice B (aL xs) e),(16,J<|(aL xs:Nat)),(17,J<|(j:Int))]/\FR w0 [mb] [(b1,.cells #[J k,I t,.slice A (aL ks) c,.slice B (aL xs) e] 36),(mb,Vc m2)] w) _ ⟨0,m1,O,dZ _,by simpa[Jg]using hC1,Va,hF⟩ ?_;rintro μ σ w ⟨j,m2,rfl,hj,hC2,hzz,hF⟩;have hll:aL l1<=aL l+1:=by rw[hl1,dQ];split <;> simp
 refine Wf hzz 7 ⟨λhc1=>?_,λhc1=>?_⟩;refine rn 6 ?_;obtain⟨ad0,cs0,hA0,hl0,hk0,hx0⟩:=(hF.repE hS hX).tree_elem (i:=j) Aa;have ho0:=hx0.one_;have hxj:=hx0;refine Ba (v:=.pointer<|some<|ad0.add<|j*4) (Ca (i:=(j:Int)) Fd hA0)<|Ba (v:=.agg<|List.toArray cs0) (Ma (l:=cs0) qZ uZ O hl0 hk0) ?_;refine Wu (l:=cs0) hF kX wR kD (v:=.agg<|List.toArray cs0) O O (ho0) O ?_;intro b2 w hb2 hF hE;have hxj:=hxj.ext hE;refine rn 3<|Ba (v:=.agg<|List.toArray cs0) (Ma (l:=cs0) qZ uZ O hl0<|hF.cellsAll 0 O) ?_;refine rn 1 ?_;refine Fc (ih _ (eQ _) S _ mb m2 (l1++Jg (xs.take j)) cs0 hxj (λb hb=>⟨Nat.lt_of_lt_of_le (hS b hb).1 hF.same.size,(hS b hb).2⟩) (hF.heap (i:=2) O) hC2 (by have:=SJ<|xs.take j;have:=GC xs j Aa;rw[dQ];omega)) ?_;rintro _ w ⟨m3,rfl,hm3,hC3,hE⟩;have hF:=hF.change 2 rfl hE hm3;have hF:FR w0 [mb] [(b2,.cells (List.toArray cs0) 36),(b1,.cells #[J k,I t,.slice A (aL ks) c,.slice B (aL xs) e] 36),(mb,Vc m3)] w:=hF;clear hE hm3;refine rn 4<|Zb (Wd<|((j+1:Nat):Int)) ?_;refine rn 2 ?_;refine Ha ⟨_,?_,j+1,m3,O,Aa,by rw[PC Aa,<-sQ];exact hC3,Va,hF.su⟩;omega;refine rn 2 ?_;obtain rfl:j=aL xs:=Aa
 refine⟨m2,O,hF.heap (i:=1) O,?_,hF.same⟩;rw[List.take_length]at hC2;rw[Ue,<-sQ,<-hl1];exact hC2
def holes_c(x:Tree):ZK x:=Tree.ind DL x
def Sw(m:Mm):D:=.agg [Uj m.pr,Ad m.sd]
def U6(m:Mm):Gc (Sw m)=6:=by simp only[Sw,Gc,Gc.sizeL,Zv,Uj]
def Jd(t:List Mm):D:=.slice (t.map Sw)
abbrev Lp(p:Str)(x:Sv):List Value:=[I p,.bool x.h,J x.v.k,I x.v.t,.slice x.v.A x.v.n x.v.c,.slice x.v.B x.v.m x.v.e]
section
variable {S:Nat->Prop}{w:World}
def Yw{m:Mm}(h:Rep S w (Sw m) cs):∃x:Sv,cs=Lp m.pr x/\Rep S w (Ad m.sd) x.cells/\aL m.pr<=9223372036854775807:=by
  unfold Sw at h;rw[Rep]at h;obtain⟨c1,d1,rfl,h1,h⟩:=RepL.cons_inv h;obtain⟨c2,d2,rfl,h2,h⟩:=RepL.cons_inv h;obtain rfl:=RepL.nil_inv h;unfold Uj at h1;rw[Rep]at h1;obtain⟨rfl,hl⟩:=h1;obtain⟨x,rfl,-⟩:=Ww h2;exact⟨x,by simp[Lp],h2,hl⟩
def V8{m:Mm}{x:Sv}(h:Rep S w (Ad m.sd) x.cells)(hl:aL m.pr<=9223372036854775807):Rep S w (Sw m) (Lp m.pr x):=by
  unfold Sw;rw[Rep];have h1:Rep S w (Uj m.pr) [I m.pr]:=Rep.lit_mk (v:=I m.pr) hl;exact RepL.cons_mk h1<|RepL.cons_mk (c2:=[]) h RepL.nil_mk
def Rep.mm_elem{l:List Mm}{len c:Nat}(h:Rep S w (Jd l) [.slice A len c])(hi:i<aL l) :
    ∃(ad:Addr)(x:Sv),A=some ad/\(∀j (hj:j<aL (Lp l[i].pr x)),w.cell? ((ad.add (i*6)).add j)=some (Lp l[i].pr x)[j])/\Rep S w (Ad l[i].sd) x.cells/\aL l[i].pr<=9223372036854775807:=by
  obtain⟨ad,cs,hA,hl,hc,hr⟩:=Rep.elem (sz:=6) h (λd hd=>by obtain⟨k,_,rfl⟩:=nQ.1 hd;exact U6 k) (i:=i) (aS hi);rw[List.getElem_map]at hr;obtain⟨x,rfl,hx,hp⟩:=Yw hr;exact⟨ad,x,hA,hc,hx,hp⟩
end
def Yn{s:Sd}(h:SdOk s):To (Ed s)/\La (Ed s)<=1+La s.val:=by
  unfold Ed;split
  ·refine⟨?_, by simp only[La, Ra];omega⟩
   have:=h.ok;simp[To,Q6,this]
  exact⟨by simp[To,Q6],by simp only[La,Ra];omega⟩
def LI(A:Option Addr)(n c:Nat){w0:World}:Calls prog 35 #[.slice A n c] w0 (Za λv w'=>v=.agg #[J 5,I [],aQ,.slice A n c]/\Same [] w0 w'):=by
 refine Ea func35 ntmps35 ?_;intro hF;refine rn 3 ?_;rintro b1 w hb1 hF -;refine rn 5<|Ba (w':=w) (v:=.agg #[J 5,I [],aQ,.slice A n c]) Ua ?_;refine rn 1 ?_;rintro w hF -;refine rn 3 ?_;exact⟨O,hF.same⟩
def Ku(s:Sd)(x:Sv)(S:Nat->Prop)(w0:World)(hX:Rep S w0 (Ad s) x.cells):Calls prog 37 #[.agg x.cells.toArray] w0 (Za λv w'=>∃ct:List Value,v=.agg ct.toArray/\Rep (λb=>S b\/Btw w0 w' b) w' (Na (Ed s)) ct/\Same [] w0 w'):=by
 have hx:=Lc hX;refine Ea func37 ntmps37 ?_;intro hF;refine rn 3 ?_;rintro b1 w hb1 hF -;refine rn 1 ?_;rintro b2 w hb2 hF -;refine rn 11 ⟨λhc0=>?_,λhc0=>?_⟩;have h0:s.has=false:=by rw[<-hx.1];simpa using hc0
 refine rn 2<|Ia (LI none 0 0) ?_;rintro w hF -;refine rn 1 ?_;rintro w hF -;refine rn 3 ?_;have e:Ed s=.node 5 [] [] []:=by unfold Ed;rw[tQ bR]
 rw[e];exact⟨_,O,Rep.tree_mk (ks:=[]) (xs:=[]) ⟨Ja,Ja⟩ Da (Rep.nil_slice 0 Aa none)<|Rep.nil_slice 0 Aa none,hF.same⟩;have h0:s.has=true:=by rw[<-hx.1];simpa using hc0
 refine rn 7 ?_;rintro b3 w hb3 hF -;refine Ia (LI (some ⟨b3,0,none⟩) 1 1) ?_;rintro w hF -;refine rn 1 ?_;rintro w hF -;refine rn 3 ?_;have e:Ed s=.node 5 [] [] [s.val]:=by unfold Ed;rw[uQ h0]
 rw[e];exact⟨_,O,Rep.tree_mk (ks:=[]) (xs:=[s.val]) ⟨Ja,Ja⟩ Da (Rep.nil_slice 0 Aa none)<|(hF.rowS 0 O (n:=1) (RepL.cons_mk (c2:=[]) (hF.rep hx.2.2.2.2) RepL.nil_mk) O Aa).weaken λb hb hl=>hb.elim .inl λe=>.inr (by rw[e];exact⟨hF.ge (i:=0) O,hF.lt (i:=0) O,_,_,hF.heap (i:=0) O⟩),hF.same⟩
theorem TO(s:Sd)(x:Sv)(k:Int)(S:Nat->Prop)(w0:World)(hX:Rep S w0 (Ad s) x.cells)(hs:SdOk s)(hG:Gl w0):Calls prog 55 #[.agg x.cells.toArray,J k] w0 (Za λv w'=>v=.bool (Uo s k)/\Same [] w0 w'):=by
 have hx:=Lc hX;refine Ea func55 ntmps55 ?_;intro hF;refine rn 3 ?_;rintro b1 w hb1 hF -;refine rn 10 ⟨λhg0=>?_,λhg0=>?_⟩;refine rn 18 ⟨yQ Value.bool ?_,hF.same⟩;have h1:=hx.1;have h2:=hx.2.1;unfold Uo;simp_all;refine rn 2<|Ia (C4 s.val hs.sz _ _ x.v.cells (hF.rep hx.2.2.2.2) hs.ok<|hG.ext hF.same) ?_;rintro w hF -;refine rn 2 ⟨λhg1=>?_,λhg1=>?_⟩;refine rn 4 ⟨λhg2=>?_,λhg2=>?_⟩;refine rn 11 ⟨yQ Value.bool ?_,hF.same⟩;have h1:=hx.1;have h2:=hx.2.1;unfold Uo;simp_all;refine rn 11 ⟨yQ Value.bool ?_,hF.same⟩;have h1:=hx.1;have h2:=hx.2.1;unfold Uo;simp_all;refine rn 14 ⟨yQ Value.bool ?_,hF.same⟩;have h1:=hx.1;have h2:=hx.2.1;unfold Uo;simp_all
theorem rightC_c(c:Cf)(q:Cv)(S:Nat->Prop)(w0:World)(hq:CvOf S w0 c q)(hk:CfOk c)(hG:Gl w0):Calls prog 49 #[.agg q.cells.toArray] w0 (Za λv w'=>v=.bool (Rt c)/\Same [] w0 w'):=by
 refine Ea func49 ntmps49 ?_;intro hF;refine rn 3 ?_;rintro b1 w hb1 hF -;refine rn 13 ?_;rintro b2 w hb2 hF -;have hrow:Rep (λx=>S x\/x=b2) _ (.slice<|[c.b,c.l,c.r].map Ad) _:=hF.rowS 0 rfl (n:=3) (RepL.cons_mk (hF.rep hq.x)<|RepL.cons_mk (hF.rep hq.y)<|RepL.cons_mk (c2:=[]) (hF.rep hq.z) RepL.nil_mk) rfl Aa;refine rn 5<|Sa (λμ σ w=>∃(j:Nat),μ=3-j/\(j<=3)/\(Rep (λx=>S x\/x=b2) w (.slice<|[c.b,c.l,c.r].map Ad) [.slice (some ⟨b2,0,none⟩) 3 3])/\(([c.b,c.l,c.r].take j).all (λs=>Uo s c.cls)=true)/\AllEq σ [(1,V b1),(11,.slice (some ⟨b2,0,none⟩) 3 3),(12,J 3),(13,J<|(j:Int))]/\FR w0 [] [(b2,.cells ((th q.x q.y q.z)).toArray 38),(b1,.cells (q.cells).toArray 40)] w) _ ⟨0,O,Aa,hrow,O,Va,hF⟩ ?_;rintro μ σ w ⟨j,rfl,hj,hrow,ha,hzz,hF⟩;refine Wf hzz 7 ⟨λhc0=>?_,λhc0=>?_⟩;refine rn 5 ?_;have hj3:j<aL [c.b,c.l,c.r]:=by simp only[kQ,cZ];omega
 obtain⟨ad,s,hAs,hks,hes⟩:=hrow.sd_elem (i:=j) hj3;obtain⟨sd,hsd⟩:∃sd,sd=[c.b,c.l,c.r][j]:=⟨_,rfl⟩;rw[<-hsd]at hes;have hsok:SdOk sd:=hsd▸hk.all _ (eQ _);have hqk:=hq.k;refine rn 1<|Ba (v:=.pointer<|some<|ad.add<|j*5) (Ca (i:=(j:Int)) sl_104 hAs)<|Ba (v:=.agg (s.cells).toArray) (Ma (l:=s.cells) rZ vZ O O hks) ?_;refine rn 1 ?_;intro b3 w hb3 hF hE;have hrow:=hrow.ext hE;have hes:=hes.ext hE;refine rn 7<|Ia (TO sd s q.k _ _ hes hsok<|hG.ext hF.same) ?_;intro w hF hE;have hrow:=hrow.ext hE;have hes:=hes.ext hE;refine rn 4 ⟨λhc1=>?_,λhc1=>?_⟩;refine rn 6 ⟨yQ Value.bool ?_,hF.same⟩;have hbad:Uo sd c.cls=false:=by rw[<-hqk];simpa using hc1
 have hm:sd∈[c.b,c.l,c.r]:=hsd▸eQ _;unfold Rt;simp only[oQ,List.not_mem_nil,or_false]at hm;rcases hm with e|e|e <;> (rw[e]at hbad;simp[hbad])
 refine rn 4<|Zb (Wd<|((j+1:Nat):Int)) ?_;refine rn 2 ?_;have hgood:Uo sd c.cls=true:=by rw[<-hqk];simpa using hc1
 refine Ha ⟨_,?_,j+1,O,Aa,hrow,zD,Va,hF.su⟩;omega;refine rn 3 ?_;obtain rfl:j=3:=Aa
 have hqk:=hq.k;have ea:Rt c=(decide (1<=c.cls)&&decide (c.cls<=6)):=by simp only[List.take,List.all_cons,List.all_nil,Bool.and_true,vQ]at ha;unfold Rt;rw[ha.1,ha.2.1,ha.2.2];simp
 refine rn 6 ⟨λhg0=>?_,λhg0=>?_⟩;refine rn 8 ⟨yQ Value.bool ?_,hF.same⟩;rw[ea,<-hqk]
 ·first|(simp_all;done)|(simp_all;omega)
 refine rn 8 ⟨yQ Value.bool ?_,hF.same⟩;rw[ea,<-hqk]
 ·first|(simp_all;done)|(simp_all;omega)
theorem zeroB_c(y:Tree)(x:Tv)(S:Nat->Prop)(w0:World)(hX:Rep S w0 (Na y) x.cells)(hn:x.n+x.m<=1000000000000):Calls prog 79 #[.agg x.cells.toArray] w0 (Za λv w'=>v=.bool (Dq y)/\Same [] w0 w'):=by
 refine Ea func79 ntmps79 ?_;intro hF;refine rn 3 ?_;rintro b1 w hb1 hF -;refine rn 10 ⟨λhg0=>?_,λhg0=>?_⟩
 ·
  refine rn 6 ⟨λhg1=>?_,λhg1=>?_⟩
  ·
   refine rn 6<|Zb Uh ?_;refine rn 6 ⟨yQ Value.bool ?_,hF.same⟩;unfold Dq;obtain⟨h1,h2,h3,h4,-,-⟩:=Dd hX;have e1:(y.keys=[])↔x.n=0:=by rw[h3];exact List.length_eq_zero_iff.symm
   have e2:(y.items=[])↔x.m=0:=by rw[h4];exact List.length_eq_zero_iff.symm
   simp_all
   all_goals first|done|(rw[Bool.eq_iff_iff];simp only[vQ,xQ,<-List.length_eq_zero_iff];omega)
  refine rn 13 ⟨yQ Value.bool ?_,hF.same⟩;unfold Dq;obtain⟨h1,h2,h3,h4,-,-⟩:=Dd hX;have e1:(y.keys=[])↔x.n=0:=by rw[h3];exact List.length_eq_zero_iff.symm
  have e2:(y.items=[])↔x.m=0:=by rw[h4];exact List.length_eq_zero_iff.symm
  simp_all
  all_goals first|done|(rw[Bool.eq_iff_iff];simp only[vQ,xQ,<-List.length_eq_zero_iff];omega)
 refine rn 18 ⟨yQ Value.bool ?_,hF.same⟩;unfold Dq;obtain⟨h1,h2,h3,h4,-,-⟩:=Dd hX;have e1:(y.keys=[])↔x.n=0:=by rw[h3];exact List.length_eq_zero_iff.symm
 have e2:(y.items=[])↔x.m=0:=by rw[h4];exact List.length_eq_zero_iff.symm
 simp_all
 all_goals first|done|(rw[Bool.eq_iff_iff];simp only[vQ,xQ,<-List.length_eq_zero_iff];omega)
set_option maxRecDepth 100000
section
variable {H:Type}{enc:TypeId × Value->H}{W:World}{base:Nat}{sp:Nat->Bool}{held:Bool}
open Go.ChangeShapes Go.WideShapes Go.ChangeAt Go.Lib Go.Shelf
instance : Inhabited Mm:=⟨⟨[],noS⟩⟩
def cs44:prog.cellsOf 44=6:=by kernel_rfl
def mm_of{fuel:Nat}{x:DataW H × List MemPlace}(h:DataW.trod enc prog W base sp held fuel 44 cs=some x):∃q:Mm,Rep (λ_=>True) W (Sw q) cs:=by
  obtain⟨xs,n,rfl,-,hcl,hxl,hf⟩:=DataW.trod_struct underlying44 h;have hcl':aL cs=6:=hcl.trans cs44;have get:∀(i:Nat)(hi:i<2),xs[i]? = some (xs[i]'(by rw[hxl];exact hi)):=λi hi=>List.getElem?_eq_getElem _;have h0:=(hf 0 _ rfl).trans (get 0 Aa);have h1:=(hf 1 _ rfl).trans (get 1 Aa);obtain⟨a,ha⟩:=LD h0;obtain⟨b,hb⟩:=side_of h1;refine⟨⟨a,b⟩,?_⟩;have e:cs=(cs.drop 0).take (prog.cellsOf 9)++((cs.drop 1).take (prog.cellsOf 38)++[]):=by
    rw[cs9,cs38]
    match cs,hcl' with
    | [_,_,_,_,_,_],_=>rfl
  rw[e];unfold Sw;exact Rep.agg_mk<|RepL.cons_mk ha<|RepL.cons_mk hb RepL.nil_mk
def DZ{r:Reach}{b0:Nat}{v:Value}{d:DataW H}{q:List MemPlace}(hv:Value.okWide prog W r b0 22 v)(h:DataW.Trod enc prog W base sp held 22 v d q) :
    ∃(l:List Mm)(A:Option Addr)(c:Nat),v=.slice A (aL l) c/\Rep (λ_=>True) W (Jd l) [.slice A (aL l) c] :=
  open_sl (g:=Sw) underlying22 cs44 (λn cs x h=>mm_of h) hv h
def rec22:prog.readableRec 22=true:=by kernel_rfl
theorem row22:22<prog.types.size:=qX
end
open Go.RowKit
def Zi(z:List Value):Nat->List Value
  | 0=>[]
  | k+1=>z++Zi z k
theorem Pk(z:List Value):∀k,aL (Zi z k)=k*aL z
  | 0=>by simp[Zi]
  | k+1=>by rw[Zi,dQ,Pk z k,Nat.add_mul];omega
theorem QH(z:List Value):∀(k i:Nat)(h:i<k*aL z),(Zi z k)[i]? = z[i%aL z]?
  | 0,i,h=>by omega
  | k + 1, i, h => by
    rw[Zi];by_cases hi:i<aL z
    ·rw[List.getElem?_append_left hi,Nat.mod_eq_of_lt hi]
    rw[List.getElem?_append_right Aa, QH z k (i-aL z) (by rw[Nat.add_mul]at h;omega)]
    congr 1
    conv=>rhs;rw[show i=(i-aL z)+aL z from by omega,Nat.add_mod_right]
theorem EF(z:List Value)(k:Nat):madeCells z.toArray (k*aL z)=(Zi z k).toArray:=by
  apply Array.ext
  ·simp[madeCells,Pk]
  intro i h1 h2;have hi:i<k*aL z:=by simpa[madeCells]using h1
  have hz:0<aL z:=qK
  have hm:i%aL z<aL z:=Nat.mod_lt _ hz;have h3:=QH z k i hi;rw[List.getElem?_eq_getElem (by rw[Pk];exact hi),List.getElem?_eq_getElem hm]at h3;have h4:=lQ h3;simp[madeCells,h4,hm]
theorem L0(z:List Value)(k:Nat):Builtin.zeroCells z.toArray k=(Zi z k).toArray:=by
  have:=EF z k;unfold madeCells at this;unfold Builtin.zeroCells;grind
section
variable {P:Program}{R:Exit->Act->World->Prop}{n:Nat}{kt:Kt}{s:Nat->Value}{w w0:World}{ops rest:List Oper}{Ds:List Nat}{bs_:List (Nat × Obj)}
variable {d:Nat}{ty:TypeId}{pos:String}{aft:Array Edge}{g:Option (Nat × Bool)}{ρ:Operand->Value}{dst:Option Nat}
theorem MD{t bytes:Nat}{N:Nat}(hE:Elems P t e m bytes)(hz0:(P.info? e).map (·.zero)=some (some z))(hc:z.cells=zl.toArray)(hx:ρ x=J (N:Int))(hy:ρ y=J (N:Int))(h:N<=1000000000)(hb:bytes<=1000) :
    (execOp ρ ⟨dst,.makeSlice t x y,ty,pos,aft,g⟩).run P w=.ok (.value (.slice (some ⟨w.heap.size,0,none⟩) N N)) (w.alloc (.cells (Zi zl N).toArray e)):=by
  obtain⟨i,z',hi,hz,hs,hby,hzs⟩:=hE.info;rw[hi]at hz0;have ez:i.zero=some z:=qK
  have hle:(i.bytes:Int)*(N:Int)<=281474976710656:=by
    rw[hby];have:bytes*N<=1000*1000000000:=Nat.mul_le_mul hb h;grind
  have hr:=run_make (P:=P) w t e i z hE.ht hi ez .i64 .i64 N N Aa (Int.le_refl _) hle Aa;have em:m=aL zl:=qK
  rw[hs,Int.toNat_natCast,hc,em,EF]at hr;simp[execOp,hx,hy,hr]
def Xx(cur:List Value)(o:Nat)(cs:List Value):List Value:=cur.take o++(cs++cur.drop (o+aL cs))
def WG{g:Nat}(hg:w.heap[g]? = some (.cells cur.toArray T)):(w.setRow g (Xx cur o cs).toArray).heap[g]? = some (.cells (Xx cur o cs).toArray T)/\Same [g] w (w.setRow g (Xx cur o cs).toArray) :=
  ⟨setRow_heap w g _ _ T (0,0) hg,⟨rfl,rfl,rfl,by simp[World.setRow],λb _ hb=>setRow_other w g b _ (aS hb)⟩⟩
theorem FH{t bytes g q:Nat}(hE:Elems P t e m bytes)(hg:w.heap[g]? = some (.cells cur.toArray T))(hq:Nat.min sLen dLen=q)(hn:aL cs=q*m)
    (hsrc:q≠0->∃ad,a=some ad/\∀j u,cs[j]? = some u->w.cell? (ad.add j)=some u) (hfit:o+aL cs<=aL cur) (h1:∀v∈cs,v.oneCell'=true) :
    (Builtin.copy_ #[t,t2] ty #[.slice (some ⟨g,o,none⟩) dLen dCap,.slice a sLen sCap]).run P w=.ok (goInt q) (w.setRow g (Xx cur o cs).toArray):=by
  obtain⟨i,z,hi,-,hs,-,-⟩:=hE.info;have hst:=run_storeCells_at P g o T cs 0 cur.toArray w hg (aS hfit) h1;have hst':(storeCells ⟨g,o,none⟩ cs).run P w=.ok () (w.setRow g (Xx cur o cs).toArray):=by grind [Xx]
  by_cases h0:q=0
  ·subst h0
   have e0:cs=[]:=qK
   subst e0;cases a with
   | none=>simp[Builtin.copy_,run_underlying hE.ht,Builtin.lenOf,Builtin.firstCells,sizeOf,typeInfo,hi,hq,hst']
   | some ad=>simp[Builtin.copy_,run_underlying hE.ht,Builtin.lenOf,Builtin.firstCells,sizeOf,typeInfo,hi,hq,hst',loadCells,loadCellsFrom]
  obtain⟨ad, rfl, hc⟩ := hsrc h0;have hl:=run_loadCells_list (P:=P) w ad cs hc;rw[hn]at hl;simp[Builtin.copy_,run_underlying hE.ht,Builtin.lenOf,Builtin.firstCells,sizeOf,typeInfo,hi,hq,hs,hl,hst']
def DY(i:Nat){t bytes:Nat}(cs:List Value)(q:Nat)(hE:Elems P t e m bytes)(hF:FR w0 Ds bs_ w)(hi:bs_[i]? = some (b,.cells cur.toArray T))(hx:ev n s x=.slice (some ⟨b,o,none⟩) dLen dCap)(hy:ev n s y=.slice a sLen sCap)(hq:Nat.min sLen dLen=q)(hn:aL cs=q*m)
    (hsrc:q≠0->∃ad,a=some ad/\∀j u,cs[j]? = some u->w.cell? (ad.add j)=some u) (hfit:o+aL cs<=aL cur) (h1:∀v∈cs,v.oneCell'=true)
    (h:∀w',FR w0 Ds (bs_.set i (b,.cells (Xx cur o cs).toArray T)) w'->Same [b] w w'->Og P R n ops kt rest (Ic s d (J (q:Int))) w')
    (hw:Ka ops n s ⟨some d,.call ⟨.builtin .copy,#[x,y],#[t,t2]⟩,ty,pos,aft,g⟩=true:=by rfl):Og P R n ops kt (⟨some d,.call ⟨.builtin .copy,#[x,y],#[t,t2]⟩,ty,pos,aft,g⟩::rest) s w:=by
  have hh:=hF.heap hi;have hr:=FH (ty:=ty) (t2:=t2) (sCap:=sCap) (dCap:=dCap) hE hh hq hn hsrc hfit h1;have hs:=WG (o:=o) (cs:=cs) hh;refine Ba (v:=J (q:Int)) (w':=w.setRow b (Xx cur o cs).toArray) ?_ (h _ (hF.change i hi hs.2 hs.1) hs.2) hw;simp[execOp,resolve,invoke,builtin,hx,hy,hr,goInt]
def f_copy{C:World->Prop}{order:Ord}{zs:Lt}{ii:Nat}{t:Nat}(hii:ops[ii]? = some ⟨some d,.call ⟨.builtin .copy,#[x,y],#[t,t2]⟩,ty,pos,aft,g⟩)(i:Nat){bytes:Nat}(cs:List Value)(q:Nat)(hE:Elems P t e m bytes)(hF:FR w0 Ds bs_ w)(hi:bs_[i]? = some (b,.cells cur.toArray T))(hx:ev n s x=.slice (some ⟨b,o,none⟩) dLen dCap)(hy:ev n s y=.slice a sLen sCap)(hq:Nat.min sLen dLen=q)(hn:aL cs=q*m)
    (hsrc:q≠0->∃ad,a=some ad/\∀j u,cs[j]? = some u->w.cell? (ad.add j)=some u) (hfit:o+aL cs<=aL cur) (h1:∀v∈cs,v.oneCell'=true)
    (h:∀w',FR w0 Ds (bs_.set i (b,.cells (Xx cur o cs).toArray T)) w'->Same [b] w w'->C w'/\Dg P R n ops kt zs order C (Ic s d (J (q:Int))) w')
    (hw:Ka ops n s ⟨some d,.call ⟨.builtin .copy,#[x,y],#[t,t2]⟩,ty,pos,aft,g⟩=true:=by rfl) (hz:zs.contains ii=false:=by rfl):Dg P R n ops kt zs (.act ii order) C s w:=by
  have hh:=hF.heap hi;have hr:=FH (ty:=ty) (t2:=t2) (sCap:=sCap) (dCap:=dCap) hE hh hq hn hsrc hfit h1;have hs:=WG (o:=o) (cs:=cs) hh;have hrr:=h _ (hF.change i hi hs.2 hs.1) hs.2;refine Ct (v:=J (q:Int)) (w':=w.setRow b (Xx cur o cs).toArray) hii ?_ hrr.1 hrr.2 hw hz;simp[execOp,resolve,invoke,builtin,hx,hy,hr,goInt]
theorem o_appZ{t tn bytes len c k:Nat}(olds:List Value)(hE:Elems P t e m bytes)(hz0:(P.info? e).map (·.zero)=some (some z))(hc:z.cells=zl.toArray)(htn:P.underlying tn=some (.int .i64))(hF:FR w0 Ds bs_ w)(hx:ev n s x=.slice A len c)(hy:ev n s y=J (k:Int))(hl:aL olds=len*m)
    (hold:len≠0->∃a,A=some a/\∀j u,olds[j]? = some u->w.cell? (a.add j)=some u) (h0:0<k) (hm:0<m) (hg:c<len+k) (hb:(len+k)*bytes<=140737488355328) (h63:len+k<=1000000000)
    (h:∀b c' junk w',b=w.heap.size->len+k<=c'->c'<=maxLen->aL junk=(c'-(len+k))*m->FR w0 Ds ((b,.cells (olds++(Zi zl k++junk)).toArray e)::bs_) w'->Same [] w w'->Og P R n ops kt rest (Ic s d (.slice (some ⟨b,0,none⟩) (len+k) c')) w')
    (hw:Ka ops n s ⟨some d,.call ⟨.builtin .append,#[x,y],#[t,tn]⟩,ty,pos,aft,g⟩=true:=by rfl):Og P R n ops kt (⟨some d,.call ⟨.builtin .append,#[x,y],#[t,tn]⟩,ty,pos,aft,g⟩::rest) s w:=by
  obtain⟨inf,z',hi,hz,hs,hby,hzs⟩:=hE.info;rw[hi]at hz0;have ez:inf.zero=some z:=qK
  have em:m=aL zl:=qK
  have hfo:(Builtin.firstCells inf.size len<|.slice A len c).run P w.drew=.ok olds.toArray w.drew:=by
    by_cases hl0:len=0
    ·subst hl0
     have e0:olds=[]:=qK
     subst e0;cases A <;> simp[Builtin.firstCells,loadCells,loadCellsFrom]
    obtain⟨a, rfl, hr⟩ := hold hl0;exact run_firstCells_some (P:=P) w.drew inf.size len a len c olds (by rw[hs];exact hl) (aS hr)
  have hkb:k*inf.bytes<=281474976710656:=qK
  have hr:=Lib.run_append_grow_zeros (P:=P) w t tn ty e inf z .i64 .i64 hE.ht htn hi ez A len c olds hfo k h0 Aa hg Aa hkb (by rw[hby];exact growslice_fits Aa hb);rw[hc,L0,L0]at hr;have hge:=grownCap_ge w (len+k) c e;have hcm:grownCap w (len+k) c e<=maxLen:=grownCap_le_maxLen w (len+k) c e qN;have hsm:Same [] w (w.drew.alloc<|.cells (olds++(Zi zl k++Zi zl (grownCap w (len+k) c e-(len+k)))).toArray e):=(Same.drew w).trans (Same.alloc w.drew _);have hFn:FR w0 Ds ((w.heap.size,.cells (olds++(Zi zl k++Zi zl (grownCap w (len+k) c e-(len+k)))).toArray e)::bs_) (w.drew.alloc<|.cells (olds++(Zi zl k++Zi zl (grownCap w (len+k) c e-(len+k)))).toArray e):=hF.drew.alloc _;refine Ba (v:=.slice (some ⟨w.heap.size,0,none⟩) (len+k)<|grownCap w (len+k) c e) ?_ (h _ _ _ _ O hge hcm (by rw[Pk,em]) hFn hsm) hw;have e1:olds.toArray++(Zi zl k).toArray++(Zi zl<|grownCap w (len+k) c e-(len+k)).toArray=(olds++(Zi zl k++Zi zl (grownCap w (len+k) c e-(len+k)))).toArray:=qK
  rw[e1]at hr;simp[execOp,resolve,invoke,builtin,hx,hy,hr]
end
def TK{P:Program}{w:World}{ρ:Operand->Value}{dst:Option Nat}{ty:TypeId}{pos:String}{aft:Array Edge}{g:Option (Nat × Bool)}{t t':TypeId}{a b:Str}(hx:ρ x=I a)(hy:ρ y=I b) :
    (execOp ρ ⟨dst,.binOp .leq t x y t',ty,pos,aft,g⟩).run P w=.ok (.value (.bool (Jf a b || decide (a=b)))) w:=by
  have h1:Op.bytesLess (bs a).toList (bs b).toList=Jf a b:=by rw[Lu,Lu]
  have h2:=UE a b;obtain⟨u,hu⟩:∃u,u=bs a:=⟨_,rfl⟩;obtain⟨v,hv⟩:∃v,v=bs b:=⟨_,rfl⟩;have hx':ρ x=.string u:=hx.trans (by rw[hu]);have hy':ρ y=.string v:=hy.trans (by rw[hv]);rw[<-hu,<-hv]at h1 h2;simp[execOp,hx',hy',Nh,binOp,Op.stringOp,h1,h2]
def S_{S:Nat->Prop}{w:World}{n c:Nat}(h:Rep S w (Jd t) [.slice A n c]):aL t<=9223372036854775807:=by
  obtain⟨A',c',-,g1,g2,-⟩:=Rep.slice_inv h;rw[rQ]at g1;omega
structure MmOk (m:Mm):Prop where
  sd:SdOk m.sd
  pr:aL m.pr<=1000000000
  ks:aL m.sd.val.keys<=1000000000
def MmOk.nm{m:Mm}(h:MmOk m){x:Sv}{S:Nat->Prop}{w:World}(hx:Rep S w (Ad m.sd) x.cells):x.v.n+x.v.m<=1000000000000:=by
  have h1:=Lc hx;have h2:=h.ks;have h3:=Ck m.sd.val;have h4:=Pf m.sd.val.items;have h5:=h.sd.sz;omega
def Ax(hi:i<aL t)(hm:Di t[i]=true)(ho:∀j,i=j+1->∀h:j<aL t,(Jf t[i].pr t[j].pr || decide (t[i].pr=t[j].pr))=false):Po t i=true:=by
  unfold Po;rw[List.getElem?_eq_getElem hi];simp only[hm,Bool.true_and];cases i with
  | zero=>rfl
  | succ j =>
    simp only;rw[List.getElem?_eq_getElem (by omega:j<aL t)];have:=ho j rfl Aa;simp only[Bool.or_eq_false_iff,Dr,decide_eq_false_iff_not]at this;show Jf t[j].pr t[j+1].pr=true;rw[Dr,xQ];rcases Decidable.em (t[j].pr<t[j+1].pr)with h|h
    ·exact h
    exact absurd (ZP this.1 h) this.2
def BS(hi:i<aL t)(hm:Di t[i]=false):Po t i=false:=by
  unfold Po;rw[List.getElem?_eq_getElem hi];simp[hm]
def OH(hi:j+1<aL t)(h:(Jf t[j+1].pr t[j].pr || decide (t[j+1].pr=t[j].pr))=true):Po t (j+1)=false:=by
  unfold Po;rw[List.getElem?_eq_getElem hi];simp only;rw[List.getElem?_eq_getElem (by omega:j<aL t),Bool.and_eq_false_iff];refine .inr ?_;show Jf t[j].pr t[j+1].pr=false;rw[Dr,decide_eq_false_iff_not];intro hlt;rw[wQ,Dr,xQ,xQ]at h;rcases h with h|h
  ·exact PE<|H0 h hlt
  rw[h]at hlt;exact PE hlt
def Rz(hi:i<aL t)(h:Po t i=false):Tf t=false:=by
  unfold Tf;rw[Bool.and_eq_false_iff,List.all_eq_false];exact .inl ⟨i,List.mem_range.2 hi,by simp[h]⟩
def R5(h:∀i<aL t,Po t i=true):Tf t=decide ((aL t:Int)<=256):=by
  unfold Tf;rw[List.all_eq_true.2 λi hi=>h i<|List.mem_range.1 hi,Bool.true_and];rw[decide_eq_decide];omega
theorem memo_c(m:Mm)(x:Sv)(S:Nat->Prop)(w0:World)(hX:Rep S w0 (Ad m.sd) x.cells)(hm:MmOk m)(hG:Gl w0):Calls prog 46 #[.agg (Lp m.pr x).toArray] w0 (Za λv w'=>v=.bool (Di m)/\Same [] w0 w'):=by
 have hx:=Lc hX;refine Ea func46 ntmps46 ?_;intro hF;refine rn 3 ?_;rintro b1 w hb1 hF -;refine rn 7 ?_;refine Fc (AE m.pr (by have:=hm.pr;omega) _<|hG.ext hF.same) ?_;rintro _ w ⟨nv,rfl,hE⟩;have hF:=hF.ext hE;refine rn 12 ⟨λhg0=>?_,λhg0=>?_⟩;refine rn 2<|Ia (TO m.sd x 0 S _ (hF.rep hX) hm.sd<|hG.ext hF.same) ?_;rintro w hF -;refine rn 3 ⟨λhg1=>?_,λhg1=>?_⟩;refine rn 5 ⟨λhg2=>?_,λhg2=>?_⟩;refine rn 10 ⟨yQ Value.bool ?_,hF.same⟩;have h1:=hx.1;unfold Di;simp_all;refine rn 3<|Ia (zeroB_c m.sd.val x.v S _ (hF.rep hx.2.2.2.2)<|hm.nm hX) ?_;rintro w hF -;refine rn 6 ⟨yQ Value.bool ?_,hF.same⟩;have h1:=hx.1;unfold Di;simp_all;refine rn 14 ⟨yQ Value.bool ?_,hF.same⟩;have h1:=hx.1;unfold Di;simp_all;refine rn 19 ⟨yQ Value.bool ?_,hF.same⟩;have h1:=hx.1;unfold Di;simp_all
theorem X3(s:Sd)(x:Sv)(S:Nat->Prop)(w0:World)(hX:Rep S w0 (Ad s) x.cells)(hs:SdOk s)(hG:Gl w0):Calls prog 58 #[.agg x.cells.toArray] w0 (Za λv w'=>∃y:Sv,v=.agg y.cells.toArray/\Rep (Btw w0 w') w' (Ad (Gj s)) y.cells/\Same [] w0 w'):=by
 have hx:=Lc hX;refine Ea func58 ntmps58 ?_;intro hF;refine rn 3 ?_;rintro b1 w hb1 hF -;refine rn 1 ?_;rintro b2 w hb2 hF -;refine rn 11 ⟨λhc0=>?_,λhc0=>?_⟩;have h0:s.has=false:=by rw[<-hx.1];simpa using hc0
 refine rn 2<|Ba (w':=w) (v:=.agg #[.bool false,J 0,I [],aQ,aQ]) Ua ?_;refine rn 1 ?_;rintro w hF -;refine rn 3 ?_;have e:Gj s=noS:=by rw[Gj,tQ bR]
 rw[e];exact⟨⟨false,Z8⟩,O,Ul,hF.same⟩;have h0:s.has=true:=by rw[<-hx.1];simpa using hc0
 refine rn 6<|Fc (NR s.val hs.sz _ _ x.v.cells (hF.rep hx.2.2.2.2) hs.ok<|hG.ext hF.same) ?_;rintro _ w ⟨ct,rfl,hRt,hE⟩;obtain⟨q,rfl,-⟩:=Pe hRt;have hYX:=RX.made (ids:=[b2,b1]) hF.same.size (λx hx=>hF.lt_ids (aS hx)) hRt;have hF:=hF.ext hE;clear hE hRt;refine Ba (w':=w) (v:=.agg #[.bool true,J q.k,I q.t,.slice q.A q.n q.c,.slice q.B q.m q.e]) Ua<|rn 1 ?_;intro w hF hE;have hYX:=hYX.store hE qK;refine rn 3 ?_;have e:Gj s=⟨true,Gs s.val⟩:=by rw[Gj,uQ h0]
 rw[e]
 ·exact⟨⟨true,q⟩,O,B3 (s:=⟨true,Gs s.val⟩) hYX.done,hF.same⟩
def Gx(t:List Mm)(A:Option Addr)(c:Nat)(S:Nat->Prop)(w0:World)(hX:Rep S w0 (Jd t) [.slice A (aL t) c])(hm:∀m∈t,MmOk m)(hG:Gl w0):Calls prog 14 #[.slice A (aL t) c] w0 (Za λv w'=>v=.bool (Tf t)/\Same [] w0 w'):=by
 have htl:=S_ hX;refine Ea func14 ntmps14 ?_;intro hF;refine rn 14<|Sa (λμ σ w=>∃(i:Nat),μ=aL t-i/\(i<=aL t)/\(∀k<i,Po t k=true)/\AllEq σ [(0,.slice A (aL t) c),(5,.slice A (aL t) c),(6,J<|(aL t:Nat)),(7,J<|(i:Int))]/\FR w0 [] [] w) _ ⟨0,O,dZ _,Aa,Va,hF⟩ ?_;rintro μ σ w ⟨i,rfl,hi,hall,hzz,hF⟩;refine Wf hzz 7 ⟨λhc0=>?_,λhc0=>?_⟩;refine rn 5 ?_;have hil:i<aL t:=Aa
 refine rn 2 ?_;obtain⟨ad0,q0,hA0,hk0,hx0,hp0⟩:=hX.mm_elem (i:=i) hil;refine Ba (v:=.pointer<|some<|ad0.add<|i*6) (Ca (i:=(i:Int)) Kf hA0)<|Ba (v:=.agg #[I<|t[i].pr,.bool q0.h,J q0.v.k,I q0.v.t,.slice q0.v.A q0.v.n q0.v.c,.slice q0.v.B q0.v.m q0.v.e]) (Ma (l:=(Lp t[i].pr q0)) isAgg44 sizeOf44 O O<|hF.cells0 hk0) ?_;refine rn 1 ?_;rintro b1 w hb1 hF -;refine rn 2 ?_;rintro w hF -;refine rn 3<|Rb (zs:=.of []) (.free 0<|.act 1<|bQ [2,3,4,5,6,7,8,9,10,11,12,13,14,15,16,17] .nil) hF ?_;intro w hF;refine rn 1<|Rc (memo_c t[i] q0 S _ (hF.rep hx0) (hm t[i] (eQ hil)) (hG.ext hF.same)) ?_;rintro w hF -;refine rn 3 ⟨λhg1=>?_,λhg1=>?_⟩;refine rn 23 ⟨yQ Value.bool ?_,hF.same⟩;exact (Rz hil<|BS hil (aS hg1)).symm;refine rn 4 ⟨λhg2=>?_,λhg2=>?_⟩;obtain⟨k,rfl⟩:∃k,i=k+1:=⟨i-1,Aa⟩;refine rn 4<|CB O (AB<|((k:Nat):Int)) ?_;obtain⟨ad3,q3,hA3,hk3,ZO,hp3⟩:=hX.mm_elem (i:=k) Aa;refine Ga rfl (v:=.pointer<|some<|ad3.add<|k*6) (λw hC=>Ca (i:=((k:Nat):Int)) Kf (hx:=rfl) hA3 (hy:=rfl))<|Ga rfl (v:=.pointer<|some<|(ad3.add<|k*6).add 0) (λw hC=>Oa (a:=ad3.add<|k*6) Pj (hx:=rfl))<|Ga rfl (v:=I<|t[k].pr) (λw hC=>Xa sZ (hx:=rfl)<|hC.cell0<|hk3 0 Bf)<|Ga rfl (v:=.bool (Jf (t[(k+1:Nat)].pr) (t[k].pr) || decide ((t[(k+1:Nat)].pr:Str)=t[k].pr))) (λw hC=>TK rfl rfl) ?_;refine rn 5 ⟨λhc1=>?_,λhc1=>?_⟩;refine rn 6 ⟨yQ Value.bool ?_,hF.same⟩;exact (Rz hil<|OH hil (aS hc1)).symm;refine rn 4<|Zb (Wd<|((k+1+1:Nat):Int)) ?_;refine rn 2 ?_;have hok:Po t (k+1)=true:=Ax hil (aS hg1) (λj e hj=>by have e2:k=j:=(Nat.succ.inj e);subst e2;simpa using hc1);refine Ha ⟨_,?_,k+1+1,rfl,Aa,(λj hj=>by rcases Nat.lt_succ_iff_lt_or_eq.1 hj with h|h;exact hall j h;rw[h];exact hok),Va,hF.su⟩;omega;refine rn 18<|Zb (Wd<|((i+1:Nat):Int)) ?_
 refine rn 2 ?_;have hok:Po t i=true:=Ax hil (aS hg1) λj e hj=>absurd (show (0:Int)<(i:Int) by omega) hg2;refine Ha ⟨_,?_,i+1,rfl,Aa,(λj hj=>by rcases Nat.lt_succ_iff_lt_or_eq.1 hj with h|h;exact hall j h;rw[h];exact hok),Va,hF.su⟩;omega;refine rn 11 ⟨yQ Value.bool ?_,hF.same⟩;obtain rfl:i=aL t:=Aa
 exact (R5 hall).symm
def Qd(c:UInt8):Bool:=(decide (48<=c.toNat)&&decide (c.toNat<=57)) || (decide (97<=c.toNat)&&decide (c.toNat<=102)) || (decide (65<=c.toNat)&&decide (c.toNat<=70))
def Cq(c:UInt8):Nat:=if c.toNat<=57 then c.toNat-48 else if 97<=c.toNat then c.toNat-87 else c.toNat-55
def Pg:Str->Option Nat
  | a::b::c::d::_=>if (Qd a&&Qd b&&Qd c&&Qd d)=true then some (4096*Cq a+256*Cq b+16*Cq c+Cq d) else none
  | _=>none
def Me(c:UInt8):Option Nat:=if c.toNat=34\/c.toNat=92\/c.toNat=47 then some c.toNat else if c.toNat=98 then some 8 else if c.toNat=102 then some 12 else if c.toNat=110 then some 10 else if c.toNat=114 then some 13 else if c.toNat=116 then some 9 else none
def Se(s:Str):Nat × Nat :=
  match Pg (s.drop 2)with
  | none=>(0,0)
  | some h => if 56320 <= h /\ h<57344 then (0, 0) else if h<55296 \/ 57344 <= h then (h, 6) else
    if (s.drop 6).take 2=[92,117] then
      match Pg (s.drop 8)with
      | none=>(0,0)
      | some l=>if l<56320\/57344<=l then (0,0) else (65536+(h-55296)*1024+(l-56320),12)
    else (0,0)
def He(s:Str):Nat × Nat :=
  match s with
  | _ :: c :: _ => match Me c with
    | some r=>(r,2)
    | none=>if c.toNat=117 then Se s else (0,0)
  | _=>(0,0)
def Fg(s:Str):Nat × Nat:=if s.head? = some 92 then He s else
  if (Lib.decodeL s).1<32\/((Lib.decodeL s).1=65533/\(Lib.decodeL s).2=1) then (0,0) else Lib.decodeL s
def Em:Nat->Str->Nat->Str->Str × Nat × Int
  | 0,t,_,_=>([],aL t,2)
  | f + 1, t, at_, out => if h : at_<aL t then
      (if t[at_]=34 then (out,at_+1,0) else if (Fg (t.drop at_)).2=0 then ([],at_,2) else Em f t (at_+(Fg (t.drop at_)).2) (out++Od (Fg (t.drop at_)).1))
    else ([],aL t,2)
def Wc(t:Str)(at_:Nat):Str × Nat × Int:=if t[at_]? = some 34 then Em (aL t-at_) t (at_+1) [] else ([],at_,2)
def Dc(t:Str):Str × Nat × Int:=if (Wc t 0).2.2=0/\(Wc t 0).2.1<aL t then ([],(Wc t 0).2.1,2) else Wc t 0
def Ef{s:Str}(h:1<aL s):He s=match Me s[1]with|some r=>(r,2)|none=>if s[1].toNat=117 then Se s else (0,0):=by
  match s,h with
  | a::c::r,_=>rfl
def Su{s:Str}(h:aL s<2):He s=(0,0):=by
  match s,h with
  | [],_=>rfl
  | [a],_=>rfl
def Lh{a b:UInt8}:a=b↔a.toNat=b.toNat:=⟨λh=>by rw[h],λh=>UInt8.toNat_inj.1 h⟩
def Bm{s:Str}(h:0<aL s):Fg s=if s[0].toNat=92 then He s else if (Lib.decodeL s).1<32\/((Lib.decodeL s).1=65533/\(Lib.decodeL s).2=1) then (0,0) else Lib.decodeL s:=by
  match s,h with
  | c :: r, _ =>
    unfold Fg;simp only[List.head?_cons,Option.some.injEq,List.getElem_cons_zero];by_cases hc:c=92
    ·rw[uQ hc,uQ (show c.toNat=92 by rw[hc];rfl)]
    rw[tQ hc,tQ (λe:c.toNat=92=>hc<|Lh.2 e)]
def Kx{s:Str}{h:Nat}(e:Pg s=some h):h<65536/\4<=aL s:=by
  unfold Pg at e;split at e
  ·split at e
   ·have hv:∀x:UInt8,Qd x=true->Cq x<16:=λx hx=>by
      unfold Qd at hx;unfold Cq;simp only[wQ,vQ,xQ]at hx
      repeat' split
      all_goals omega
    rename_i a b c d r hh
    simp only[vQ]at hh;have h1:=hv _ hh.1.1.1;have h2:=hv _ hh.1.1.2;have h3:=hv _ hh.1.2;have h4:=hv _ hh.2;injection e with e
    refine⟨Aa,Da⟩
   cases e
  cases e
def AW{c:UInt8}{r:Nat}(e:Me c=some r):r<256:=by
  have:=UInt8.toNat_lt c;unfold Me at e
  repeat' (first|(injection e with e;omega)|split at e|cases e)
def K9(s:Str):(He s).2<=aL s/\(He s).1<=1114111:=by
  unfold He;split
  ·rename_i c0 c r
   split
   ·rename_i q hq;have:=AW hq;exact⟨Da,Aa⟩
   split
   ·unfold Se
    split
    ·exact⟨dZ _,Da⟩
    rename_i h hh
    have h1:=Kx hh;simp only[zQ]at h1
    repeat' split
    all_goals first|exact⟨dZ _,Da⟩|skip
    ·exact⟨Aa,Aa⟩
    rename_i l hl _
    have h2:=Kx hl;simp only[zQ]at h2;exact⟨by simp only;omega,by simp only;omega⟩
   exact⟨dZ _,Da⟩
  exact⟨dZ _,Da⟩
def Wo(s:Str)(hs:s≠[]):(Fg s).2<=aL s/\(Fg s).1<=1114111:=by
  unfold Fg;split
  ·exact K9 s
  split
  ·exact⟨dZ _,Da⟩
  exact⟨Lib.decodeL_le s hs,Lib.decodeL_rune s⟩
theorem W0:∀(f:Nat)(t:Str)(a:Nat)(out:Str),aL t-a<f->a<=aL t->(Em f t a out).2.1<=aL t/\a<=(Em f t a out).2.1/\((Em f t a out).2.2=0\/(Em f t a out).2.2=2)/\aL (Em f t a out).1<=aL out+4*(aL t-a)
  | 0,_,_,_,h,_=>by omega
  | f + 1, t, a, out, hf, ha => by
    rw[Em];split
    ·rename_i hlt
     split
     ·exact⟨by simp only;omega,by simp only;omega,.inl O,Da⟩
     split
     ·exact⟨by simp only;omega,gQ _,.inr O,Da⟩
     rename_i hz
     have hb:=Wo (t.drop a) bN;rw[zQ]at hb;have:=W0 f t (a+(Fg<|t.drop a).2) (out++Od (Fg<|t.drop a).1) Aa Aa;have h4:=Cd ((Fg<|t.drop a).1:Int);rw[dQ]at this;exact⟨this.1,Aa,this.2.2.1,Aa⟩
    exact⟨gQ _,by simp only;omega,.inr O,Da⟩
def EV(t:Str)(a:Nat)(ha:a<=aL t):(Wc t a).2.1<=aL t/\a<=(Wc t a).2.1/\((Wc t a).2.2=0\/(Wc t a).2.2=2)/\aL (Wc t a).1<=4*aL t:=by
  unfold Wc;split
  ·rename_i h
   have hl:a<aL t:=by
     rcases Nat.lt_or_ge a (aL t) with h'|h'
     ·exact h'
     rw[List.getElem?_eq_none h']at h;cases h
   have:=W0 (aL t-a) t (a+1) [] Aa Aa;simp only[cZ]at this;exact⟨this.1,Aa,this.2.2.1,Aa⟩
  exact⟨ha,gQ _,.inr O,Da⟩
theorem GL(h:(List.range j).all (λi=>decide ((Ue v).count (Np i)=1)&&(B9 (L.getD i OA)&&(Hi (L.getD i OA) (pick.getD i 0)).2))=true)(h1:(Ue v).count (Np j)=1)(hj:j<aL L)(hp:j<aL pick)(h2:B9 L[j]=true)(h3:(Hi L[j] pick[j]).2=true) :
    (List.range (j+1)).all (λi=>decide ((Ue v).count (Np i)=1)&&(B9 (L.getD i OA)&&(Hi (L.getD i OA) (pick.getD i 0)).2))=true:=qK
theorem Xz(hj:j<aL L)(hp:j<aL pick)(h:¬((Ue v).count (Np j)=1/\B9 L[j]=true/\(Hi L[j] pick[j]).2=true)):Yp v L pick=false:=by grind [OA,Yp]
theorem BA(h:¬(aL L=aL pick/\aL (Ue v).eraseDups=aL L)):Yp v L pick=false:=by grind [Yp]
theorem UU(h1:aL L=aL pick)(h2:aL (Ue v).eraseDups=aL L)(h:(List.range (aL L)).all (λi=>decide ((Ue v).count (Np i)=1)&&(B9 (L.getD i OA)&&(Hi (L.getD i OA) (pick.getD i 0)).2))=true):Yp v L pick=true:=by grind [Yp]
theorem goodC_c(L:List Cf)(pick:List Int)(LA PA:Option Addr)(lc pc:Nat)(SL SP:Nat->Prop)(t:Tree)(x:Tv)(SX:Nat->Prop)(w0:World)(hL:Rep SL w0 (.slice (L.map ZJ)) [.slice LA (aL L) lc])(hP:Rep SP w0 (.slice (pick.map Lg)) [.slice PA (aL pick) pc])(hLk:∀c∈L,CfOk c)(hX1:Rep SX w0 (Na t) x.cells)(hsz:La t<=1000000000)(hG:Gl w0):Calls prog 101 #[.agg #[.slice LA (aL L) lc,.slice PA (aL pick) pc],.agg (x.cells).toArray] w0 (Za λv w'=>v=.bool (Yp t L pick)/\Same [] w0 w'):=by
 have hX:=hX1.low;have hLl:=hL.slice_len;have hPl:=hP.slice_len;simp only[rQ]at hLl hPl;refine Ea func101 ntmps101 ?_;intro hF;refine rn 3 ?_;rintro b1 w hb1 hF -;refine rn 1 ?_;rintro b2 w hb2 hF -;refine rn 5<|Wr (v:=λb=>.map<|some b) hF (PM underlying180) ?_;rintro b3 w hb3 hF -;refine rn 7 ?_;refine Fc (holes_c t _ _ b3 [] [] x.cells (hF.rep hX) (λb hb=>⟨Nat.lt_of_lt_of_le hb hF.same.size,λhm=>by have h8:=hF.ge (i:=0) O;rw[pQ]at hm;omega⟩) (hF.heap (i:=0) O) CntM.nil (by simp only[cZ];omega)) ?_;rintro _ w ⟨m1,rfl,hm1,hC1,hE⟩;rw[nZ]at hC1;have hF:=hF.change 0 rfl hE hm1;have hF:FR w0 [] [(b3,Vc m1),(b2,.cells (x.cells).toArray 36),(b1,.cells #[.slice LA (aL L) lc,.slice PA (aL pick) pc] 118)] w:=hF;clear hE hm1;have hC1l:=hC1.len;refine rn 14 ⟨λhg0=>?_,λhg0=>?_⟩
 ·
  refine rn 16 ⟨yQ Value.bool (BA ?_).symm,hF.same⟩;omega
 refine rn 1<|Ba (v:=J<|(aL (m1):Nat)) (FV underlying180 O<|hF.heap (i:=0) O) ?_;refine rn 8 ⟨λhc0=>?_,λhc0=>?_⟩
 ·
  refine rn 6 ⟨yQ Value.bool (BA ?_).symm,hF.same⟩;omega
 refine rn 12 ?_;have hlp:aL L=aL pick:=Aa
 have hll:aL (Ue t).eraseDups=aL L:=Aa
 refine Sa (λμ σ w=>∃(j:Nat),μ=aL L-j/\(j<=aL L)/\((List.range j).all (λi=>decide ((Ue t).count (Np i)=1)&&(B9 (L.getD i OA)&&(Hi (L.getD i OA)<|pick.getD i 0).2))=true)/\AllEq σ [(2,V b1),(5,.map<|some b3),(30,.slice LA (aL L) lc),(31,J<|(aL L:Nat)),(32,J<|(j:Int))]/\FR w0 [] [(b3,Vc m1),(b2,.cells (x.cells).toArray 36),(b1,.cells #[.slice LA (aL L) lc,.slice PA (aL pick) pc] 118)] w) _ ⟨0,O,dZ _,O,Va,hF⟩ ?_;rintro μ σ w ⟨j,rfl,hj,ha,hzz,hF⟩;refine Wf hzz 7 ⟨λhc1=>?_,λhc1=>?_⟩
 ·
  refine rn 5 ?_;have hjL:j<aL L:=Aa
  have hjP:j<aL pick:=Aa
  obtain⟨ad0,cq0,hAd0,hcq0,hcf⟩:=hL.cf_elem hjL;refine rn 2<|Ba (v:=.pointer<|some<|ad0.add<|j*17) (Ca (i:=(j:Int)) Ex hAd0)<|Ba (v:=.agg (cq0.cells).toArray) (Ma (l:=cq0.cells) isAgg40 sizeOf40 O O<|hF.cells0 hcq0) ?_;refine rn 1 ?_;rintro b4 w hb4 hF -;refine rn 2 ?_;rintro w hF -;refine rn 7<|Ia (KS (j:Int) Aa Aa _<|hG.ext hF.same) ?_;rintro w hF -;refine Ia (TE (XJ (j:Int)) (by have:=Nf<|Lib.itoa (j:Int);exact fQ this Ja) _<|hG.ext hF.same) ?_;rintro w hF -;refine Ba (v:=J<|(((Ue t).count (Ch<|XJ (j:Int)):Nat):Int)) (Hq underlying180 jX zeroValue3 O O (hF.heap (i:=1) O)<|hC1.val _)<|rn 3 ⟨λhg1=>?_,λhg1=>?_⟩
  ·
   refine rn 13 ⟨yQ Value.bool ?_,hF.same⟩;exact (Xz hjL hjP (λ⟨a,b,c⟩=>by simp_all[Np])).symm
  refine rn 1<|Ia (fits_c L[j] cq0 _ _ (hcf.ext hF.same) (hLk _<|eQ _) (hG.ext hF.same)) ?_;rintro w hF -;refine rn 5 ⟨λhc2=>?_,λhc2=>?_⟩
  ·
   refine rn 6 ⟨yQ Value.bool ?_,hF.same⟩;exact (Xz hjL hjP (λ⟨a,b,c⟩=>by simp_all[Np])).symm
  refine rn 3<|Rb (zs:=.of []) (bQ [0,1,2,3,4,5]<|.alt 6 (bQ [7,8,9]<|.act 10<|.act 11<|.free 12 .nil)<|.act 10<|.act 6<|bQ [7,8,9]<|.act 11<|.free 12 .nil) hF ?_;intro w hF;refine rn 4 ?_;obtain⟨ad2,hA2,hk2,hx2⟩:=hP.int_elem (i:=j) hjP;refine Ga O (v:=.pointer<|some<|ad2.add<|j*1) (λw hC=>Ca (i:=(j:Int)) M1 hA2)<|Ga O (v:=J<|pick[j]) (λw hC=>Xa pZ<|hC.cell0 hk2) ?_
  repeat' first
   |refine R7 ?_ ?_
   |
    refine Bs 6<|Lk (W7 L[j] cq0 pick[j] _ _ (hcf.ext hF.same) (hLk _<|eQ _) (hG.ext hF.same)) ?_;rintro _ w ⟨y,rfl,hRt,hE⟩;have hF:=hF.ext hE;clear hE hRt
    try refine⟨hF,?_⟩
    try refine⟨hF.su,?_⟩
   |refine Bs 10<|rn 1 ?_;rintro b301 w hb301 hF -|refine Bs 11<|rn 1 ?_;rintro w hF -
   |
    refine rn 9 ⟨λhc3=>?_,λhc3=>?_⟩
    ·
     refine rn 6 ⟨yQ Value.bool ?_,hF.same⟩;exact (Xz hjL hjP (λ⟨a,b,c⟩=>by simp_all[Np])).symm
    refine rn 4<|Zb (Wd<|((j+1:Nat):Int)) ?_;refine rn 2 ?_;refine Ha ⟨_,?_,j+1,O,Aa,GL ha (by simp_all[Np];omega) hjL hjP qX qX,Va,hF.su⟩;omega
   |refine rn 1 ?_
 refine rn 8 ?_;obtain rfl:j=aL L:=Aa
 exact⟨yQ Value.bool (UU hlp hll ha).symm,hF.same⟩
end Go.Scarf
