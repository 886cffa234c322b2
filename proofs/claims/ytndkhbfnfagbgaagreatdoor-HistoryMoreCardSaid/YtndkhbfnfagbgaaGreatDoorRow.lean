/- A part of the proof. -/
import Derived.Test.YtndkhbfnfagbgaaGreatDoorTie
import Derived.Test.YtndkhbfnfagbgaaGreatDoorShelf2
import Derived.Test.YtndkhbfnfagbgaaGreatDoorW1
import Derived.ProofKit
import Derived.Shelf.Lay
import Derived.PinnedBridge
import Derived.Lay
import Derived.LaidOnce
import Derived.SevenTiedAt
import Derived.Lib.LaidU8T
import Derived.Lib.LaidTab
import Derived.Deep.Slices
import Derived.WideKeyArgs
import Derived.Carry
import Derived.Laws.MakeOwn
set_option linter.all false
set_option maxHeartbeats 8000000
set_option maxRecDepth 10000
namespace Go.Scarf
open Go.RowKit Go.Proofs Go.Proofs.Tryz
set_option maxRecDepth 100000
section
variable {H:Type}{enc:TypeId × Value->H}{W:World}{base:Nat}{sp:Nat->Bool}{held:Bool}
open Go.ChangeShapes Go.WideShapes Go.ChangeAt Go.Lib Go.Shelf Go.WideMaps Go.ChangeMaps
theorem ZO{n:Int}(h:(Lit.int .i64 n).wf=true):-9223372036854775808<=n/\n<=9223372036854775807:=by
  simpa[Lit.wf,IntKind.min,IntKind.max,IntKind.signed,IntKind.bits]using h
theorem cs27:prog.cellsOf 27=4:=by kernel_rfl
theorem cs9:prog.cellsOf 9=1:=by kernel_rfl
theorem cs3:prog.cellsOf 3=1:=by kernel_rfl
theorem cs24:prog.cellsOf 24=1:=by kernel_rfl
theorem cs25:prog.cellsOf 25=1:=by kernel_rfl
theorem bs_of(s:ByteArray):s=bs s.data.toList:=by cases s;rfl
theorem DS{e:TypeId}{m:Nat}{w:World}{ad:Addr}(hC:prog.cellsOf e=m):∀(len:Nat)(g:Nat->D),(∀i,i<len->∃cs,w.cells? base (ad.add (i*m)) m=some cs/\Rep (λ_=>True) w (g i) cs) ->
    ∃es:List Value,es.length=len*m/\CellsAt (λ_=>True) w ad es/\RepL (λ_=>True) w ((List.range len).map g) es
  | 0,g,_=>⟨[],by simp,λi hi=>absurd hi Da,RepL.nil_mk⟩
  | len + 1, g, h => by
    obtain⟨es,hl,hc,hr⟩:=DS hC len g (λi hi=>h i sX);obtain⟨cs,h1,h2⟩:=h len sX;obtain⟨_,hcl,hat⟩:=World.cells?_some h1;refine⟨es++cs,by rw[dQ,hl,hcl,Nat.add_mul,Nat.one_mul],λi hi=>⟨?_,trivial⟩,?_⟩
    ·by_cases hi' : i<es.length
     ·rw[List.getElem_append_left hi'];exact (hc i hi').1
     have hi2 : i-es.length<cs.length := by rw[dQ]at hi;omega
     rw[List.getElem_append_right sX];have:=hat (i-es.length) sX;rw[Lu,<-hl]at this;rw[show es.length+(i-es.length)=i by omega]at this;rw[this];exact List.getElem?_eq_getElem hi2
    rw[List.range_succ, jQ];exact RepL.append hr (by have:=RepL.cons_mk h2 RepL.nil_mk;rw[qQ]at this;exact this)
theorem O1{α:Type}[Inhabited α]{P:Nat->α->Prop}:∀(n:Nat),(∀i,i<n->∃a,P i a)->∃f:Nat->α,∀i,i<n->P i (f i)
  | 0,_=>⟨λ_=>default,λi hi=>absurd hi sX⟩
  | n + 1, h => by
    obtain⟨f,hf⟩:=O1 n (λi hi=>h i sX);obtain⟨a,ha⟩:=h n sX;refine⟨λi=>if i=n then a else f i,λi hi=>?_⟩;by_cases e:i=n
    ·subst e;simpa using ha
    simp only[e,if_false];exact hf i sX
theorem I1{t e:TypeId}{m:Nat}{fuel:Nat}{cs:List Value}{x:DataW H × List MemPlace}{α:Type}[Inhabited α]{g:α->D}(ht:prog.underlying t=some (.slice e))(hC:prog.cellsOf e=m)
    (hel:∀n,n<fuel->∀cs x,DataW.trod enc prog W base sp held n e cs=some x->∃a:α,Rep (λ_=>True) W (g a) cs) (h:DataW.trod enc prog W base sp held fuel t cs=some x) :
    ∃l:List α,Rep (λ_=>True) W (.slice (l.map g)) cs:=by
  rcases DataW.trod_slice ht h with ⟨rfl,-⟩|⟨a,len,cap,elems,rest,n,hn,rfl,-,hb,hl,hm,hlen,hall,-,-⟩
  ·exact⟨[],Rep.nil_slice 0 sX none⟩
  have hi:∀i,i<len->∃al:α,∃cs',W.cells? base (a.add (i*m)) m=some cs'/\Rep (λ_=>True) W (g al) cs':=by
    intro i hi;have h1:=hall i hi;have h2:elems[i]? = some (elems[i]' sX):=List.getElem?_eq_getElem sX;rw[h2,hC,Option.bind_eq_some_iff]at h1;obtain⟨cs',h3,h4⟩:=h1;obtain⟨al,hr⟩:=hel n sX _ _ h4;exact⟨al,cs',h3,hr⟩
  obtain⟨f,hf⟩:=O1 len hi;obtain⟨es,-,hc,hr⟩:=DS hC len (λi=>g (f i)) hf;refine⟨(List.range len).map f,?_⟩;rw[List.map_map];exact Rep.slice_mk Da hl hm (λ_=>⟨a,O,es,hc,hr⟩)
theorem UP{fuel:Nat}{cs:List Value}{x:DataW H × List MemPlace}(h:DataW.trod enc prog W base sp held fuel 9 cs=some x):∃s:Str,Rep (λ_=>True) W (Dq s) cs:=by
  obtain⟨s,rfl,-,hs⟩:=DataW.trod_string kX h;refine⟨s.data.toList,?_⟩;have e:[Value.string s]=[.string (bs s.data.toList)]:=by rw[<-bs_of]
  rw[e];exact Rep.lit_mk (by show s.data.toList.length<=_;rw[Array.length_toList];exact hs)
theorem ER{fuel:Nat}{cs:List Value}{x:DataW H × List MemPlace}(h:DataW.trod enc prog W base sp held fuel 3 cs=some x):∃n:Int,Rep (λ_=>True) W (Zd n) cs:=by
  obtain⟨n,rfl,-,hn⟩:=DataW.trod_int iX h;exact⟨n,Rep.lit_mk ⟨(ZO hn).1,(ZO hn).2⟩⟩
instance : Inhabited Tree:=⟨.node 0 [] [] []⟩
theorem tree_of:∀(fuel:Nat)(cs:List Value)(x:DataW H × List MemPlace),DataW.trod enc prog W base sp held fuel 27 cs=some x->∃t:Tree,Rep (λ_=>True) W (Zb t) cs:=by
  intro fuel
  induction fuel using Nat.strongRecOn with
  | _ fuel ih =>
    intro cs x h;obtain⟨xs,n,rfl,-,hcl,hxl,hf⟩:=DataW.trod_struct underlying27 h;rw[cs27]at hcl;have get:∀(i:Nat)(hi:i<4),xs[i]? = some (xs[i]'(by rw[hxl];exact hi)):=λi hi=>List.getElem?_eq_getElem _;have h0:=(hf 0 _ rfl).trans (get 0 sX);have h1:=(hf 1 _ rfl).trans (get 1 sX);have h2:=(hf 2 _ rfl).trans (get 2 sX);have h3:=(hf 3 _ rfl).trans (get 3 sX);obtain⟨k,hk⟩:=ER h0;obtain⟨t,ht⟩:=UP h1;obtain⟨ks,hks⟩:=I1 (g:=Dq) dX cs9 (λn _ cs x h=>UP h) h2;obtain⟨ys,hys⟩:=I1 (g:=Zb) fX cs27 (λm hm cs x h=>ih m sX cs x h) h3;refine⟨.node k t ks ys,?_⟩;have e:cs=(cs.drop 0).take (prog.cellsOf 3)++((cs.drop 1).take (prog.cellsOf 9)++((cs.drop 2).take (prog.cellsOf 24)++((cs.drop 3).take (prog.cellsOf 25)++[]))):=by
      rw[cs3,cs9,cs24,cs25]
      match cs,hcl with
      | [a,b,c,d],_=>rfl
    rw[e];unfold Zb;rw[<-Be]at hys;exact Rep.agg_mk (RepL.cons_mk hk (RepL.cons_mk ht (RepL.cons_mk hks (RepL.cons_mk hys RepL.nil_mk))))
theorem TG{r:Reach}{b0:Nat}{v:Value}{d:DataW H}{q:List MemPlace}(hv:Value.okWide prog W r b0 3 v)(h:DataW.Trod enc prog W base sp held 3 v d q) :
    ∃n:Int,v=J n/\-9223372036854775808<=n/\n<=9223372036854775807:=by
  obtain⟨n,rfl,-,-,hn⟩:=open_int iX hv h;exact⟨n,O,ZO hn⟩
theorem PY:laidOutB prog=true:=by kernel_rfl
theorem SD{W':World}{t:TypeId}(hr:prog.readableRec t=true)(hrow:t<prog.types.size){v:Value}{d:DataW H}{ps:List MemPlace}(hb:Below W.heap.size W W')(hlt:∀p∈ps,p.block<W.heap.size)
    (h:DataW.Trod enc prog W 0 (λ_=>true) true t v d ps):DataW.Trod enc prog W' 0 (λb=>decide (b<W.heap.size)) true t v d ps :=
  WideElems.Trod_stays PY hr hrow h (λp hp=>hb.same (hlt p hp)) (λp hp=>by simpa using hlt p hp)
theorem rec3:prog.readableRec 3=true:=by kernel_rfl
theorem row3:3<prog.types.size:=of_decide_eq_true Mb
end
section
open Go.Lib Go.Shelf Go.Proofs.YtndkhbfnfagbgaaGreatDoor
def Uq:List (String × DataW Unit):=[("math/bits.deBruijn32tab", Rows.laid_math_bits_deBruijn32tab),("math/bits.deBruijn64tab", Rows.laid_math_bits_deBruijn64tab),("internal/strconv.uint64pow10", Rows.laid_internal_strconv_uint64pow10),("unicode/utf8.acceptRanges", Rows.laid_unicode_utf8_acceptRanges),("strconv.ErrRange", Rows.laid_strconv_ErrRange),("strconv.ErrSyntax", Rows.laid_strconv_ErrSyntax),("unicode/utf8.first", Rows.laid_unicode_utf8_first)]
theorem u8x:U8Extra prog lays196_ren:=⟨by kernel_rfl,by kernel_rfl,by kernel_rfl,by kernel_rfl,by kernel_rfl,by kernel_rfl,by kernel_rfl⟩
theorem Dp{W:World}{n:String}{g:Nat}{cs:Array Value}(hg:prog.globalNamed n=some g)(h:World.var? prog W n=some cs):∃e fz,W.heap[g]? = some (.cells cs e fz):=by
  unfold World.var? at h;rw[hg]at h;simp only[Option.bind_some]at h;split at h
  ·rename_i cs' e fz hh
   injection h with h
   subst h;exact⟨e,fz,hh⟩
  cases h
theorem HG{enc:TypeId × Value->Unit}{W:World}{base fuel:Nat}{sp:Nat->Bool}{t:TypeId}{cs:List Value}{nm:String}{d:DataW Unit}{q:List MemPlace}(ht':∃ms,prog.underlying t=some (.interface ms))
    (h:DataW.trod enc prog W base sp false fuel t cs=some (.iface nm d,q)):∃u v,cs=[.iface u v]:=by
  obtain⟨ms,ht⟩:=ht';cases fuel with
  | zero=>simp[DataW.trod]at h
  | succ fuel =>
    unfold DataW.trod at h;rw[ht]at h;split at h <;> first|(cases h;done)|(simp at h;done)|skip
    all_goals first|exact⟨_,_,rfl⟩|(simp_all;done)
theorem NO{W:World}(h:laidMetH prog Uq W):Gl W:=by
  rw[MakeChecks.laidMetH_plain _ _ _ Mb]at h;have r:∀ n d,(n,d)∈Uq->VarReads prog W n d:=λn d hm=>Lib.laidMet.reads h hm;have hT:=utf8Tabs_of_readsT (U8Types.of196 lays196) u8x (w:=W) (Pinned.utf8First_eq▸r "unicode/utf8.first" _ (by simp[Uq,Rows.laid_unicode_utf8_first])) ((by kernel_rfl:Rows.laid_unicode_utf8_acceptRanges=acceptData)▸r "unicode/utf8.acceptRanges" _ (by simp[Uq]));refine⟨?_,hT,?_,?_,?_,?_⟩
  ·obtain⟨g, t, cs, fuel, q, hg, hty, hvar, hd⟩ := r "math/bits.deBruijn64tab" Rows.laid_math_bits_deBruijn64tab (by simp[Uq])
   obtain rfl:=lQ ((show prog.globalNamed "math/bits.deBruijn64tab" = some 6 by kernel_rfl).symm.trans hg);obtain⟨e,fz,hh⟩:=Dp hg hvar;have:=Ma hh;omega
  ·obtain⟨g, t, cs, fuel, q, hg, hty, hvar, hd⟩ := r "internal/strconv.uint64pow10" Rows.laid_internal_strconv_uint64pow10 (by simp[Uq])
   obtain rfl:=lQ ((show prog.globalNamed "internal/strconv.uint64pow10" = some 2 by kernel_rfl).symm.trans hg);obtain rfl:=lQ ((show (prog.globals[2]?).map (·.type)=some 270 by kernel_rfl).symm.trans hty);have hcs:=cells_of_tab (zs:=Lib.pow10Tab) (k:=.u64) underlying270 underlying149 Mb Mb ((by kernel_rfl:(Rows.laid_internal_strconv_uint64pow10:DataW Unit)=tabData .u64 Lib.pow10Tab)▸hd);obtain⟨e,fz,hh⟩:=Dp hg hvar;refine⟨e,fz,?_⟩;rw[hh,<-hcs]
  ·obtain⟨g, t, cs, fuel, q, hg, hty, hvar, hd⟩ := r "strconv.ErrRange" Rows.laid_strconv_ErrRange (by simp[Uq])
   obtain rfl:=lQ ((show prog.globalNamed "strconv.ErrRange" = some 4 by kernel_rfl).symm.trans hg);obtain rfl:=lQ ((show (prog.globals[4]?).map (·.type)=some 229 by kernel_rfl).symm.trans hty);obtain⟨u,v,hcs⟩:=HG ⟨_,underlying229⟩ hd;obtain⟨e,fz,hh⟩:=Dp hg hvar;refine⟨u,v,e,fz,?_⟩;rw[hh];congr 1;congr 1;exact Array.toList_inj.1 hcs
  ·obtain⟨g, t, cs, fuel, q, hg, hty, hvar, hd⟩ := r "strconv.ErrSyntax" Rows.laid_strconv_ErrSyntax (by simp[Uq])
   obtain rfl:=lQ ((show prog.globalNamed "strconv.ErrSyntax" = some 3 by kernel_rfl).symm.trans hg);obtain rfl:=lQ ((show (prog.globals[3]?).map (·.type)=some 229 by kernel_rfl).symm.trans hty);obtain⟨u,v,hcs⟩:=HG ⟨_,underlying229⟩ hd;obtain⟨e,fz,hh⟩:=Dp hg hvar;refine⟨u,v,e,fz,?_⟩;rw[hh];congr 1;congr 1;exact Array.toList_inj.1 hcs
  obtain⟨g, t, cs, fuel, q, hg, hty, hvar, hd⟩ := r "math/bits.deBruijn64tab" Rows.laid_math_bits_deBruijn64tab (by simp[Uq]);obtain rfl:=lQ ((show prog.globalNamed "math/bits.deBruijn64tab" = some 6 by kernel_rfl).symm.trans hg);obtain rfl:=lQ ((show (prog.globals[6]?).map (·.type)=some 322 by kernel_rfl).symm.trans hty);have hcs:=cells_of_tab (zs:=MM) (k:=.u8) underlying322 underlying5 Mb Mb ((by kernel_rfl:(Rows.laid_math_bits_deBruijn64tab:DataW Unit)=tabData .u8 MM)▸hd);obtain⟨e,fz,hh⟩:=Dp hg hvar;refine⟨e,fz,?_⟩;rw[hh,<-hcs]
theorem own_:ownKnob prog.godebug=none:=by kernel_rfl
theorem wit_(os:Os)(args:Array Value):laidMetH prog Uq ((World.laidAll prog os Uq).forCall (λ_ _=>0) ⟨#[],args,[]⟩).memory:=by
  rw[MakeChecks.laidMetH_plain _ _ _ Mb];exact laidMet_laidAll _ Mb Mb
end
open Go.RowKit
section
variable {S:Nat->Prop}{w:World}
theorem Rep.slice_is{ds:List D}{v:Value}(h:Rep S w (.slice ds) [v]):∃A c,v=.slice A ds.length c:=by
  rw[Rep]at h;obtain⟨A,c,he,-⟩:=h;exact⟨A,c,(List.cons.inj he).1⟩
theorem Rep.elem1{ds:List D}{A:Option Addr}{len c:Nat}(h:Rep S w (.slice ds) [.slice A len c])(hs:∀d∈ds,Wd d=1){i:Nat}(hi:i<ds.length) :
    ∃ad v,A=some ad/\w.cell? (ad.add (i*1))=some v/\Rep S w ds[i] [v]:=by
  obtain⟨ad,cs,hA,hl,hc,hr⟩:=Rep.elem (sz:=1) h hs hi
  match cs,hl with
  | [v], _ =>
    have:=hc 0 Da;simp only[Vo,List.getElem_cons_zero]at this;exact⟨ad,v,hA,this,hr⟩
theorem Rep.row_elem{rows:List (List Str)}{A:Option Addr}{len c:Nat}(h:Rep S w (.slice (rows.map Xd)) [.slice A len c]){i:Nat}(hi:i<rows.length) :
    ∃ad B e,A=some ad/\w.cell? (ad.add (i*1))=some (.slice B rows[i].length e)/\Rep S w (Xd rows[i]) [.slice B rows[i].length e]:=by
  obtain⟨ad,v,hA,hc,hr⟩:=Rep.elem1 h (λd hd=>by obtain⟨k,_,rfl⟩:=nQ.1 hd;rfl) (i:=i) (by simpa using hi);rw[List.getElem_map]at hr;obtain⟨B,e,he⟩:=Rep.slice_is hr;rw[rQ]at he;subst he;exact⟨ad,B,e,hA,hc,hr⟩
theorem Rep.int_elem{ns:List Int}{A:Option Addr}{len c:Nat}(h:Rep S w (.slice (ns.map Zd)) [.slice A len c]){i:Nat}(hi:i<ns.length) :
    ∃ad,A=some ad/\w.cell? (ad.add (i*1))=some (J ns[i])/\(-9223372036854775808<=ns[i]/\ns[i]<=9223372036854775807):=by
  obtain⟨ad,v,hA,hc,hr⟩:=Rep.elem1 h (λd hd=>by obtain⟨k,_,rfl⟩:=nQ.1 hd;rfl) (i:=i) (by simpa using hi);rw[List.getElem_map,Zd,Rep]at hr;obtain⟨he,hk⟩:=hr;obtain rfl:=(List.cons.inj he).1;exact⟨ad,hA,hc,hk⟩
end
def BB(q:Int × Int):D:=.agg [Zd q.1,Zd q.2]
def G3(m:List (Int × Int)):D:=.slice (m.map BB)
abbrev M2(q:Int × Int):List Value:=[J q.1,J q.2]
def I9(m:List (Int × Int)):List Value:=m.flatMap M2
section
variable {S:Nat->Prop}{w:World}
theorem CX{q:Int × Int}{cs:List Value}(h:Rep S w (BB q) cs):cs=M2 q/\(-9223372036854775808<=q.1/\q.1<=9223372036854775807)/\(-9223372036854775808<=q.2/\q.2<=9223372036854775807):=by
  simp only[BB,Zd,Rep,RepL]at h;obtain⟨c1,c2,rfl,⟨rfl,h1⟩,c3,c4,rfl,⟨rfl,h2⟩,rfl⟩:=h;exact⟨O,h1,h2⟩
theorem rep_pair{q:Int × Int}(h1:-9223372036854775808<=q.1/\q.1<=9223372036854775807)(h2:-9223372036854775808<=q.2/\q.2<=9223372036854775807):Rep S w (BB q) (M2 q):=by
  simp only[BB,Zd,Rep,RepL];exact⟨_,_,O,⟨O,h1⟩,_,_,O,⟨O,h2⟩,O⟩
theorem Rep.pair_elem{m:List (Int × Int)}{A:Option Addr}{len c:Nat}(h:Rep S w (G3 m) [.slice A len c]){i:Nat}(hi:i<m.length) :
    ∃ad,A=some ad/\(∀j (hj:j<(M2 m[i]).length),w.cell? ((ad.add (i*2)).add j)=some (M2 m[i])[j])/\(-9223372036854775808<=m[i].1/\m[i].1<=9223372036854775807)/\(-9223372036854775808<=m[i].2/\m[i].2<=9223372036854775807):=by
  obtain⟨ad,cs,hA,hl,hc,hr⟩:=Rep.elem (sz:=2) h (λd hd=>by obtain⟨k,_,rfl⟩:=nQ.1 hd;rfl) (i:=i) (by simpa using hi);rw[List.getElem_map]at hr;obtain⟨rfl,h1,h2⟩:=CX hr;exact⟨ad,hA,hc,h1,h2⟩
theorem Rep.pairs_len{m:List (Int × Int)}{A:Option Addr}{len c:Nat}(h:Rep S w (G3 m) [.slice A len c]):len=m.length/\len<=c/\c<=9223372036854775807:=by
  have:=h.slice_len
  rwa [rQ]at this
def Kp(x:List Str × List Int):D:=.agg [Xd x.1,.slice (x.2.map Zd)]
theorem RY{x:List Str × List Int}{cs:List Value}(h:Rep S w (Kp x) cs):∃A c B e,cs=[.slice A x.1.length c,.slice B x.2.length e]/\Rep S w (Xd x.1) [.slice A x.1.length c]/\Rep S w (.slice (x.2.map Zd)) [.slice B x.2.length e]:=by
  rw[Kp,Rep,RepL]at h;obtain⟨c1,c2,rfl,h1,h2⟩:=h;rw[RepL]at h2;obtain⟨c3,c4,rfl,h2,h3⟩:=h2;rw[RepL]at h3;subst h3;obtain⟨A,c,e1⟩:∃A c,c1=[.slice A x.1.length c]:=by
    have h1':=h1;rw[Xd,Rep]at h1';obtain⟨A,c,he,-⟩:=h1';exact⟨A,c,by rw[he,rQ]⟩
  obtain⟨B,e,e2⟩:∃A c,c3=[.slice A x.2.length c]:=by
    have h2':=h2;rw[Rep]at h2';obtain⟨A,c,he,-⟩:=h2';exact⟨A,c,by rw[he,rQ]⟩
  subst e1 e2;exact⟨A,c,B,e,O,h1,h2⟩
theorem SX{x:List Str × List Int}{A B:Option Addr}{c e:Nat}(h1:Rep S w (Xd x.1) [.slice A x.1.length c])(h2:Rep S w (.slice (x.2.map Zd)) [.slice B x.2.length e]):Rep S w (Kp x) [.slice A x.1.length c,.slice B x.2.length e]:=by
  rw[Kp,Rep,RepL];refine⟨_,_,O,h1,?_⟩;rw[RepL];exact⟨_,_,O,h2,by rw[RepL]⟩
theorem Rep.node_elem{l:List (List Str × List Int)}{A:Option Addr}{len c:Nat}(h:Rep S w (.slice (l.map Kp)) [.slice A len c]){i:Nat}(hi:i<l.length) :
    ∃ad A1 c1 B1 e1, A = some ad /\ (∀j (hj : j<[Value.slice A1 l[i].1.length c1, .slice B1 l[i].2.length e1].length), w.cell? ((ad.add (i*2)).add j) = some [Value.slice A1 l[i].1.length c1, .slice B1 l[i].2.length e1][j]) /\
      Rep S w (Xd l[i].1) [.slice A1 l[i].1.length c1]/\Rep S w (.slice (l[i].2.map Zd)) [.slice B1 l[i].2.length e1]:=by
  obtain⟨ad,cs,hA,hl,hc,hr⟩:=Rep.elem (sz:=2) h (λd hd=>by obtain⟨k,_,rfl⟩:=nQ.1 hd;rfl) (i:=i) (by simpa using hi);rw[List.getElem_map]at hr;obtain⟨A1,c1,B1,e1,rfl,h1,h2⟩:=RY hr;exact⟨ad,A1,c1,B1,e1,hA,hc,h1,h2⟩
end
section
variable {H:Type}{enc:TypeId × Value->H}{W:World}{base:Nat}{sp:Nat->Bool}{held:Bool}
open Go.ChangeShapes Go.WideShapes Go.ChangeAt Go.Lib Go.Shelf
theorem open_sl{t e:TypeId}{m:Nat}{α:Type}[Inhabited α]{g:α->D}{r:Reach}{b0:Nat}{v:Value}{d:DataW H}{q:List MemPlace}(ht:prog.underlying t=some (.slice e))(hC:prog.cellsOf e=m)
    (hel:∀n cs x,DataW.trod enc prog W base sp held n e cs=some x->∃a:α,Rep (λ_=>True) W (g a) cs) (hv:Value.okWide prog W r b0 t v) (h:DataW.Trod enc prog W base sp held t v d q) :
    ∃(l:List α)(A:Option Addr)(c:Nat),v=.slice A l.length c/\Rep (λ_=>True) W (.slice (l.map g)) [.slice A l.length c]:=by
  obtain⟨A,n,c,rfl⟩:=okWide_slice ht hv;obtain⟨fuel,hf⟩:=h;obtain⟨l,hl⟩:=I1 ht hC (λn _ cs x h=>hel n cs x h) hf;have hl2:Rep (λ_=>True) W (.slice (l.map g)) [.slice A n c]:=hl;obtain⟨A2,c2,he⟩:=Rep.slice_is hl2;rw[rQ]at he;obtain⟨rfl,rfl,rfl⟩:=Value.slice.inj he;exact⟨l,A,c,O,hl2⟩
end
section
variable {H:Type}{enc:TypeId × Value->H}{W:World}{base:Nat}{sp:Nat->Bool}{held:Bool}
end
section
variable {H:Type}{enc:TypeId × Value->H}{W:World}{base:Nat}{sp:Nat->Bool}{held:Bool}
end
def Ub(N:Nat)(f:Nat->Int):Array Value:=((List.range N).map λk=>Value.int .i64 (f k)).toArray
theorem Oi(N:Nat)(f:Nat->Int):(Ub N f).size=N:=by simp[Ub]
theorem Xo{N k:Nat}{f:Nat->Int}(h:k<N):(Ub N f)[k]? = some (J (f k)):=by simp[Ub,h]
def Ej(f:Nat->Int)(k:Nat)(v:Int):Nat->Int:=λx=>if x=k then v else f x
theorem Zx(f:Nat->Int)(k:Nat)(v:Int):Ej f k v k=v:=if_pos rfl
theorem Eu{f:Nat->Int}{k x:Nat}{v:Int}(h:x≠k):Ej f k v x=f x:=if_neg h
theorem Yh{N k:Nat}{f:Nat->Int}(v:Int):putA (Ub N f) k [J v]=Ub N (Ej f k v):=by
  rw[putA,putA];apply Array.ext
  ·simp[Ub]
  intro i h1 h2;rw[Array.getElem_setIfInBounds (by simpa using h1)];by_cases e:k=i
  ·subst e;simp[Ub,Ej]
  have e' : ¬ i = k := λh => e h.symm;simp[Ub,Ej,e,e']
theorem DL(N:Nat):(List.replicate N (Value.int .i64 0)).toArray=Ub N λ_=>0:=by
  apply Array.ext
  ·simp[Ub]
  intro i h1 h2;simp[Ub]
theorem CH{N:Nat}{f g:Nat->Int}(h:∀k<N,f k=g k):Ub N f=Ub N g:=by
  unfold Ub
  congr 1
  exact List.map_congr_left λk hk=>by rw[h k (List.mem_range.1 hk)]
section
variable {w0 w w':World}{Ds:List Nat}{bs:List (Nat × Obj)}
theorem FR.intCell(hF:FR w0 Ds bs w)(i:Nat){b N k:Nat}{f:Nat->Int}{T:TypeId}(hi:bs[i]? = some (b,.cells (Ub N f) T))(hk:k<N):w.cell? ⟨b,k,none⟩=some (J (f k)):=by
  rw[Pb (hF.heap hi),Xo hk]
structure Grid2 (w:World) (pb n m:Nat) (T1 T2:TypeId) (rb:Nat->Nat) (p:Nat->Nat->Int):Prop where
  top:w.heap[pb]? = some (.cells ((List.range n).map λi=>Value.slice (some ⟨rb i,0,none⟩) m m).toArray T1)
  row:∀i,i<n->w.heap[rb i]? = some (.cells (Ub m (p i)) T2)
  inj:∀i j,i<n->j<n->rb i=rb j->i=j
  ne:∀i,i<n->rb i≠pb
variable {pb n m:Nat}{T1 T2:TypeId}{rb:Nat->Nat}{p:Nat->Nat->Int}
theorem Grid2.rowCell(h:Grid2 w pb n m T1 T2 rb p){i:Nat}(hi:i<n):w.cell? ⟨pb,i,none⟩=some (.slice (some ⟨rb i,0,none⟩) m m):=by
  rw[Pb h.top];simp[hi]
theorem Grid2.cell(h:Grid2 w pb n m T1 T2 rb p){i j:Nat}(hi:i<n)(hj:j<m):w.cell? ⟨rb i,j,none⟩=some (J (p i j)):=by
  rw[Pb (h.row i hi),Xo hj]
theorem Grid2.keep(h:Grid2 w pb n m T1 T2 rb p){E:List Nat}(hs:Same E w w')(h1:pb∉E)(h2:∀i,i<n->rb i∉E):Grid2 w' pb n m T1 T2 rb p :=
  ⟨(hs.block _ (Ma h.top) h1).trans h.top,λi hi=>(hs.block _ (Ma (h.row i hi)) (h2 i hi)).trans (h.row i hi),h.inj,h.ne⟩
theorem Grid2.ext(h:Grid2 w pb n m T1 T2 rb p)(hs:Same [] w w'):Grid2 w' pb n m T1 T2 rb p:=h.keep hs Da Da
def Gj(p:Nat->Nat->Int)(i j:Nat)(v:Int):Nat->Nat->Int:=λa=>if a=i then Ej (p i) j v else p a
theorem Fk(p:Nat->Nat->Int)(i j:Nat)(v:Int):Gj p i j v i j=v:=by simp[Gj,Ej]
theorem Bv{p:Nat->Nat->Int}{i j a b:Nat}{v:Int}(h:¬(a=i/\b=j)):Gj p i j v a b=p a b:=by
  unfold Gj;by_cases e:a=i
  ·subst e;rw[if_pos rfl,Eu λq=>h ⟨rfl,q⟩]
  rw[if_neg e]
theorem Grid2.put(h:Grid2 w pb n m T1 T2 rb p){i j:Nat}{v:Int}(hi:i<n)(hs:Same [rb i] w w')(hn:w'.heap[rb i]? = some (.cells (Ub m (Ej (p i) j v)) T2)):Grid2 w' pb n m T1 T2 rb (Gj p i j v):=by
  refine⟨(hs.block _ (Ma h.top) (by simpa using λe=>h.ne i hi e.symm)).trans h.top,λa ha=>?_,h.inj,h.ne⟩;by_cases e:a=i
  ·subst e;rw[hn];simp[Gj]
  have : w'.heap[rb a]? = w.heap[rb a]? := hs.block _ (Ma (h.row a ha)) (by simpa using λq => e (h.inj a i ha hi q));rw[this,h.row a ha,Gj,if_neg e]
end
section
variable {P:Program}{R:Exit->Act->World->Prop}{n:Nat}{k:Kt}{s:Nat->Value}{w:World}{ops rest:List Oper}
variable {ty:TypeId}{pos:String}{aft:Array Edge}{g:Option (Nat × Bool)}{w0:World}{Ds:List Nat}{bs:List (Nat × Obj)}
theorem WZ{t T:TypeId}{x y:Operand}{b j m:Nat}{f:Nat->Int}{v:Int}(hF:FR w0 Ds bs w)(hs:∀w,(sizeOf t).run P w=.ok 1 w)
    (hx:ev n s x=.pointer (some ⟨b,j,none⟩)) (hy:ev n s y=J v) (hh:w.heap[b]? = some (.cells (Ub m f) T)) (hj:j<m) (hD:b∈Ds) (hn:∀p∈bs,p.1≠b)
    (h:∀w',FR w0 Ds bs w'->Same [b] w w'->w'.heap[b]? = some (.cells (Ub m (Ej f j v)) T)->Og P R n ops k rest s w')
    (hw:Vb ops n s ⟨none,.store t x y,ty,pos,aft,g⟩=true:=by rfl):Og P R n ops k (⟨none,.store t x y,ty,pos,aft,g⟩::rest) s w:=by
  have hsp:=Vj b j (fz:=(0,0)) [J v] 0 w (Ub m f) hh;rw[Nat.add_zero,Yh]at hsp;refine Z3 (Y0 (l:=[J v]) hs hx hy O Le λi hi=>?_) (h (putCells w ⟨b,j,none⟩ 0 [J v]) (hF.touch hsp.2 λb' hb=>?_) hsp.2 hsp.1) hw
  ·obtain rfl : i = 0 := by simp at hi;omega
   rw[Vo,Pb hh];exact⟨⟨_,Xo hj⟩,Tk hh _⟩
  obtain rfl := pQ.1 hb;exact⟨λ_=>hD,hn⟩
end
theorem SY(z:Value)(n:Nat):madeCells #[z] n=(List.replicate n z).toArray:=by
  unfold madeCells;apply Array.ext
  ·simp
  intro i h1 h2;simp[Nat.mod_one]
section
variable {P:Program}{w:World}{ρ:Operand->Value}{dst:Option Nat}{ty:TypeId}{pos:String}{aft:Array Edge}{g:Option (Nat × Bool)}
theorem TD{t e bytes:Nat}{z:Value}{x y:Operand}{N:Nat}(hE:Elems P t e 1 bytes)(hz0:(P.info? e).map (·.zero)=some (some z))(hc:z.cells=#[z])(hx:ρ x=J (N:Int))(hy:ρ y=J (N:Int))(h:N<=1000000000)(hb:bytes<=32) :
    (execOp ρ ⟨dst,.makeSlice t x y,ty,pos,aft,g⟩).run P w=.ok (.value (.slice (some ⟨w.heap.size,0,none⟩) N N)) (w.alloc (.cells (List.replicate N z).toArray e)):=by
  obtain⟨i,z',hi,hz,hs,hby,-⟩:=hE.info;rw[hi]at hz0;have ez:i.zero=some z:=by simpa using hz0
  have hle:(i.bytes:Int)*(N:Int)<=281474976710656:=by
    rw[hby];have:bytes*N<=32*1000000000:=Nat.mul_le_mul hb h;have h2:((bytes*N:Nat):Int)<=281474976710656:=by omega
    rwa [Int.natCast_mul]at h2
  have hr:=run_make (P:=P) w t e i z hE.ht hi ez .i64 .i64 N N sX (Int.le_refl _) hle sX;rw[hs,Nat.mul_one,hc,Int.toNat_natCast,SY]at hr;simp[execOp,hx,hy,hr]
theorem Kn{t e:Nat}{x y:Operand}{N:Nat}(hE:Elems P t e 1 8)(hz0:(P.info? e).map (·.zero)=some (some (J 0)))(hx:ρ x=J (N:Int))(hy:ρ y=J (N:Int))(h:N<=1000000000) :
    (execOp ρ ⟨dst,.makeSlice t x y,ty,pos,aft,g⟩).run P w=.ok (.value (.slice (some ⟨w.heap.size,0,none⟩) N N)) (w.alloc (.cells (Ub N λ_=>0) e)):=by
  rw[<-DL];exact TD hE hz0 O hx hy h Ua
end
section
variable {α:Type}(sz:α->Nat)(p:α->α->Nat)
def alRow(x:α)(rec:List α->Nat):List α->Nat
  | []=>sz x+rec []
  | y::ys=>min (p x y+rec ys) (min (sz x+rec (y::ys)) (sz y+alRow x rec ys))
def alNil:List α->Nat
  | []=>0
  | y::ys=>sz y+alNil ys
def al:List α->List α->Nat
  | []=>alNil sz
  | x::xs=>alRow sz p x (al xs)
inductive Ali:List α->List α->Nat->Prop
  | nil:Ali [] [] 0
  | pair {x y:α} {xs ys:List α} {c:Nat}:Ali xs ys c->Ali (x::xs) (y::ys) (p x y+c)
  | drop {x:α} {xs ys:List α} {c:Nat}:Ali xs ys c->Ali (x::xs) ys (sz x+c)
  | add {y:α} {xs ys:List α} {c:Nat}:Ali xs ys c->Ali xs (y::ys) (sz y+c)
end
section
variable {α:Type}{sz:α->Nat}{p:α->α->Nat}
theorem ZR(y:α)(ys:List α):al sz p [] (y::ys)=sz y+al sz p [] ys:=rfl
theorem al_cn(x:α)(xs:List α):al sz p (x::xs) []=sz x+al sz p xs []:=rfl
theorem FC(x y:α)(xs ys:List α):al sz p (x::xs) (y::ys)=min (p x y+al sz p xs ys) (min (sz x+al sz p xs (y::ys)) (sz y+al sz p (x::xs) ys)):=rfl
theorem GM(x:α)(xs ys:List α):al sz p (x::xs) ys<=sz x+al sz p xs ys:=by
  cases ys with
  | nil=>exact gQ _
  | cons y ys=>rw[FC];omega
theorem Ali.append{xs ys xs' ys':List α}{c c':Nat}(h:Ali sz p xs ys c)(h':Ali sz p xs' ys' c'):Ali sz p (xs++xs') (ys++ys') (c+c'):=by
  induction h with
  | nil=>simpa using h'
  | pair _ ih=>rw[Nat.add_assoc];exact .pair ih
  | drop _ ih=>rw[Nat.add_assoc];exact .drop ih
  | add _ ih=>rw[Nat.add_assoc];exact .add ih
theorem Ali.zero(hz:∀x,1<=sz x){xs ys:List α}{c:Nat}(h:Ali sz p xs ys c)(hc:c=0):xs.length=ys.length/\∀i (h1:i<xs.length) (h2:i<ys.length),p xs[i] ys[i]=0:=by
  induction h with
  | nil=>exact⟨rfl,λi h1=>absurd h1 Da⟩
  | @pair x y xs ys c _ ih =>
    obtain⟨h1,h2⟩:=ih sX;refine⟨by simpa using h1,λi hi hj=>?_⟩
    match i,hi,hj with
    | 0,_,_=>show p x y=0;omega
    | i+1,hi,hj=>exact h2 i (by simpa using hi) (by simpa using hj)
  | @drop x _ _ _ _ _=>have:=hz x;omega
  | @add y _ _ _ _ _=>have:=hz y;omega
theorem Ali.pop(ht:∀x y,sz x<=p x y+sz y){xs zs:List α}{c:Nat}(h:Ali sz p xs zs c):∀{ys:List α}{v:α},zs=ys++[v]->∃c',Ali sz p xs ys c'/\c'<=c+sz v:=by
  induction h with
  | nil=>intro ys v e;simp at e
  | @pair x y xs zs c h ih =>
    intro ys v e;cases ys with
    | nil =>
      simp only[List.nil_append,List.cons.injEq]at e;obtain⟨rfl,rfl⟩:=e;exact⟨_,.drop h,by have:=ht x y;omega⟩
    | cons y' ys =>
      simp only[List.cons_append,List.cons.injEq]at e;obtain⟨rfl,e⟩:=e;obtain⟨c',h1,h2⟩:=ih e;exact⟨_,.pair h1,by omega⟩
  | @drop x xs zs c h ih =>
    intro ys v e;obtain⟨c',h1,h2⟩:=ih e;exact⟨_,.drop h1,by omega⟩
  | @add y xs zs c h ih =>
    intro ys v e;cases ys with
    | nil =>
      simp only[List.nil_append,List.cons.injEq]at e;obtain⟨rfl,rfl⟩:=e;exact⟨_,h,by omega⟩
    | cons y' ys =>
      simp only[List.cons_append,List.cons.injEq]at e;obtain⟨rfl,e⟩:=e;obtain⟨c',h1,h2⟩:=ih e;exact⟨_,.add h1,by omega⟩
end
end Go.Scarf
