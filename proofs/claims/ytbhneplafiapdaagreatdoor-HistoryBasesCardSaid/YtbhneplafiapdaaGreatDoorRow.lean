/- A part of the proof. -/
import Derived.Test.YtbhneplafiapdaaGreatDoorTie
import Derived.Test.YtbhneplafiapdaaGreatDoorShelf2
import Derived.Test.YtbhneplafiapdaaGreatDoorW1
import Derived.ProofKit
import Derived.Shelf.Lay
import Derived.PinnedBridge
import Derived.Lay
import Derived.LaidOnce
import Derived.SevenTiedAt
import Derived.Lib.LaidU8T
import Derived.Lib.LaidTab
import Derived.Deep.Slices
import Derived.WideKeyArgs
set_option linter.all false
set_option maxHeartbeats 8000000
set_option maxRecDepth 10000
namespace Go.Scarf
open Go.RowKit Go.Proofs Go.Proofs.Tryz
set_option maxRecDepth 100000
section
variable {H:Type}{enc:TypeId × Value->H}{W:World}{base:Nat}{sp:Nat->Bool}{held:Bool}
open Go.ChangeShapes Go.WideShapes Go.ChangeAt Go.Lib Go.Shelf Go.WideMaps Go.ChangeMaps
theorem B6{n:Int}(h:(Lit.int .i64 n).wf=true):-9223372036854775808<=n/\n<=9223372036854775807:=by
  simpa[Lit.wf,IntKind.min,IntKind.max,IntKind.signed,IntKind.bits]using h
theorem JL:prog.cellsOf 27=4:=by kernel_rfl
theorem ZR:prog.cellsOf 9=1:=by kernel_rfl
theorem EN:prog.cellsOf 3=1:=by kernel_rfl
theorem VR:prog.cellsOf 24=1:=by kernel_rfl
theorem QR:prog.cellsOf 25=1:=by kernel_rfl
theorem DO(s:ByteArray):s=bs s.data.toList:=by cases s;rfl
theorem R8{e:TypeId}{m:Nat}{w:World}{ad:Addr}(hC:prog.cellsOf e=m):∀(len:Nat)(g:Nat->D),(∀i,i<len->∃cs,w.cells? base (ad.add (i*m)) m=some cs/\Rep (λ_=>True) w (g i) cs) ->
    ∃es:List Value,es.length=len*m/\CellsAt (λ_=>True) w ad es/\RepL (λ_=>True) w ((List.range len).map g) es
  | 0,g,_=>⟨[],by simp,λi hi=>absurd hi Pa,RepL.nil_mk⟩
  | len + 1, g, h => by
    obtain⟨es,hl,hc,hr⟩:=R8 hC len g (λi hi=>h i Ca);obtain⟨cs,h1,h2⟩:=h len Ca;obtain⟨_,hcl,hat⟩:=World.cells?_some h1;refine⟨es++cs,by rw[dQ,hl,hcl,Nat.add_mul,Nat.one_mul],λi hi=>⟨?_,trivial⟩,?_⟩
    ·by_cases hi' : i<es.length
     ·rw[List.getElem_append_left hi'];exact (hc i hi').1
     have hi2 : i-es.length<cs.length := by rw[dQ]at hi;omega
     rw[List.getElem_append_right Ca];have:=hat (i-es.length) Ca;rw[Uo,<-hl]at this;rw[show es.length+(i-es.length)=i by omega]at this;rw[this];exact List.getElem?_eq_getElem hi2
    rw[List.range_succ, jQ];exact RepL.append hr (by have:=RepL.cons_mk h2 RepL.nil_mk;rw[qQ]at this;exact this)
theorem Rp{α:Type}[Inhabited α]{P:Nat->α->Prop}:∀(n:Nat),(∀i,i<n->∃a,P i a)->∃f:Nat->α,∀i,i<n->P i (f i)
  | 0,_=>⟨λ_=>default,λi hi=>absurd hi Ca⟩
  | n + 1, h => by
    obtain⟨f,hf⟩:=Rp n (λi hi=>h i Ca);obtain⟨a,ha⟩:=h n Ca;refine⟨λi=>if i=n then a else f i,λi hi=>?_⟩;by_cases e:i=n
    ·subst e;simpa using ha
    simp only[e,if_false];exact hf i Ca
theorem Hp{t e:TypeId}{m:Nat}{fuel:Nat}{cs:List Value}{x:DataW H × List MemPlace}{α:Type}[Inhabited α]{g:α->D}(ht:prog.underlying t=some (.slice e))(hC:prog.cellsOf e=m)
    (hel:∀n,n<fuel->∀cs x,DataW.trod enc prog W base sp held n e cs=some x->∃a:α,Rep (λ_=>True) W (g a) cs) (h:DataW.trod enc prog W base sp held fuel t cs=some x) :
    ∃l:List α,Rep (λ_=>True) W (.slice (l.map g)) cs:=by
  rcases DataW.trod_slice ht h with ⟨rfl,-⟩|⟨a,len,cap,elems,rest,n,hn,rfl,-,hb,hl,hm,hlen,hall,-,-⟩
  ·exact⟨[],Rep.nil_slice 0 Ca none⟩
  have hi:∀i,i<len->∃al:α,∃cs',W.cells? base (a.add (i*m)) m=some cs'/\Rep (λ_=>True) W (g al) cs':=by
    intro i hi;have h1:=hall i hi;have h2:elems[i]? = some (elems[i]' Ca):=List.getElem?_eq_getElem Ca;rw[h2,hC,Option.bind_eq_some_iff]at h1;obtain⟨cs',h3,h4⟩:=h1;obtain⟨al,hr⟩:=hel n Ca _ _ h4;exact⟨al,cs',h3,hr⟩
  obtain⟨f,hf⟩:=Rp len hi;obtain⟨es,-,hc,hr⟩:=R8 hC len (λi=>g (f i)) hf;refine⟨(List.range len).map f,?_⟩;rw[List.map_map];exact Rep.slice_mk Pa hl hm (λ_=>⟨a,O,es,hc,hr⟩)
theorem W9{fuel:Nat}{cs:List Value}{x:DataW H × List MemPlace}(h:DataW.trod enc prog W base sp held fuel 9 cs=some x):∃s:Str,Rep (λ_=>True) W (Om s) cs:=by
  obtain⟨s,rfl,-,hs⟩:=DataW.trod_string mZ h;refine⟨s.data.toList,?_⟩;have e:[Value.string s]=[.string (bs s.data.toList)]:=by rw[<-DO]
  rw[e];exact Rep.lit_mk (by show s.data.toList.length<=_;rw[Array.length_toList];exact hs)
theorem S9{fuel:Nat}{cs:List Value}{x:DataW H × List MemPlace}(h:DataW.trod enc prog W base sp held fuel 3 cs=some x):∃n:Int,Rep (λ_=>True) W (Lc n) cs:=by
  obtain⟨n,rfl,-,hn⟩:=DataW.trod_int kZ h;exact⟨n,Rep.lit_mk ⟨(B6 hn).1,(B6 hn).2⟩⟩
instance : Inhabited Tree:=⟨.node 0 [] [] []⟩
theorem ZH:∀(fuel:Nat)(cs:List Value)(x:DataW H × List MemPlace),DataW.trod enc prog W base sp held fuel 27 cs=some x->∃t:Tree,Rep (λ_=>True) W (Pb t) cs:=by
  intro fuel
  induction fuel using Nat.strongRecOn with
  | _ fuel ih =>
    intro cs x h;obtain⟨xs,n,rfl,-,hcl,hxl,hf⟩:=DataW.trod_struct underlying27 h;rw[JL]at hcl;have get:∀(i:Nat)(hi:i<4),xs[i]? = some (xs[i]'(by rw[hxl];exact hi)):=λi hi=>List.getElem?_eq_getElem _;have h0:=(hf 0 _ rfl).trans (get 0 Ca);have h1:=(hf 1 _ rfl).trans (get 1 Ca);have h2:=(hf 2 _ rfl).trans (get 2 Ca);have h3:=(hf 3 _ rfl).trans (get 3 Ca);obtain⟨k,hk⟩:=S9 h0;obtain⟨t,ht⟩:=W9 h1;obtain⟨ks,hks⟩:=Hp (g:=Om) iZ ZR (λn _ cs x h=>W9 h) h2;obtain⟨ys,hys⟩:=Hp (g:=Pb) jZ JL (λm hm cs x h=>ih m Ca cs x h) h3;refine⟨.node k t ks ys,?_⟩;have e:cs=(cs.drop 0).take (prog.cellsOf 3)++((cs.drop 1).take (prog.cellsOf 9)++((cs.drop 2).take (prog.cellsOf 24)++((cs.drop 3).take (prog.cellsOf 25)++[]))):=by
      rw[EN,ZR,VR,QR]
      match cs,hcl with
      | [a,b,c,d],_=>rfl
    rw[e];unfold Pb;rw[<-Jf]at hys;exact Rep.agg_mk (RepL.cons_mk hk (RepL.cons_mk ht (RepL.cons_mk hks (RepL.cons_mk hys RepL.nil_mk))))
theorem Y2{r:Reach}{b0:Nat}{v:Value}{d:DataW H}{q:List MemPlace}(hv:Value.okWide prog W r b0 3 v)(h:DataW.Trod enc prog W base sp held 3 v d q) :
    ∃n:Int,v=J n/\-9223372036854775808<=n/\n<=9223372036854775807:=by
  obtain⟨n,rfl,-,-,hn⟩:=open_int kZ hv h;exact⟨n,O,B6 hn⟩
theorem BG:laidOutB prog=true:=by kernel_rfl
theorem H6{W':World}{t:TypeId}(hr:prog.readableRec t=true)(hrow:t<prog.types.size){v:Value}{d:DataW H}{ps:List MemPlace}(hb:Below W.heap.size W W')(hlt:∀p∈ps,p.block<W.heap.size)
    (h:DataW.Trod enc prog W 0 (λ_=>true) true t v d ps):DataW.Trod enc prog W' 0 (λb=>decide (b<W.heap.size)) true t v d ps :=
  WideElems.Trod_stays BG hr hrow h (λp hp=>hb.same (hlt p hp)) (λp hp=>by simpa using hlt p hp)
theorem KO:prog.readableRec 3=true:=by kernel_rfl
theorem NN:3<prog.types.size:=of_decide_eq_true Cc
end
section
open Go.Lib Go.Shelf Go.Proofs.YtbhneplafiapdaaGreatDoor
def Ui:List (String × DataW Unit):=[("math/bits.deBruijn32tab", Rows.laid_math_bits_deBruijn32tab),("math/bits.deBruijn64tab", Rows.laid_math_bits_deBruijn64tab),("internal/strconv.uint64pow10", Rows.laid_internal_strconv_uint64pow10),("unicode/utf8.acceptRanges", Rows.laid_unicode_utf8_acceptRanges),("strconv.ErrRange", Rows.laid_strconv_ErrRange),("strconv.ErrSyntax", Rows.laid_strconv_ErrSyntax),("unicode/utf8.first", Rows.laid_unicode_utf8_first)]
theorem MS:U8Extra prog lays196_ren:=⟨by kernel_rfl,by kernel_rfl,by kernel_rfl,by kernel_rfl,by kernel_rfl,by kernel_rfl,by kernel_rfl⟩
theorem Wh{W:World}{n:String}{g:Nat}{cs:Array Value}(hg:prog.globalNamed n=some g)(h:World.var? prog W n=some cs):∃e fz,W.heap[g]? = some (.cells cs e fz):=by
  unfold World.var? at h;rw[hg]at h;simp only[Option.bind_some]at h;split at h
  ·rename_i cs' e fz hh
   injection h with h
   subst h;exact⟨e,fz,hh⟩
  cases h
theorem M2{enc:TypeId × Value->Unit}{W:World}{base fuel:Nat}{sp:Nat->Bool}{t:TypeId}{cs:List Value}{nm:String}{d:DataW Unit}{q:List MemPlace}(ht':∃ms,prog.underlying t=some (.interface ms))
    (h:DataW.trod enc prog W base sp false fuel t cs=some (.iface nm d,q)):∃u v,cs=[.iface u v]:=by
  obtain⟨ms,ht⟩:=ht';cases fuel with
  | zero=>simp[DataW.trod]at h
  | succ fuel =>
    unfold DataW.trod at h;rw[ht]at h;split at h <;> first|(cases h;done)|(simp at h;done)|skip
    all_goals first|exact⟨_,_,rfl⟩|(simp_all;done)
theorem W7{W:World}(h:laidMetH prog Ui W):Gl W:=by
  rw[MakeChecks.laidMetH_plain _ _ _ Cc]at h;have r:∀ n d,(n,d)∈Ui->VarReads prog W n d:=λn d hm=>Lib.laidMet.reads h hm;have hT:=utf8Tabs_of_readsT (U8Types.of196 lays196) MS (w:=W) (Pinned.utf8First_eq▸r "unicode/utf8.first" _ (by simp[Ui,Rows.laid_unicode_utf8_first])) ((by kernel_rfl:Rows.laid_unicode_utf8_acceptRanges=acceptData)▸r "unicode/utf8.acceptRanges" _ (by simp[Ui]));refine⟨?_,hT,?_,?_,?_,?_⟩
  ·obtain⟨g, t, cs, fuel, q, hg, hty, hvar, hd⟩ := r "math/bits.deBruijn64tab" Rows.laid_math_bits_deBruijn64tab (by simp[Ui])
   obtain rfl:=lQ ((show prog.globalNamed "math/bits.deBruijn64tab" = some 6 by kernel_rfl).symm.trans hg);obtain⟨e,fz,hh⟩:=Wh hg hvar;have:=Qa hh;omega
  ·obtain⟨g, t, cs, fuel, q, hg, hty, hvar, hd⟩ := r "internal/strconv.uint64pow10" Rows.laid_internal_strconv_uint64pow10 (by simp[Ui])
   obtain rfl:=lQ ((show prog.globalNamed "internal/strconv.uint64pow10" = some 2 by kernel_rfl).symm.trans hg);obtain rfl:=lQ ((show (prog.globals[2]?).map (·.type)=some 271 by kernel_rfl).symm.trans hty);have hcs:=cells_of_tab (zs:=Lib.pow10Tab) (k:=.u64) underlying271 underlying143 Cc Cc ((by kernel_rfl:(Rows.laid_internal_strconv_uint64pow10:DataW Unit)=tabData .u64 Lib.pow10Tab)▸hd);obtain⟨e,fz,hh⟩:=Wh hg hvar;refine⟨e,fz,?_⟩;rw[hh,<-hcs]
  ·obtain⟨g, t, cs, fuel, q, hg, hty, hvar, hd⟩ := r "strconv.ErrRange" Rows.laid_strconv_ErrRange (by simp[Ui])
   obtain rfl:=lQ ((show prog.globalNamed "strconv.ErrRange" = some 4 by kernel_rfl).symm.trans hg);obtain rfl:=lQ ((show (prog.globals[4]?).map (·.type)=some 213 by kernel_rfl).symm.trans hty);obtain⟨u,v,hcs⟩:=M2 ⟨_,underlying213⟩ hd;obtain⟨e,fz,hh⟩:=Wh hg hvar;refine⟨u,v,e,fz,?_⟩;rw[hh];congr 1;congr 1;exact Array.toList_inj.1 hcs
  ·obtain⟨g, t, cs, fuel, q, hg, hty, hvar, hd⟩ := r "strconv.ErrSyntax" Rows.laid_strconv_ErrSyntax (by simp[Ui])
   obtain rfl:=lQ ((show prog.globalNamed "strconv.ErrSyntax" = some 3 by kernel_rfl).symm.trans hg);obtain rfl:=lQ ((show (prog.globals[3]?).map (·.type)=some 213 by kernel_rfl).symm.trans hty);obtain⟨u,v,hcs⟩:=M2 ⟨_,underlying213⟩ hd;obtain⟨e,fz,hh⟩:=Wh hg hvar;refine⟨u,v,e,fz,?_⟩;rw[hh];congr 1;congr 1;exact Array.toList_inj.1 hcs
  obtain⟨g, t, cs, fuel, q, hg, hty, hvar, hd⟩ := r "math/bits.deBruijn64tab" Rows.laid_math_bits_deBruijn64tab (by simp[Ui]);obtain rfl:=lQ ((show prog.globalNamed "math/bits.deBruijn64tab" = some 6 by kernel_rfl).symm.trans hg);obtain rfl:=lQ ((show (prog.globals[6]?).map (·.type)=some 314 by kernel_rfl).symm.trans hty);have hcs:=cells_of_tab (zs:=X5) (k:=.u8) underlying314 underlying5 Cc Cc ((by kernel_rfl:(Rows.laid_math_bits_deBruijn64tab:DataW Unit)=tabData .u8 X5)▸hd);obtain⟨e,fz,hh⟩:=Wh hg hvar;refine⟨e,fz,?_⟩;rw[hh,<-hcs]
theorem MR:ownKnob prog.godebug=none:=by kernel_rfl
theorem OR(os:Os)(args:Array Value):laidMetH prog Ui ((World.laidAll prog os Ui).forCall (λ_ _=>0) ⟨#[],args,[]⟩).memory:=by
  rw[MakeChecks.laidMetH_plain _ _ _ Cc];exact laidMet_laidAll _ Cc Cc
end
end Go.Scarf
