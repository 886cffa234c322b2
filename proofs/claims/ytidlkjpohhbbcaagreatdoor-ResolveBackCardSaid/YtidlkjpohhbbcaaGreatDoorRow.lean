/- A part of the proof. -/
import Derived.Test.YtidlkjpohhbbcaaGreatDoorTie
import Derived.Test.YtidlkjpohhbbcaaGreatDoorShelf2
import Derived.Test.YtidlkjpohhbbcaaGreatDoorW1
import Derived.ProofKit
import Derived.Shelf.Lay
import Derived.PinnedBridge
import Derived.Lay
import Derived.LaidOnce
import Derived.SevenTiedAt
import Derived.Lib.LaidU8T
import Derived.Lib.LaidTab
import Derived.Deep.Slices
import Derived.WideKeyArgs
import Derived.Carry
import Derived.Laws.MakeOwn
set_option linter.all false
set_option maxHeartbeats 8000000
set_option maxRecDepth 10000
namespace Go.Scarf
open Go.RowKit Go.Proofs Go.Proofs.Tryz
set_option maxRecDepth 100000
section
variable {H:Type}{enc:TypeId × Value->H}{W:World}{base:Nat}{sp:Nat->Bool}{held:Bool}
open Go.ChangeShapes Go.WideShapes Go.ChangeAt Go.Lib Go.Shelf Go.WideMaps Go.ChangeMaps
theorem DV{n:Int}(h:(Lit.int .i64 n).wf=true):-9223372036854775808<=n/\n<=9223372036854775807:=by
  simpa[Lit.wf,IntKind.min,IntKind.max,IntKind.signed,IntKind.bits]using h
theorem cs36:prog.cellsOf 36=4:=by kernel_rfl
theorem cs9:prog.cellsOf 9=1:=by kernel_rfl
theorem cs3:prog.cellsOf 3=1:=by kernel_rfl
theorem cs33:prog.cellsOf 33=1:=by kernel_rfl
theorem cs34:prog.cellsOf 34=1:=by kernel_rfl
theorem bs_of(s:ByteArray):s=bs s.data.toList:=by cases s;rfl
theorem MQ{e:TypeId}{m:Nat}{w:World}{ad:Addr}(hC:prog.cellsOf e=m):∀(len:Nat)(g:Nat->D),(∀i,i<len->∃cs,w.cells? base (ad.add (i*m)) m=some cs/\Rep (λ_=>True) w (g i) cs) ->
    ∃es:List Value,es.length=len*m/\CellsAt (λ_=>True) w ad es/\RepL (λ_=>True) w ((List.range len).map g) es
  | 0,g,_=>⟨[],by simp,λi hi=>absurd hi La,RepL.nil_mk⟩
  | len + 1, g, h => by
    obtain⟨es,hl,hc,hr⟩:=MQ hC len g (λi hi=>h i Aa);obtain⟨cs,h1,h2⟩:=h len Aa;obtain⟨_,hcl,hat⟩:=World.cells?_some h1;refine⟨es++cs,by rw[dQ,hl,hcl,Nat.add_mul,Nat.one_mul],λi hi=>⟨?_,trivial⟩,?_⟩
    ·by_cases hi' : i<es.length
     ·rw[List.getElem_append_left hi'];exact (hc i hi').1
     have hi2 : i-es.length<cs.length := by rw[dQ]at hi;omega
     rw[List.getElem_append_right Aa];have:=hat (i-es.length) Aa;rw[To,<-hl]at this;rw[show es.length+(i-es.length)=i by omega]at this;rw[this];exact List.getElem?_eq_getElem hi2
    rw[List.range_succ, jQ];exact RepL.append hr (by have:=RepL.cons_mk h2 RepL.nil_mk;rw[qQ]at this;exact this)
theorem Ay{α:Type}[Inhabited α]{P:Nat->α->Prop}:∀(n:Nat),(∀i,i<n->∃a,P i a)->∃f:Nat->α,∀i,i<n->P i (f i)
  | 0,_=>⟨λ_=>default,λi hi=>absurd hi Aa⟩
  | n + 1, h => by
    obtain⟨f,hf⟩:=Ay n (λi hi=>h i Aa);obtain⟨a,ha⟩:=h n Aa;refine⟨λi=>if i=n then a else f i,λi hi=>?_⟩;by_cases e:i=n
    ·subst e;simpa using ha
    simp only[e,if_false];exact hf i Aa
theorem G8{t e:TypeId}{m:Nat}{fuel:Nat}{cs:List Value}{x:DataW H × List MemPlace}{α:Type}[Inhabited α]{g:α->D}(ht:prog.underlying t=some (.slice e))(hC:prog.cellsOf e=m)
    (hel:∀n,n<fuel->∀cs x,DataW.trod enc prog W base sp held n e cs=some x->∃a:α,Rep (λ_=>True) W (g a) cs) (h:DataW.trod enc prog W base sp held fuel t cs=some x) :
    ∃l:List α,Rep (λ_=>True) W (.slice (l.map g)) cs:=by
  rcases DataW.trod_slice ht h with ⟨rfl,-⟩|⟨a,len,cap,elems,rest,n,hn,rfl,-,hb,hl,hm,hlen,hall,-,-⟩
  ·exact⟨[],Rep.nil_slice 0 Aa none⟩
  have hi:∀i,i<len->∃al:α,∃cs',W.cells? base (a.add (i*m)) m=some cs'/\Rep (λ_=>True) W (g al) cs':=by
    intro i hi;have h1:=hall i hi;have h2:elems[i]? = some (elems[i]' Aa):=List.getElem?_eq_getElem Aa;rw[h2,hC,Option.bind_eq_some_iff]at h1;obtain⟨cs',h3,h4⟩:=h1;obtain⟨al,hr⟩:=hel n Aa _ _ h4;exact⟨al,cs',h3,hr⟩
  obtain⟨f,hf⟩:=Ay len hi;obtain⟨es,-,hc,hr⟩:=MQ hC len (λi=>g (f i)) hf;refine⟨(List.range len).map f,?_⟩;rw[List.map_map];exact Rep.slice_mk La hl hm (λ_=>⟨a,O,es,hc,hr⟩)
theorem GD{fuel:Nat}{cs:List Value}{x:DataW H × List MemPlace}(h:DataW.trod enc prog W base sp held fuel 9 cs=some x):∃s:Str,Rep (λ_=>True) W (Zm s) cs:=by
  obtain⟨s,rfl,-,hs⟩:=DataW.trod_string oX h;refine⟨s.data.toList,?_⟩;have e:[Value.string s]=[.string (bs s.data.toList)]:=by rw[<-bs_of]
  rw[e];exact Rep.lit_mk (by show s.data.toList.length<=_;rw[Array.length_toList];exact hs)
theorem num_of_{fuel:Nat}{cs:List Value}{x:DataW H × List MemPlace}(h:DataW.trod enc prog W base sp held fuel 3 cs=some x):∃n:Int,Rep (λ_=>True) W (Ai n) cs:=by
  obtain⟨n,rfl,-,hn⟩:=DataW.trod_int gX h;exact⟨n,Rep.lit_mk ⟨(DV hn).1,(DV hn).2⟩⟩
instance : Inhabited Tree:=⟨.node 0 [] [] []⟩
theorem tree_of:∀(fuel:Nat)(cs:List Value)(x:DataW H × List MemPlace),DataW.trod enc prog W base sp held fuel 36 cs=some x->∃t:Tree,Rep (λ_=>True) W (Jb t) cs:=by
  intro fuel
  induction fuel using Nat.strongRecOn with
  | _ fuel ih =>
    intro cs x h;obtain⟨xs,n,rfl,-,hcl,hxl,hf⟩:=DataW.trod_struct underlying36 h;rw[cs36]at hcl;have get:∀(i:Nat)(hi:i<4),xs[i]? = some (xs[i]'(by rw[hxl];exact hi)):=λi hi=>List.getElem?_eq_getElem _;have h0:=(hf 0 _ rfl).trans (get 0 Aa);have h1:=(hf 1 _ rfl).trans (get 1 Aa);have h2:=(hf 2 _ rfl).trans (get 2 Aa);have h3:=(hf 3 _ rfl).trans (get 3 Aa);obtain⟨k,hk⟩:=num_of_ h0;obtain⟨t,ht⟩:=GD h1;obtain⟨ks,hks⟩:=G8 (g:=Zm) iX cs9 (λn _ cs x h=>GD h) h2;obtain⟨ys,hys⟩:=G8 (g:=Jb) jX cs36 (λm hm cs x h=>ih m Aa cs x h) h3;refine⟨.node k t ks ys,?_⟩;have e:cs=(cs.drop 0).take (prog.cellsOf 3)++((cs.drop 1).take (prog.cellsOf 9)++((cs.drop 2).take (prog.cellsOf 33)++((cs.drop 3).take (prog.cellsOf 34)++[]))):=by
      rw[cs3,cs9,cs33,cs34]
      match cs,hcl with
      | [a,b,c,d],_=>rfl
    rw[e];unfold Jb;rw[<-Ge]at hys;exact Rep.agg_mk (RepL.cons_mk hk (RepL.cons_mk ht (RepL.cons_mk hks (RepL.cons_mk hys RepL.nil_mk))))
theorem TU{r:Reach}{b0:Nat}{v:Value}{d:DataW H}{q:List MemPlace}(hv:Value.okWide prog W r b0 9 v)(h:DataW.Trod enc prog W base sp held 9 v d q) :
    ∃s:Str,v=I s/\s.length<=9223372036854775807:=by
  obtain⟨s,rfl,-,-,hs⟩:=open_string oX hv h;exact⟨s.data.toList,congrArg _ (bs_of s),by rw[Array.length_toList];exact hs⟩
theorem FY:laidOutB prog=true:=by kernel_rfl
theorem TY{W':World}{t:TypeId}(hr:prog.readableRec t=true)(hrow:t<prog.types.size){v:Value}{d:DataW H}{ps:List MemPlace}(hb:Below W.heap.size W W')(hlt:∀p∈ps,p.block<W.heap.size)
    (h:DataW.Trod enc prog W 0 (λ_=>true) true t v d ps):DataW.Trod enc prog W' 0 (λb=>decide (b<W.heap.size)) true t v d ps :=
  WideElems.Trod_stays FY hr hrow h (λp hp=>hb.same (hlt p hp)) (λp hp=>by simpa using hlt p hp)
theorem rec9:prog.readableRec 9=true:=by kernel_rfl
theorem row9:9<prog.types.size:=of_decide_eq_true Ib
end
section
open Go.Lib Go.Shelf Go.Proofs.YtidlkjpohhbbcaaGreatDoor
def Fp:List (String × DataW Unit):=[("math/bits.deBruijn32tab", Rows.laid_math_bits_deBruijn32tab),("math/bits.deBruijn64tab", Rows.laid_math_bits_deBruijn64tab),("internal/strconv.uint64pow10", Rows.laid_internal_strconv_uint64pow10),("unicode/utf8.acceptRanges", Rows.laid_unicode_utf8_acceptRanges),("strconv.ErrRange", Rows.laid_strconv_ErrRange),("strconv.ErrSyntax", Rows.laid_strconv_ErrSyntax),("unicode/utf8.first", Rows.laid_unicode_utf8_first)]
theorem u8x:U8Extra prog lays196_ren:=⟨by kernel_rfl,by kernel_rfl,by kernel_rfl,by kernel_rfl,by kernel_rfl,by kernel_rfl,by kernel_rfl⟩
theorem Ln{W:World}{n:String}{g:Nat}{cs:Array Value}(hg:prog.globalNamed n=some g)(h:World.var? prog W n=some cs):∃e fz,W.heap[g]? = some (.cells cs e fz):=by
  unfold World.var? at h;rw[hg]at h;simp only[Option.bind_some]at h;split at h
  ·rename_i cs' e fz hh
   injection h with h
   subst h;exact⟨e,fz,hh⟩
  cases h
theorem II{enc:TypeId × Value->Unit}{W:World}{base fuel:Nat}{sp:Nat->Bool}{t:TypeId}{cs:List Value}{nm:String}{d:DataW Unit}{q:List MemPlace}(ht':∃ms,prog.underlying t=some (.interface ms))
    (h:DataW.trod enc prog W base sp false fuel t cs=some (.iface nm d,q)):∃u v,cs=[.iface u v]:=by
  obtain⟨ms,ht⟩:=ht';cases fuel with
  | zero=>simp[DataW.trod]at h
  | succ fuel =>
    unfold DataW.trod at h;rw[ht]at h;split at h <;> first|(cases h;done)|(simp at h;done)|skip
    all_goals first|exact⟨_,_,rfl⟩|(simp_all;done)
theorem WL{W:World}(h:laidMetH prog Fp W):Gl W:=by
  rw[MakeChecks.laidMetH_plain _ _ _ Ib]at h;have r:∀ n d,(n,d)∈Fp->VarReads prog W n d:=λn d hm=>Lib.laidMet.reads h hm;have hT:=utf8Tabs_of_readsT (U8Types.of196 lays196) u8x (w:=W) (Pinned.utf8First_eq▸r "unicode/utf8.first" _ (by simp[Fp,Rows.laid_unicode_utf8_first])) ((by kernel_rfl:Rows.laid_unicode_utf8_acceptRanges=acceptData)▸r "unicode/utf8.acceptRanges" _ (by simp[Fp]));refine⟨?_,hT,?_,?_,?_,?_⟩
  ·obtain⟨g, t, cs, fuel, q, hg, hty, hvar, hd⟩ := r "strconv.ErrRange" Rows.laid_strconv_ErrRange (by simp[Fp])
   obtain rfl:=lQ ((show prog.globalNamed "strconv.ErrRange" = some 7 by kernel_rfl).symm.trans hg);obtain⟨e,fz,hh⟩:=Ln hg hvar;have:=Mb hh;omega
  ·obtain⟨g, t, cs, fuel, q, hg, hty, hvar, hd⟩ := r "internal/strconv.uint64pow10" Rows.laid_internal_strconv_uint64pow10 (by simp[Fp])
   obtain rfl:=lQ ((show prog.globalNamed "internal/strconv.uint64pow10" = some 3 by kernel_rfl).symm.trans hg);obtain rfl:=lQ ((show (prog.globals[3]?).map (·.type)=some 283 by kernel_rfl).symm.trans hty);have hcs:=cells_of_tab (zs:=Lib.pow10Tab) (k:=.u64) underlying283 fX Ib Ib ((by kernel_rfl:(Rows.laid_internal_strconv_uint64pow10:DataW Unit)=tabData .u64 Lib.pow10Tab)▸hd);obtain⟨e,fz,hh⟩:=Ln hg hvar;refine⟨e,fz,?_⟩;rw[hh,<-hcs]
  ·obtain⟨g, t, cs, fuel, q, hg, hty, hvar, hd⟩ := r "strconv.ErrRange" Rows.laid_strconv_ErrRange (by simp[Fp])
   obtain rfl:=lQ ((show prog.globalNamed "strconv.ErrRange" = some 7 by kernel_rfl).symm.trans hg);obtain rfl:=lQ ((show (prog.globals[7]?).map (·.type)=some 186 by kernel_rfl).symm.trans hty);obtain⟨u,v,hcs⟩:=II ⟨_,zZ⟩ hd;obtain⟨e,fz,hh⟩:=Ln hg hvar;refine⟨u,v,e,fz,?_⟩;rw[hh];congr 1;congr 1;exact Array.toList_inj.1 hcs
  ·obtain⟨g, t, cs, fuel, q, hg, hty, hvar, hd⟩ := r "strconv.ErrSyntax" Rows.laid_strconv_ErrSyntax (by simp[Fp])
   obtain rfl:=lQ ((show prog.globalNamed "strconv.ErrSyntax" = some 6 by kernel_rfl).symm.trans hg);obtain rfl:=lQ ((show (prog.globals[6]?).map (·.type)=some 186 by kernel_rfl).symm.trans hty);obtain⟨u,v,hcs⟩:=II ⟨_,zZ⟩ hd;obtain⟨e,fz,hh⟩:=Ln hg hvar;refine⟨u,v,e,fz,?_⟩;rw[hh];congr 1;congr 1;exact Array.toList_inj.1 hcs
  obtain⟨g, t, cs, fuel, q, hg, hty, hvar, hd⟩ := r "math/bits.deBruijn64tab" Rows.laid_math_bits_deBruijn64tab (by simp[Fp]);obtain rfl:=lQ ((show prog.globalNamed "math/bits.deBruijn64tab" = some 5 by kernel_rfl).symm.trans hg);obtain rfl:=lQ ((show (prog.globals[5]?).map (·.type)=some 313 by kernel_rfl).symm.trans hty);have hcs:=cells_of_tab (zs:=GL) (k:=.u8) underlying313 kX Ib Ib ((by kernel_rfl:(Rows.laid_math_bits_deBruijn64tab:DataW Unit)=tabData .u8 GL)▸hd);obtain⟨e,fz,hh⟩:=Ln hg hvar;refine⟨e,fz,?_⟩;rw[hh,<-hcs]
theorem own_:ownKnob prog.godebug=none:=by kernel_rfl
theorem wit_(os:Os)(args:Array Value):laidMetH prog Fp ((World.laidAll prog os Fp).forCall (λ_ _=>0) ⟨#[],args,[]⟩).memory:=by
  rw[MakeChecks.laidMetH_plain _ _ _ Ib];exact laidMet_laidAll _ Ib Ib
end
open Go.RowKit
section
variable {S:Nat->Prop}{w:World}
theorem Rep.slice_is{ds:List D}{v:Value}(h:Rep S w (.slice ds) [v]):∃A c,v=.slice A ds.length c:=by
  rw[Rep]at h;obtain⟨A,c,he,-⟩:=h;exact⟨A,c,(List.cons.inj he).1⟩
theorem Rep.elem1{ds:List D}{A:Option Addr}{len c:Nat}(h:Rep S w (.slice ds) [.slice A len c])(hs:∀d∈ds,Md d=1){i:Nat}(hi:i<ds.length) :
    ∃ad v,A=some ad/\w.cell? (ad.add (i*1))=some v/\Rep S w ds[i] [v]:=by
  obtain⟨ad,cs,hA,hl,hc,hr⟩:=Rep.elem (sz:=1) h hs hi
  match cs,hl with
  | [v], _ =>
    have:=hc 0 La;simp only[G0,List.getElem_cons_zero]at this;exact⟨ad,v,hA,this,hr⟩
theorem Rep.int_elem{ns:List Int}{A:Option Addr}{len c:Nat}(h:Rep S w (.slice (ns.map Ai)) [.slice A len c]){i:Nat}(hi:i<ns.length) :
    ∃ad,A=some ad/\w.cell? (ad.add (i*1))=some (J ns[i])/\(-9223372036854775808<=ns[i]/\ns[i]<=9223372036854775807):=by
  obtain⟨ad,v,hA,hc,hr⟩:=Rep.elem1 h (λd hd=>by obtain⟨k,_,rfl⟩:=nQ.1 hd;rfl) (i:=i) (by simpa using hi);rw[List.getElem_map,Ai,Rep]at hr;obtain⟨he,hk⟩:=hr;obtain rfl:=(List.cons.inj he).1;exact⟨ad,hA,hc,hk⟩
end
section
variable {H:Type}{enc:TypeId × Value->H}{W:World}{base:Nat}{sp:Nat->Bool}{held:Bool}
open Go.ChangeShapes Go.WideShapes Go.ChangeAt Go.Lib Go.Shelf
theorem open_sl{t e:TypeId}{m:Nat}{α:Type}[Inhabited α]{g:α->D}{r:Reach}{b0:Nat}{v:Value}{d:DataW H}{q:List MemPlace}(ht:prog.underlying t=some (.slice e))(hC:prog.cellsOf e=m)
    (hel:∀n cs x,DataW.trod enc prog W base sp held n e cs=some x->∃a:α,Rep (λ_=>True) W (g a) cs) (hv:Value.okWide prog W r b0 t v) (h:DataW.Trod enc prog W base sp held t v d q) :
    ∃(l:List α)(A:Option Addr)(c:Nat),v=.slice A l.length c/\Rep (λ_=>True) W (.slice (l.map g)) [.slice A l.length c]:=by
  obtain⟨A,n,c,rfl⟩:=okWide_slice ht hv;obtain⟨fuel,hf⟩:=h;obtain⟨l,hl⟩:=G8 ht hC (λn _ cs x h=>hel n cs x h) hf;have hl2:Rep (λ_=>True) W (.slice (l.map g)) [.slice A n c]:=hl;obtain⟨A2,c2,he⟩:=Rep.slice_is hl2;rw[rQ]at he;obtain⟨rfl,rfl,rfl⟩:=Value.slice.inj he;exact⟨l,A,c,O,hl2⟩
end
def DQ(N:Nat)(f:Nat->Int):Array Value:=((List.range N).map λk=>Value.int .i64 (f k)).toArray
theorem LS{N k:Nat}{f:Nat->Int}(h:k<N):(DQ N f)[k]? = some (J (f k)):=by simp[DQ,h]
def setF(f:Nat->Int)(k:Nat)(v:Int):Nat->Int:=λx=>if x=k then v else f x
section
variable {w0 w w':World}{Ds:List Nat}{bs:List (Nat × Obj)}
structure Grid2 (w:World) (pb n m:Nat) (T1 T2:TypeId) (rb:Nat->Nat) (p:Nat->Nat->Int):Prop where
  top:w.heap[pb]? = some (.cells ((List.range n).map λi=>Value.slice (some ⟨rb i,0,none⟩) m m).toArray T1)
  row:∀i,i<n->w.heap[rb i]? = some (.cells (DQ m (p i)) T2)
  inj:∀i j,i<n->j<n->rb i=rb j->i=j
  ne:∀i,i<n->rb i≠pb
variable {pb n m:Nat}{T1 T2:TypeId}{rb:Nat->Nat}{p:Nat->Nat->Int}
theorem Grid2.cell(h:Grid2 w pb n m T1 T2 rb p){i j:Nat}(hi:i<n)(hj:j<m):w.cell? ⟨rb i,j,none⟩=some (J (p i j)):=by
  rw[Bc (h.row i hi),LS hj]
theorem Grid2.keep(h:Grid2 w pb n m T1 T2 rb p){E:List Nat}(hs:Same E w w')(h1:pb∉E)(h2:∀i,i<n->rb i∉E):Grid2 w' pb n m T1 T2 rb p :=
  ⟨(hs.block _ (Mb h.top) h1).trans h.top,λi hi=>(hs.block _ (Mb (h.row i hi)) (h2 i hi)).trans (h.row i hi),h.inj,h.ne⟩
theorem Grid2.ext(h:Grid2 w pb n m T1 T2 rb p)(hs:Same [] w w'):Grid2 w' pb n m T1 T2 rb p:=h.keep hs La La
def set2(p:Nat->Nat->Int)(i j:Nat)(v:Int):Nat->Nat->Int:=λa=>if a=i then setF (p i) j v else p a
theorem Grid2.put(h:Grid2 w pb n m T1 T2 rb p){i j:Nat}{v:Int}(hi:i<n)(hs:Same [rb i] w w')(hn:w'.heap[rb i]? = some (.cells (DQ m (setF (p i) j v)) T2)):Grid2 w' pb n m T1 T2 rb (set2 p i j v):=by
  refine⟨(hs.block _ (Mb h.top) (by simpa using λe=>h.ne i hi e.symm)).trans h.top,λa ha=>?_,h.inj,h.ne⟩;by_cases e:a=i
  ·subst e;rw[hn];simp[set2]
  have : w'.heap[rb a]? = w.heap[rb a]? := hs.block _ (Mb (h.row a ha)) (by simpa using λq => e (h.inj a i ha hi q));rw[this,h.row a ha,set2,if_neg e]
end
section
variable {P:Program}{R:Exit->Act->World->Prop}{n:Nat}{k:Kt}{s:Nat->Value}{w:World}{ops rest:List Oper}
variable {ty:TypeId}{pos:String}{aft:Array Edge}{g:Option (Nat × Bool)}{w0:World}{Ds:List Nat}{bs:List (Nat × Obj)}
end
section
variable {P:Program}{w:World}{ρ:Operand->Value}{dst:Option Nat}{ty:TypeId}{pos:String}{aft:Array Edge}{g:Option (Nat × Bool)}
end
end Go.Scarf
