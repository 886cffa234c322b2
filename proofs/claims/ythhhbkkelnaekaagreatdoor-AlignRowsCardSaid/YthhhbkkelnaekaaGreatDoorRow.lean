/- A part of the proof. -/
import Derived.Test.YthhhbkkelnaekaaGreatDoorTie
import Derived.Test.YthhhbkkelnaekaaGreatDoorMem
import Derived.Test.YthhhbkkelnaekaaGreatDoorShelf2
import Derived.Test.YthhhbkkelnaekaaGreatDoorW1
import Derived.ProofKit
import Derived.Shelf.Lay
import Derived.PinnedBridge
import Derived.Lay
import Derived.LaidOnce
import Derived.SevenTiedAt
import Derived.Lib.LaidU8T
import Derived.Lib.LaidTab
import Derived.Deep.Slices
import Derived.WideKeyArgs
import Derived.Below
set_option linter.all false
set_option maxHeartbeats 8000000
set_option maxRecDepth 10000
namespace Go.Scarf
open Go.RowKit Go.Proofs Go.Proofs.Tryz
set_option maxRecDepth 100000
section
variable {H:Type} {enc:TypeId × Value→H} {W:World} {base:Nat} {sp:Nat→Bool} {held:Bool}
open Go.ChangeShapes Go.WideShapes Go.ChangeAt Go.Lib Go.Shelf Go.WideMaps Go.ChangeMaps
theorem IQ {n:Int} (h:(Lit.int .i64 n).wf=true):-9223372036854775808≤n∧n≤9223372036854775807:=by
  simpa [Lit.wf,IntKind.min,IntKind.max,IntKind.signed,IntKind.bits] using h
theorem JW:prog.cellsOf 27=4:=by kernel_rfl
theorem cs9:prog.cellsOf 9=1:=by kernel_rfl
theorem CL:prog.cellsOf 3=1:=by kernel_rfl
theorem cs25:prog.cellsOf 25=1:=by kernel_rfl
theorem cs22:prog.cellsOf 22=1:=by kernel_rfl
theorem GY (s:ByteArray):s=bs s.data.toList:=by cases s; rfl
theorem VH {e:TypeId} {m:Nat} {w:World} {ad:Addr} (hC:prog.cellsOf e=m):∀ (len:Nat) (g:Nat→D),(∀ i,i < len→∃ cs,w.cells? base (ad.add (i * m)) m=some cs∧Rep (fun _=>True) w (g i) cs) →
    ∃ es:List Value,es.length=len * m∧CellsAt (fun _=>True) w ad es∧RepL (fun _=>True) w ((List.range len).map g) es
  | 0,g,_=>⟨[],by simp,fun i hi=>absurd hi Ma,RepL.nil_mk⟩
  | len + 1, g, h => by
    obtain ⟨es,hl,hc,hr⟩:=VH hC len g (fun i hi=>h i U)
    obtain ⟨cs,h1,h2⟩:=h len U
    obtain ⟨_,hcl,hat⟩:=World.cells?_some h1
    refine ⟨es++cs,by rw [List.length_append,hl,hcl,Nat.add_mul,Nat.one_mul],fun i hi=>⟨?_,trivial⟩,?_⟩
    · by_cases hi' : i < es.length
      · rw [List.getElem_append_left hi']; exact (hc i hi').1
      · have hi2 : i - es.length < cs.length := by rw [List.length_append] at hi; omega
        rw [List.getElem_append_right U]
        have:=hat (i - es.length) U
        rw [Ur,←hl] at this
        rw [show es.length+(i - es.length)=i by omega] at this
        rw [this]; exact List.getElem?_eq_getElem hi2
    · rw [List.range_succ, List.map_append]
      exact RepL.append hr (by have:=RepL.cons_mk h2 RepL.nil_mk; rw [List.append_nil] at this; exact this)
theorem Tw {α:Type} [Inhabited α] {P:Nat→α→Prop}:∀ (n:Nat),(∀ i,i < n→∃ a,P i a)→∃ f:Nat→α,∀ i,i < n→P i (f i)
  | 0,_=>⟨fun _=>default,fun i hi=>absurd hi U⟩
  | n + 1, h => by
    obtain ⟨f,hf⟩:=Tw n (fun i hi=>h i U)
    obtain ⟨a,ha⟩:=h n U
    refine ⟨fun i=>if i=n then a else f i,fun i hi=>?_⟩
    by_cases e:i=n
    · subst e; simpa using ha
    · simp only [e,if_false]; exact hf i U
theorem H3 {t e:TypeId} {m:Nat} {fuel:Nat} {cs:List Value} {x:DataW H × List MemPlace} {α:Type} [Inhabited α] {g:α→D} (ht:prog.underlying t=some (.slice e)) (hC:prog.cellsOf e=m)
    (hel:∀ n,n < fuel→∀ cs x,DataW.trod enc prog W base sp held n e cs=some x→∃ a:α,Rep (fun _=>True) W (g a) cs) (h:DataW.trod enc prog W base sp held fuel t cs=some x) :
    ∃ l:List α,Rep (fun _=>True) W (.slice (l.map g)) cs:=by
  rcases DataW.trod_slice ht h with ⟨rfl,-⟩ | ⟨a,len,cap,elems,rest,n,hn,rfl,-,hb,hl,hm,hlen,hall,-,-⟩
  · exact ⟨[],Rep.nil_slice 0 U none⟩
  · have hi:∀ i,i < len→∃ al:α,∃ cs',W.cells? base (a.add (i * m)) m=some cs'∧Rep (fun _=>True) W (g al) cs':=by
      intro i hi
      have h1:=hall i hi
      have h2:elems[i]? = some (elems[i]'U):=List.getElem?_eq_getElem U
      rw [h2,hC,Option.bind_eq_some_iff] at h1
      obtain ⟨cs',h3,h4⟩:=h1
      obtain ⟨al,hr⟩:=hel n U _ _ h4
      exact ⟨al,cs',h3,hr⟩
    obtain ⟨f,hf⟩:=Tw len hi
    obtain ⟨es,-,hc,hr⟩:=VH hC len (fun i=>g (f i)) hf
    refine ⟨(List.range len).map f,?_⟩
    rw [List.map_map]
    exact Rep.slice_mk Ma hl hm (fun _=>⟨a,O,es,hc,hr⟩)
theorem JG {fuel:Nat} {cs:List Value} {x:DataW H × List MemPlace} (h:DataW.trod enc prog W base sp held fuel 9 cs=some x):∃ s:Str,Rep (fun _=>True) W (Wp s) cs:=by
  obtain ⟨s,rfl,-,hs⟩:=DataW.trod_string underlying9 h
  refine ⟨s.data.toList,?_⟩
  have e:[Value.string s]=[.string (bs s.data.toList)]:=by rw [←GY]
  rw [e]
  exact Rep.lit_mk (by show s.data.toList.length≤_; rw [Array.length_toList]; exact hs)
theorem BR {fuel:Nat} {cs:List Value} {x:DataW H × List MemPlace} (h:DataW.trod enc prog W base sp held fuel 3 cs=some x):∃ n:Int,Rep (fun _=>True) W (Ug n) cs:=by
  obtain ⟨n,rfl,-,hn⟩:=DataW.trod_int underlying3 h
  exact ⟨n,Rep.lit_mk ⟨(IQ hn).1,(IQ hn).2⟩⟩
instance : Inhabited Tree:=⟨.node 0 [] [] []⟩
theorem PR:∀ (fuel:Nat) (cs:List Value) (x:DataW H × List MemPlace),DataW.trod enc prog W base sp held fuel 27 cs=some x→∃ t:Tree,Rep (fun _=>True) W (Vc t) cs:=by
  intro fuel
  induction fuel using Nat.strongRecOn with
  | _ fuel ih =>
    intro cs x h
    obtain ⟨xs,n,rfl,-,hcl,hxl,hf⟩:=DataW.trod_struct underlying27 h
    rw [JW] at hcl
    have get:∀ (i:Nat) (hi:i < 4),xs[i]? = some (xs[i]'(by rw [hxl]; exact hi)):=fun i hi=>List.getElem?_eq_getElem _
    have h0:=(hf 0 _ rfl).trans (get 0 U)
    have h1:=(hf 1 _ rfl).trans (get 1 U)
    have h2:=(hf 2 _ rfl).trans (get 2 U)
    have h3:=(hf 3 _ rfl).trans (get 3 U)
    obtain ⟨k,hk⟩:=BR h0
    obtain ⟨t,ht⟩:=JG h1
    obtain ⟨ks,hks⟩:=H3 (g:=Wp) underlying25 cs9 (fun n _ cs x h=>JG h) h2
    obtain ⟨ys,hys⟩:=H3 (g:=Vc) underlying22 JW (fun m hm cs x h=>ih m U cs x h) h3
    refine ⟨.node k t ks ys,?_⟩
    have e:cs=(cs.drop 0).take (prog.cellsOf 3)++((cs.drop 1).take (prog.cellsOf 9)++((cs.drop 2).take (prog.cellsOf 25)++((cs.drop 3).take (prog.cellsOf 22)++[]))):=by
      rw [CL,cs9,cs25,cs22]
      match cs,hcl with
      | [a,b,c,d],_=>rfl
    rw [e]
    unfold Vc
    rw [←Rh] at hys
    exact Rep.agg_mk (RepL.cons_mk hk (RepL.cons_mk ht (RepL.cons_mk hks (RepL.cons_mk hys RepL.nil_mk))))
theorem MQ:laidOutB prog=true:=by kernel_rfl
theorem KP {W':World} {t:TypeId} (hr:prog.readableRec t=true) (hrow:t < prog.types.size) {v:Value} {d:DataW H} {ps:List MemPlace} (hb:Below W.heap.size W W') (hlt:∀ p∈ps,p.block < W.heap.size)
    (h:DataW.Trod enc prog W 0 (fun _=>true) true t v d ps):DataW.Trod enc prog W' 0 (fun b=>decide (b < W.heap.size)) true t v d ps :=
  WideElems.Trod_stays MQ hr hrow h (fun p hp=>hb.same (hlt p hp)) (fun p hp=>by simpa using hlt p hp)
end
section
open Go.Lib Go.Shelf Go.Proofs.YthhhbkkelnaekaaGreatDoor
def Ep:List (String × DataW Unit):=[("math/bits.deBruijn32tab", Rows.laid_math_bits_deBruijn32tab),("math/bits.deBruijn64tab", Rows.laid_math_bits_deBruijn64tab),("internal/strconv.uint64pow10", Rows.laid_internal_strconv_uint64pow10),("unicode/utf8.acceptRanges", Rows.laid_unicode_utf8_acceptRanges),("strconv.ErrRange", Rows.laid_strconv_ErrRange),("strconv.ErrSyntax", Rows.laid_strconv_ErrSyntax),("unicode/utf8.first", Rows.laid_unicode_utf8_first)]
theorem u8x:U8Extra prog lays196_ren:=⟨by kernel_rfl,by kernel_rfl,by kernel_rfl,by kernel_rfl,by kernel_rfl,by kernel_rfl,by kernel_rfl⟩
theorem Wn {W:World} {n:String} {g:Nat} {cs:Array Value} (hg:prog.globalNamed n=some g) (h:World.var? prog W n=some cs):∃ e fz,W.heap[g]? = some (.cells cs e fz):=by
  unfold World.var? at h
  rw [hg] at h
  simp only [Option.bind_some] at h
  split at h
  · rename_i cs' e fz hh
    injection h with h
    subst h
    exact ⟨e,fz,hh⟩
  · cases h
theorem K_ {enc:TypeId × Value→Unit} {W:World} {base fuel:Nat} {sp:Nat→Bool} {t:TypeId} {cs:List Value} {nm:String} {d:DataW Unit} {q:List MemPlace} (ht':∃ ms,prog.underlying t=some (.interface ms))
    (h:DataW.trod enc prog W base sp false fuel t cs=some (.iface nm d,q)):∃ u v,cs=[.iface u v]:=by
  obtain ⟨ms,ht⟩:=ht'
  cases fuel with
  | zero=>simp [DataW.trod] at h
  | succ fuel =>
    unfold DataW.trod at h
    rw [ht] at h
    split at h <;> first | (cases h; done) | (simp at h; done) | skip
    all_goals first | exact ⟨_,_,rfl⟩ | (simp_all; done)
theorem JD {W:World} (h:laidMetH prog Ep W):Gl W:=by
  rw [MakeChecks.laidMetH_plain _ _ _ Qb] at h
  have r:∀ n d,(n,d)∈Ep→VarReads prog W n d:=fun n d hm=>Lib.laidMet.reads h hm
  have hT:=utf8Tabs_of_readsT (U8Types.of196 lays196) u8x (w:=W) (Pinned.utf8First_eq ▸ r "unicode/utf8.first" _ (by simp [Ep,Rows.laid_unicode_utf8_first])) ((by kernel_rfl:Rows.laid_unicode_utf8_acceptRanges=acceptData) ▸ r "unicode/utf8.acceptRanges" _ (by simp [Ep]))
  refine ⟨?_,hT,?_,?_,?_,?_⟩
  · obtain ⟨g, t, cs, fuel, q, hg, hty, hvar, hd⟩ := r "strconv.ErrRange" Rows.laid_strconv_ErrRange (by simp [Ep])
    obtain rfl:=Option.some.inj ((show prog.globalNamed "strconv.ErrRange" = some 7 by kernel_rfl).symm.trans hg)
    obtain ⟨e,fz,hh⟩:=Wn hg hvar
    have:=Ra hh
    omega
  · obtain ⟨g, t, cs, fuel, q, hg, hty, hvar, hd⟩ := r "internal/strconv.uint64pow10" Rows.laid_internal_strconv_uint64pow10 (by simp [Ep])
    obtain rfl:=Option.some.inj ((show prog.globalNamed "internal/strconv.uint64pow10" = some 0 by kernel_rfl).symm.trans hg)
    obtain rfl:=Option.some.inj ((show (prog.globals[0]?).map (·.type)=some 172 by kernel_rfl).symm.trans hty)
    have hcs:=cells_of_tab (zs:=Lib.pow10Tab) (k:=.u64) underlying172 underlying142 Qb Qb ((by kernel_rfl:(Rows.laid_internal_strconv_uint64pow10:DataW Unit)=tabData .u64 Lib.pow10Tab) ▸ hd)
    obtain ⟨e,fz,hh⟩:=Wn hg hvar
    refine ⟨e,fz,?_⟩
    rw [hh,←hcs]
  · obtain ⟨g, t, cs, fuel, q, hg, hty, hvar, hd⟩ := r "strconv.ErrRange" Rows.laid_strconv_ErrRange (by simp [Ep])
    obtain rfl:=Option.some.inj ((show prog.globalNamed "strconv.ErrRange" = some 7 by kernel_rfl).symm.trans hg)
    obtain rfl:=Option.some.inj ((show (prog.globals[7]?).map (·.type)=some 155 by kernel_rfl).symm.trans hty)
    obtain ⟨u,v,hcs⟩:=K_ ⟨_,underlying155⟩ hd
    obtain ⟨e,fz,hh⟩:=Wn hg hvar
    refine ⟨u,v,e,fz,?_⟩
    rw [hh]; congr 1; congr 1
    exact Array.toList_inj.1 hcs
  · obtain ⟨g, t, cs, fuel, q, hg, hty, hvar, hd⟩ := r "strconv.ErrSyntax" Rows.laid_strconv_ErrSyntax (by simp [Ep])
    obtain rfl:=Option.some.inj ((show prog.globalNamed "strconv.ErrSyntax" = some 6 by kernel_rfl).symm.trans hg)
    obtain rfl:=Option.some.inj ((show (prog.globals[6]?).map (·.type)=some 155 by kernel_rfl).symm.trans hty)
    obtain ⟨u,v,hcs⟩:=K_ ⟨_,underlying155⟩ hd
    obtain ⟨e,fz,hh⟩:=Wn hg hvar
    refine ⟨u,v,e,fz,?_⟩
    rw [hh]; congr 1; congr 1
    exact Array.toList_inj.1 hcs
  · obtain ⟨g, t, cs, fuel, q, hg, hty, hvar, hd⟩ := r "math/bits.deBruijn64tab" Rows.laid_math_bits_deBruijn64tab (by simp [Ep])
    obtain rfl:=Option.some.inj ((show prog.globalNamed "math/bits.deBruijn64tab" = some 4 by kernel_rfl).symm.trans hg)
    obtain rfl:=Option.some.inj ((show (prog.globals[4]?).map (·.type)=some 232 by kernel_rfl).symm.trans hty)
    have hcs:=cells_of_tab (zs:=ID) (k:=.u8) underlying232 underlying5 Qb Qb ((by kernel_rfl:(Rows.laid_math_bits_deBruijn64tab:DataW Unit)=tabData .u8 ID) ▸ hd)
    obtain ⟨e,fz,hh⟩:=Wn hg hvar
    refine ⟨e,fz,?_⟩
    rw [hh,←hcs]
theorem own_:ownKnob prog.godebug=none:=by kernel_rfl
theorem wit_ (os:Os) (args:Array Value):laidMetH prog Ep ((World.laidAll prog os Ep).forCall (fun _ _=>0) ⟨#[],args,[]⟩).memory:=by
  rw [MakeChecks.laidMetH_plain _ _ _ Qb]; exact laidMet_laidAll _ Qb Qb
end
end Go.Scarf
