/- A part of the proof. -/
import Derived.Test.YtidlkjpohhbbcaaGreatDoorTie
import Derived.Test.YtidlkjpohhbbcaaGreatDoorShelf2
import Derived.Test.YtidlkjpohhbbcaaGreatDoorNum
import Derived.ProofKit
import Derived.Shelf.Lay
import Derived.PinnedBridge
import Derived.Lay
import Derived.LaidOnce
import Derived.SevenTiedAt
import Derived.Lib.LaidU8T
import Derived.Lib.LaidTab
import Derived.Deep.Slices
import Derived.WideKeyArgs
import Derived.Carry
import Derived.Lib.SmallJoins
import Derived.Laws.MakeOwn
set_option linter.all false
set_option maxHeartbeats 8000000
set_option maxRecDepth 10000
namespace Go.Scarf
open Go.RowKit Go.Proofs Go.Proofs.Tryz
set_option maxRecDepth 100000
section
variable {H:Type}{enc:TypeId × Value->H}{W:World}{base:Nat}{sp:Nat->Bool}{held:Bool}
open Go.ChangeShapes Go.WideShapes Go.ChangeAt Go.Lib Go.Shelf Go.WideMaps Go.ChangeMaps
theorem wf_i64{n:Int}(h:(Lit.int .i64 n).wf=true):-9223372036854775808<=n/\n<=9223372036854775807:=by
  simpa[Lit.wf,IntKind.min,IntKind.max,IntKind.signed,IntKind.bits]using h
theorem cs36:prog.cellsOf 36=4:=by kernel_rfl
theorem cs9:prog.cellsOf 9=1:=by kernel_rfl
theorem cs3:prog.cellsOf 3=1:=by kernel_rfl
theorem cs33:prog.cellsOf 33=1:=by kernel_rfl
theorem cs34:prog.cellsOf 34=1:=by kernel_rfl
theorem bs_of(s:ByteArray):s=bs s.data.toList:=by cases s;rfl
theorem XT{e:TypeId}{m:Nat}{w:World}{ad:Addr}(hC:prog.cellsOf e=m):∀(len:Nat)(g:Nat->D),(∀i,i<len->∃cs,w.cells? base (ad.add (i*m)) m=some cs/\Rep (λ_=>True) w (g i) cs) ->
    ∃es:List Value,es.length=len*m/\CellsAt (λ_=>True) w ad es/\RepL (λ_=>True) w ((List.range len).map g) es
  | 0,g,_=>⟨[],by simp,λi hi=>absurd hi Oa,RepL.nil_mk⟩
  | len + 1, g, h => by
    obtain⟨es,hl,hc,hr⟩:=XT hC len g (λi hi=>h i Aa);obtain⟨cs,h1,h2⟩:=h len Aa;obtain⟨_,hcl,hat⟩:=World.cells?_some h1;refine⟨es++cs,by rw[dQ,hl,hcl,Nat.add_mul,Nat.one_mul],λi hi=>⟨?_,trivial⟩,?_⟩
    ·by_cases hi' : i<es.length
     ·rw[List.getElem_append_left hi'];exact (hc i hi').1
     have hi2 : i-es.length<cs.length := by rw[dQ]at hi;omega
     rw[List.getElem_append_right Aa];have:=hat (i-es.length) Aa;rw[Lm,<-hl]at this;rw[show es.length+(i-es.length)=i by omega]at this;rw[this];exact List.getElem?_eq_getElem hi2
    rw[List.range_succ, jQ];exact RepL.append hr (by have:=RepL.cons_mk h2 RepL.nil_mk;rw[qQ]at this;exact this)
theorem U1{α:Type}[Inhabited α]{P:Nat->α->Prop}:∀(n:Nat),(∀i,i<n->∃a,P i a)->∃f:Nat->α,∀i,i<n->P i (f i)
  | 0,_=>⟨λ_=>default,λi hi=>absurd hi Aa⟩
  | n + 1, h => by
    obtain⟨f,hf⟩:=U1 n (λi hi=>h i Aa);obtain⟨a,ha⟩:=h n Aa;refine⟨λi=>if i=n then a else f i,λi hi=>?_⟩;by_cases e:i=n
    ·subst e;simpa using ha
    simp only[e,if_false];exact hf i Aa
theorem Lz{t e:TypeId}{m:Nat}{fuel:Nat}{cs:List Value}{x:DataW H × List MemPlace}{α:Type}[Inhabited α]{g:α->D}(ht:prog.underlying t=some (.slice e))(hC:prog.cellsOf e=m)
    (hel:∀n,n<fuel->∀cs x,DataW.trod enc prog W base sp held n e cs=some x->∃a:α,Rep (λ_=>True) W (g a) cs) (h:DataW.trod enc prog W base sp held fuel t cs=some x) :
    ∃l:List α,Rep (λ_=>True) W (.slice (l.map g)) cs:=by
  rcases DataW.trod_slice ht h with ⟨rfl,-⟩|⟨a,len,cap,elems,rest,n,hn,rfl,-,hb,hl,hm,hlen,hall,-,-⟩
  ·exact⟨[],Rep.nil_slice 0 Aa none⟩
  have hi:∀i,i<len->∃al:α,∃cs',W.cells? base (a.add (i*m)) m=some cs'/\Rep (λ_=>True) W (g al) cs':=by
    intro i hi;have h1:=hall i hi;have h2:elems[i]? = some (elems[i]' Aa):=List.getElem?_eq_getElem Aa;rw[h2,hC,Option.bind_eq_some_iff]at h1;obtain⟨cs',h3,h4⟩:=h1;obtain⟨al,hr⟩:=hel n Aa _ _ h4;exact⟨al,cs',h3,hr⟩
  obtain⟨f,hf⟩:=U1 len hi;obtain⟨es,-,hc,hr⟩:=XT hC len (λi=>g (f i)) hf;refine⟨(List.range len).map f,?_⟩;rw[List.map_map];exact Rep.slice_mk Oa hl hm (λ_=>⟨a,O,es,hc,hr⟩)
theorem V5{fuel:Nat}{cs:List Value}{x:DataW H × List MemPlace}(h:DataW.trod enc prog W base sp held fuel 9 cs=some x):∃s:Str,Rep (λ_=>True) W (Vl s) cs:=by
  obtain⟨s,rfl,-,hs⟩:=DataW.trod_string kX h;refine⟨s.data.toList,?_⟩;have e:[Value.string s]=[.string (bs s.data.toList)]:=by rw[<-bs_of]
  rw[e];exact Rep.lit_mk (by show s.data.toList.length<=_;rw[Array.length_toList];exact hs)
theorem KR{fuel:Nat}{cs:List Value}{x:DataW H × List MemPlace}(h:DataW.trod enc prog W base sp held fuel 3 cs=some x):∃n:Int,Rep (λ_=>True) W (Gj n) cs:=by
  obtain⟨n,rfl,-,hn⟩:=DataW.trod_int bX h;exact⟨n,Rep.lit_mk ⟨(wf_i64 hn).1,(wf_i64 hn).2⟩⟩
instance : Inhabited Tree:=⟨.node 0 [] [] []⟩
theorem tree_of:∀(fuel:Nat)(cs:List Value)(x:DataW H × List MemPlace),DataW.trod enc prog W base sp held fuel 36 cs=some x->∃t:Tree,Rep (λ_=>True) W (Ob t) cs:=by
  intro fuel
  induction fuel using Nat.strongRecOn with
  | _ fuel ih =>
    intro cs x h;obtain⟨xs,n,rfl,-,hcl,hxl,hf⟩:=DataW.trod_struct underlying36 h;rw[cs36]at hcl;have get:∀(i:Nat)(hi:i<4),xs[i]? = some (xs[i]'(by rw[hxl];exact hi)):=λi hi=>List.getElem?_eq_getElem _;have h0:=(hf 0 _ rfl).trans (get 0 Aa);have h1:=(hf 1 _ rfl).trans (get 1 Aa);have h2:=(hf 2 _ rfl).trans (get 2 Aa);have h3:=(hf 3 _ rfl).trans (get 3 Aa);obtain⟨k,hk⟩:=KR h0;obtain⟨t,ht⟩:=V5 h1;obtain⟨ks,hks⟩:=Lz (g:=Vl) cX cs9 (λn _ cs x h=>V5 h) h2;obtain⟨ys,hys⟩:=Lz (g:=Ob) dX cs36 (λm hm cs x h=>ih m Aa cs x h) h3;refine⟨.node k t ks ys,?_⟩;have e:cs=(cs.drop 0).take (prog.cellsOf 3)++((cs.drop 1).take (prog.cellsOf 9)++((cs.drop 2).take (prog.cellsOf 33)++((cs.drop 3).take (prog.cellsOf 34)++[]))):=by
      rw[cs3,cs9,cs33,cs34]
      match cs,hcl with
      | [a,b,c,d],_=>rfl
    rw[e];unfold Ob;rw[<-Je]at hys;exact Rep.agg_mk (RepL.cons_mk hk (RepL.cons_mk ht (RepL.cons_mk hks (RepL.cons_mk hys RepL.nil_mk))))
theorem laidOut_:laidOutB prog=true:=by kernel_rfl
theorem IN{W':World}{t:TypeId}(hr:prog.readableRec t=true)(hrow:t<prog.types.size){v:Value}{d:DataW H}{ps:List MemPlace}(hb:Below W.heap.size W W')(hlt:∀p∈ps,p.block<W.heap.size)
    (h:DataW.Trod enc prog W 0 (λ_=>true) true t v d ps):DataW.Trod enc prog W' 0 (λb=>decide (b<W.heap.size)) true t v d ps :=
  WideElems.Trod_stays laidOut_ hr hrow h (λp hp=>hb.same (hlt p hp)) (λp hp=>by simpa using hlt p hp)
end
section
open Go.Lib Go.Shelf Go.Proofs.YtidlkjpohhbbcaaGreatDoor
def Bq:List (String × DataW Unit):=[("math/bits.deBruijn32tab", Rows.laid_math_bits_deBruijn32tab),("math/bits.deBruijn64tab", Rows.laid_math_bits_deBruijn64tab),("internal/strconv.uint64pow10", Rows.laid_internal_strconv_uint64pow10),("unicode/utf8.acceptRanges", Rows.laid_unicode_utf8_acceptRanges),("strconv.ErrRange", Rows.laid_strconv_ErrRange),("strconv.ErrSyntax", Rows.laid_strconv_ErrSyntax),("unicode/utf8.first", Rows.laid_unicode_utf8_first)]
theorem u8x:U8Extra prog lays196_ren:=⟨by kernel_rfl,by kernel_rfl,by kernel_rfl,by kernel_rfl,by kernel_rfl,by kernel_rfl,by kernel_rfl⟩
theorem Jo{W:World}{n:String}{g:Nat}{cs:Array Value}(hg:prog.globalNamed n=some g)(h:World.var? prog W n=some cs):∃e fz,W.heap[g]? = some (.cells cs e fz):=by
  unfold World.var? at h;rw[hg]at h;simp only[Option.bind_some]at h;split at h
  ·rename_i cs' e fz hh
   injection h with h
   subst h;exact⟨e,fz,hh⟩
  cases h
theorem RL{enc:TypeId × Value->Unit}{W:World}{base fuel:Nat}{sp:Nat->Bool}{t:TypeId}{cs:List Value}{nm:String}{d:DataW Unit}{q:List MemPlace}(ht':∃ms,prog.underlying t=some (.interface ms))
    (h:DataW.trod enc prog W base sp false fuel t cs=some (.iface nm d,q)):∃u v,cs=[.iface u v]:=by
  obtain⟨ms,ht⟩:=ht';cases fuel with
  | zero=>simp[DataW.trod]at h
  | succ fuel =>
    unfold DataW.trod at h;rw[ht]at h;split at h <;> first|(cases h;done)|(simp at h;done)|skip
    all_goals first|exact⟨_,_,rfl⟩|(simp_all;done)
theorem KQ{W:World}(h:laidMetH prog Bq W):Gl W:=by
  rw[MakeChecks.laidMetH_plain _ _ _ Qb]at h;have r:∀ n d,(n,d)∈Bq->VarReads prog W n d:=λn d hm=>Lib.laidMet.reads h hm;have hT:=utf8Tabs_of_readsT (U8Types.of196 lays196) u8x (w:=W) (Pinned.utf8First_eq▸r "unicode/utf8.first" _ (by simp[Bq,Rows.laid_unicode_utf8_first])) ((by kernel_rfl:Rows.laid_unicode_utf8_acceptRanges=acceptData)▸r "unicode/utf8.acceptRanges" _ (by simp[Bq]));refine⟨?_,hT,?_,?_,?_,?_⟩
  ·obtain⟨g, t, cs, fuel, q, hg, hty, hvar, hd⟩ := r "strconv.ErrRange" Rows.laid_strconv_ErrRange (by simp[Bq])
   obtain rfl:=lQ ((show prog.globalNamed "strconv.ErrRange" = some 7 by kernel_rfl).symm.trans hg);obtain⟨e,fz,hh⟩:=Jo hg hvar;have:=Ac hh;omega
  ·obtain⟨g, t, cs, fuel, q, hg, hty, hvar, hd⟩ := r "internal/strconv.uint64pow10" Rows.laid_internal_strconv_uint64pow10 (by simp[Bq])
   obtain rfl:=lQ ((show prog.globalNamed "internal/strconv.uint64pow10" = some 3 by kernel_rfl).symm.trans hg);obtain rfl:=lQ ((show (prog.globals[3]?).map (·.type)=some 283 by kernel_rfl).symm.trans hty);have hcs:=cells_of_tab (zs:=Lib.pow10Tab) (k:=.u64) underlying283 underlying246 Qb Qb ((by kernel_rfl:(Rows.laid_internal_strconv_uint64pow10:DataW Unit)=tabData .u64 Lib.pow10Tab)▸hd);obtain⟨e,fz,hh⟩:=Jo hg hvar;refine⟨e,fz,?_⟩;rw[hh,<-hcs]
  ·obtain⟨g, t, cs, fuel, q, hg, hty, hvar, hd⟩ := r "strconv.ErrRange" Rows.laid_strconv_ErrRange (by simp[Bq])
   obtain rfl:=lQ ((show prog.globalNamed "strconv.ErrRange" = some 7 by kernel_rfl).symm.trans hg);obtain rfl:=lQ ((show (prog.globals[7]?).map (·.type)=some 186 by kernel_rfl).symm.trans hty);obtain⟨u,v,hcs⟩:=RL ⟨_,underlying186⟩ hd;obtain⟨e,fz,hh⟩:=Jo hg hvar;refine⟨u,v,e,fz,?_⟩;rw[hh];congr 1;congr 1;exact Array.toList_inj.1 hcs
  ·obtain⟨g, t, cs, fuel, q, hg, hty, hvar, hd⟩ := r "strconv.ErrSyntax" Rows.laid_strconv_ErrSyntax (by simp[Bq])
   obtain rfl:=lQ ((show prog.globalNamed "strconv.ErrSyntax" = some 6 by kernel_rfl).symm.trans hg);obtain rfl:=lQ ((show (prog.globals[6]?).map (·.type)=some 186 by kernel_rfl).symm.trans hty);obtain⟨u,v,hcs⟩:=RL ⟨_,underlying186⟩ hd;obtain⟨e,fz,hh⟩:=Jo hg hvar;refine⟨u,v,e,fz,?_⟩;rw[hh];congr 1;congr 1;exact Array.toList_inj.1 hcs
  obtain⟨g, t, cs, fuel, q, hg, hty, hvar, hd⟩ := r "math/bits.deBruijn64tab" Rows.laid_math_bits_deBruijn64tab (by simp[Bq]);obtain rfl:=lQ ((show prog.globalNamed "math/bits.deBruijn64tab" = some 5 by kernel_rfl).symm.trans hg);obtain rfl:=lQ ((show (prog.globals[5]?).map (·.type)=some 313 by kernel_rfl).symm.trans hty);have hcs:=cells_of_tab (zs:=RO) (k:=.u8) underlying313 gX Qb Qb ((by kernel_rfl:(Rows.laid_math_bits_deBruijn64tab:DataW Unit)=tabData .u8 RO)▸hd);obtain⟨e,fz,hh⟩:=Jo hg hvar;refine⟨e,fz,?_⟩;rw[hh,<-hcs]
theorem own_:ownKnob prog.godebug=none:=by kernel_rfl
theorem wit_(os:Os)(args:Array Value):laidMetH prog Bq ((World.laidAll prog os Bq).forCall (λ_ _=>0) ⟨#[],args,[]⟩).memory:=by
  rw[MakeChecks.laidMetH_plain _ _ _ Qb];exact laidMet_laidAll _ Qb Qb
end
open Go.RowKit
section
variable {S:Nat->Prop}{w:World}
theorem Rep.slice_is{ds:List D}{v:Value}(h:Rep S w (.slice ds) [v]):∃A c,v=.slice A ds.length c:=by
  rw[Rep]at h;obtain⟨A,c,he,-⟩:=h;exact⟨A,c,(List.cons.inj he).1⟩
theorem Rep.elem1{ds:List D}{A:Option Addr}{len c:Nat}(h:Rep S w (.slice ds) [.slice A len c])(hs:∀d∈ds,Wd d=1){i:Nat}(hi:i<ds.length) :
    ∃ad v,A=some ad/\w.cell? (ad.add (i*1))=some v/\Rep S w ds[i] [v]:=by
  obtain⟨ad,cs,hA,hl,hc,hr⟩:=Rep.elem (sz:=1) h hs hi
  match cs,hl with
  | [v], _ =>
    have:=hc 0 Oa;simp only[Gp,List.getElem_cons_zero]at this;exact⟨ad,v,hA,this,hr⟩
theorem Rep.int_elem{ns:List Int}{A:Option Addr}{len c:Nat}(h:Rep S w (.slice (ns.map Gj)) [.slice A len c]){i:Nat}(hi:i<ns.length) :
    ∃ad,A=some ad/\w.cell? (ad.add (i*1))=some (J ns[i])/\(-9223372036854775808<=ns[i]/\ns[i]<=9223372036854775807):=by
  obtain⟨ad,v,hA,hc,hr⟩:=Rep.elem1 h (λd hd=>by obtain⟨k,_,rfl⟩:=nQ.1 hd;rfl) (i:=i) (by simpa using hi);rw[List.getElem_map,Gj,Rep]at hr;obtain⟨he,hk⟩:=hr;obtain rfl:=(List.cons.inj he).1;exact⟨ad,hA,hc,hk⟩
end
section
variable {H:Type}{enc:TypeId × Value->H}{W:World}{base:Nat}{sp:Nat->Bool}{held:Bool}
open Go.ChangeShapes Go.WideShapes Go.ChangeAt Go.Lib Go.Shelf
theorem open_sl{t e:TypeId}{m:Nat}{α:Type}[Inhabited α]{g:α->D}{r:Reach}{b0:Nat}{v:Value}{d:DataW H}{q:List MemPlace}(ht:prog.underlying t=some (.slice e))(hC:prog.cellsOf e=m)
    (hel:∀n cs x,DataW.trod enc prog W base sp held n e cs=some x->∃a:α,Rep (λ_=>True) W (g a) cs) (hv:Value.okWide prog W r b0 t v) (h:DataW.Trod enc prog W base sp held t v d q) :
    ∃(l:List α)(A:Option Addr)(c:Nat),v=.slice A l.length c/\Rep (λ_=>True) W (.slice (l.map g)) [.slice A l.length c]:=by
  obtain⟨A,n,c,rfl⟩:=okWide_slice ht hv;obtain⟨fuel,hf⟩:=h;obtain⟨l,hl⟩:=Lz ht hC (λn _ cs x h=>hel n cs x h) hf;have hl2:Rep (λ_=>True) W (.slice (l.map g)) [.slice A n c]:=hl;obtain⟨A2,c2,he⟩:=Rep.slice_is hl2;rw[rQ]at he;obtain⟨rfl,rfl,rfl⟩:=Value.slice.inj he;exact⟨l,A,c,O,hl2⟩
end
theorem SN(s:Str):(Cc s).1.whole.length<=s.length/\(Cc s).1.rest.length<=s.length/\(Cc s).1.exp.length<=s.length:=by
  have h1:=Ii [101,69] (Lib.trimPrefix s [45]);have h2:=Yk s [45];have h3:=Ii [46] (Vb [101,69] (Lib.trimPrefix s [45])).1;have h4:=Yk (Vb [101,69] (Lib.trimPrefix s [45])).2.1 [45];have h5:=Yk (Lib.trimPrefix (Vb [101,69] (Lib.trimPrefix s [45])).2.1 [45]) [43];unfold Cc;simp only
  repeat' split
  all_goals (refine⟨?_,?_,?_⟩ <;> simp only[Qk,List.length_nil] <;> omega)
def Xj(s:Str):Int:=if (Cc s).1.low then-Qd (Lib.trimLeftB (Cc s).1.exp 48) else Qd (Lib.trimLeftB (Cc s).1.exp 48)
theorem Sh(s:Str):Kc s=if (Cc s).2=false then (Num.zero,2) else
  if 1000<(Cc s).1.whole.length+(Cc s).1.rest.length then (Num.zero,3) else
  if 9<(Lib.trimLeftB (Cc s).1.exp 48).length then (Num.zero,4) else
  if Lib.trimLeftB ((Cc s).1.whole++(Cc s).1.rest) 48=[] then (Num.zero,0) else
  if Lc (⟨(Cc s).1.neg,Lib.trimRightB (Lib.trimLeftB ((Cc s).1.whole++(Cc s).1.rest) 48) 48,Xj s-(Cc s).1.rest.length+(Lib.trimLeftB ((Cc s).1.whole++(Cc s).1.rest) 48).length-(Lib.trimRightB (Lib.trimLeftB ((Cc s).1.whole++(Cc s).1.rest) 48) 48).length⟩)=false then (Num.zero,4) else
  (⟨(Cc s).1.neg,Lib.trimRightB (Lib.trimLeftB ((Cc s).1.whole++(Cc s).1.rest) 48) 48,Xj s-(Cc s).1.rest.length+(Lib.trimLeftB ((Cc s).1.whole++(Cc s).1.rest) 48).length-(Lib.trimRightB (Lib.trimLeftB ((Cc s).1.whole++(Cc s).1.rest) 48) 48).length⟩,0):=rfl
theorem FX{s:Str}{q:Nat}(h:q<s.length)(ha:s.all Pe=true):(Utf8.decode (bs s) q).1=s[q].toNat/\(Utf8.decode (bs s) q).2=1/\48<=s[q].toNat/\s[q].toNat<=57:=by
  have hd:=List.all_eq_true.1 ha s[q] (eQ h);have:=JE s q h hd;rw[this];unfold Pe at hd;simp only[Bool.and_eq_true,decide_eq_true_eq]at hd;exact⟨O,O,hd.1,hd.2⟩
theorem Ts{f:UInt8->Bool}{s:Str}(q:Nat)(h:s.all f=true):(s.take q).all f=true:=by
  rw[List.all_eq_true]at h ⊢;exact λx hx=>h x (List.mem_of_mem_take hx)
theorem H1(s:Str)(hl:s.length<=140737488355328)(w0:World):Calls prog 100 #[I s] w0 (Yc λv w'=>v=.tuple #[Kk (Kc s).1,J (Kc s).2]/\Same [] w0 w'):=by
 have hls:=SN s;have ht0:=Ux (Cc s).1.exp 48;have ht1:=Ux ((Cc s).1.whole++(Cc s).1.rest) 48;rw[dQ]at ht1;have ht2:=G8 (Lib.trimLeftB ((Cc s).1.whole++(Cc s).1.rest) 48) 48;refine Fa func100 O ntmps100 Ab (Wb _) ?_;have hF:=FR.start w0 [];refine Ea (Pc (cs:=#[.bool false,I [],J 0]) hF tX O ?_);rintro b1 w hb1 hF -;refine Ba (Fb O) (Lb (Ba (Ad O) ?_));refine Pa hF (read_c s hl _) (Ma en_154 O O) ?_;intro w hF;refine Ba (Mj O) (Ba (Gt O O) (Ba (Ym O O) ?_));refine If hF zeroValue176 lZ O ?_;rintro b2 w hb2 hF -;refine Ba (Kb O) (Lb (Ba (Mb EJ O) (Xb (Ej iZ O hF.F 0 O O) ?_)));refine Pa hF (D4 (Cc s).1.exp _) (Xa en_155 O O O) ?_;intro w hF;refine Ba (He O) (Da (Ga (Qa (Ea (Ba (Dc O) (Ba (Di O) (Ba (Kb O) (Da ?_))))))));refine Jd O O (λhc0=>?_) (λhc0=>?_);refine Ea (Ia (w':=w) (v:=.agg #[.bool false,I [],J 0]) Qb ?_);refine Ge hF tZ O O Tr ?_;rintro w hF -;refine Ba (Fb O) (Da ?_);refine Db (Cb (La (Ld O (l:=[.bool false,I [],J 0]) O jZ tZ O (hF.cellsAll 1 O) (v:=J 2) O) ?_));exact⟨by rw[Sh,if_pos (by simpa using hc0)];rfl,hF.same⟩;refine Ea (Ba (Mb L7 O) (Xb (Ej iZ O hF.F 0 O O) (Ba (Sk kX O) (Ba (Mb B0 O) (Xb (Ej iZ O hF.F 0 O O) (Ba (Sk kX O) (Ba (Cl O O) (Ba (Mo O O) (Ba (Kb O) (Da ?_))))))))));refine Jb O O (λhc1=>?_) (λhc1=>?_);refine Ea (Ia (w':=w) (v:=.agg #[.bool false,I [],J 0]) Qb ?_);refine Ge hF tZ O O Tr ?_;rintro w hF -;refine Ba (Fb O) (Da ?_);refine Db (Cb (La (Ld O (l:=[.bool false,I [],J 0]) O jZ tZ O (hF.cellsAll 1 O) (v:=J 3) O) ?_));exact⟨by rw[Sh,if_neg (by simpa using hc0),if_pos Aa];rfl,hF.same⟩;refine Ea (Ba (Ad O) (Ba (Sk kX O) (Ba (Mo O O) (Ba (Kb O) (Da ?_)))));refine Jb O O (λhc2=>?_) (λhc2=>?_);refine Ea (Ia (w':=w) (v:=.agg #[.bool false,I [],J 0]) Qb ?_);refine Ge hF tZ O O Tr ?_;rintro w hF -;refine Ba (Fb O) (Da ?_)
 refine Db (Cb (La (Ld O (l:=[.bool false,I [],J 0]) O jZ tZ O (hF.cellsAll 1 O) (v:=J 4) O) ?_));exact⟨by rw[Sh,if_neg (by simpa using hc0),if_neg Aa,if_pos Aa];rfl,hF.same⟩;refine Ka (Ya (Ha (Ea (Ba (Fb O) (Da (Ga (Ea (Ba (Ad O) ?_))))))));refine O0 (str:=(Lib.trimLeftB (Cc s).1.exp 48)) hF kX O ?_;rintro b3 w hb3 hF -;refine Da (Qa ?_);have hall:(Lib.trimLeftB (Cc s).1.exp 48).all Pe=true:=Kx (BX (by simp_all));refine Fc (λμ σ w=>∃(q:Nat),μ=(Lib.trimLeftB (Cc s).1.exp 48).length-q/\(q<=(Lib.trimLeftB (Cc s).1.exp 48).length)/\AllEq σ [(2,V b1),(4,V b2),(7,J (Qd ((Lib.trimLeftB (Cc s).1.exp 48).take q))),(41,V b3)]/\FR w0 [] [(b3,.stringIter (bs ((Lib.trimLeftB (Cc s).1.exp 48))) (q)),(b2,.cells #[.bool ((Cc s).1.neg),.bool ((Cc s).1.low),I ((Cc s).1.whole),I ((Cc s).1.rest),I ((Cc s).1.exp)] 176),(b1,.cells #[.bool false,I [],J 0] 90)] w) _ ⟨0,O,(Nat.zero_le _),Jj,hF⟩ ?_;rintro μ σ w ⟨q,rfl,hq,hs,hF⟩;refine Cg.slots hs ?_;clear hs;intro σ;refine Ea ?_;by_cases hn0:(q)<((Lib.trimLeftB (Cc s).1.exp 48):Str).length;refine F6 0 (p:=q) (str:=(Lib.trimLeftB (Cc s).1.exp 48)) hF O O hn0 ?_;rintro w hF -;refine Ba (Ym O O) (Da (Ga (Yd O (Ka (Ha (Qa (Ea (Ba (Rj O O) (Ba (Fb O) (Da ?_))))))))));refine Ja (Ba (Za O) ?_);have hv:=FX (s:=(Lib.trimLeftB (Cc s).1.exp 48)) (q:=q) Aa hall;have hb:=Mw ((Lib.trimLeftB (Cc s).1.exp 48).take q) (Ts q hall) (by rw[List.length_take];omega);refine Ia (v:=J (10*Qd ((Lib.trimLeftB (Cc s).1.exp 48).take q))) (Q1 O O (Hg Aa Aa Aa)) (Ba (Za O) ?_);refine Ia (v:=.int .i32 (((Utf8.decode (bs (Lib.trimLeftB (Cc s).1.exp 48)) q).1:Int)-48)) (Tu O O (by rw[IntKind.wrap_i32];omega)) ?_;refine Ia (v:=J (((Utf8.decode (bs (Lib.trimLeftB (Cc s).1.exp 48)) q).1:Int)-48)) (Be yZ bX O (Rh Aa Aa)) ?_;refine Ia (v:=J (Qd ((Lib.trimLeftB (Cc s).1.exp 48).take (q+1)))) (Rs O O (by rw[Io _ q Aa,hv.1];exact Rh Aa Aa)) ?_
 refine Ba (Fb O) (Va (Ya ?_));rw[hv.2.1]at hF;refine Ta ⟨_,?_,q+1,O,Aa,Jj,hF⟩;omega;refine It 0 (p:=q) (str:=(Lib.trimLeftB (Cc s).1.exp 48)) hF O O hn0 (Ba (Ym O O) (Da (Ga (Zd O ?_))));refine Bc (Yb O ?_);refine Ha ?_;have eT:(Lib.trimLeftB (Cc s).1.exp 48).take q=(Lib.trimLeftB (Cc s).1.exp 48):=List.take_of_length_le Aa;have hb:=Mw (Lib.trimLeftB (Cc s).1.exp 48) hall Aa;have hE:-1000000000<Xj s/\Xj s<1000000000:=by unfold Xj;split <;> omega
 refine Ga (Fd (λσ w=>AllEq σ [(2,V b1),(4,V b2),(7,J (Xj s))]/\FR w0 [] [(b3,.stringIter (bs ((Lib.trimLeftB (Cc s).1.exp 48))) (q)),(b2,.cells #[.bool ((Cc s).1.neg),.bool ((Cc s).1.low),I ((Cc s).1.whole),I ((Cc s).1.rest),I ((Cc s).1.exp)] 176),(b1,.cells #[.bool false,I [],J 0] 90)] w) ?_ ?_);refine Ea (Ba (Mb I_ O) (Xb (X3 dZ O hF.F 1 O O) (Da ?_)));refine Jd O O (λhc4=>?_) (λhc4=>?_);have eE:Xj s = - Qd (Lib.trimLeftB (Cc s).1.exp 48):=by unfold Xj;rw[if_pos (by assumption)]
 refine Ja (Ba (Za O) ?_);refine Ia (v:=J (Xj s)) (F4 O (by rw[eT,eE];exact Hg Aa Aa Aa)) ?_;refine Ba (Fb O) (Va ?_);exact Ta ⟨Oi,hF⟩;have eE:Xj s=Qd (Lib.trimLeftB (Cc s).1.exp 48):=by unfold Xj;rw[if_neg (by simp_all)]
 rw[eT,<-eE];refine Ka ?_;exact Ta ⟨Oi,hF⟩;rintro σ w ⟨hs,hF⟩;refine Eg.slots hs ?_;clear hs;intro σ;refine Ha (Ea (Ba (Mb L7 O) (Xb (Ej iZ O hF.F 1 O O) (Ba (Mb B0 O) (Xb (Ej iZ O hF.F 1 O O) (Ia (v:=I (((Cc s).1.whole)++((Cc s).1.rest))) (Hi O O Aa) ?_))))));refine Pa hF (D4 ((Cc s).1.whole++(Cc s).1.rest) _) (Xa en_155 O O O) ?_;intro w hF;refine Ba (He O) (Da (Ga (Ea (Ba (Ad O) (Ba (Ry O O) (Da ?_))))));refine Jb O O (λhc5=>?_) (λhc5=>?_);refine Ea (Ia (w':=w) (v:=.agg #[.bool false,I [],J 0]) Qb ?_);refine Ge hF tZ O O V3 ?_;rintro w hF -;refine Ba (Fb O) (Da ?_);refine Db (Cb (La (Ld O (l:=[.bool false,I [],J 0]) O jZ tZ O (hF.cellsAll 2 O) (v:=J 0) O) ?_));exact⟨by rw[Sh,if_neg (by simpa using hc0),if_neg Aa,if_neg Aa,if_pos hc5];rfl,hF.same⟩;refine Ka (Ha (Ea (Ba (Ad O) ?_)));refine Pa hF (BD (Lib.trimLeftB ((Cc s).1.whole++(Cc s).1.rest) 48) _ Aa) (Xa en_156 O O O) ?_;intro w hF;refine Ba (He O) (Lb (Ba (Mb HH O) (Xb (X3 dZ O hF.F 1 O O) (Ba (Ad O) (Ba (Za O) (Ba (Mb B0 O) (Xb (Ej iZ O hF.F 1 O O) (Ba (Sk kX O) (Ba (C5 O O) (Ba (Ad O) ?_))))))))));refine Ba (Sk kX O) (Ba (Cl O O) (Ba (Ad O) (Ba (Sk kX O) (Ba (C5 O O) ?_))));refine Ia (w':=w) (v:=.agg #[.bool ((Cc s).1.neg),I ((Lib.trimRightB (Lib.trimLeftB ((Cc s).1.whole++(Cc s).1.rest) 48) 48)),J ((((Xj s:Int)-((((Cc s).1.rest):Str).length:Int):Int)+((((Lib.trimLeftB ((Cc s).1.whole++(Cc s).1.rest) 48)):Str).length:Int):Int)-((((Lib.trimRightB (Lib.trimLeftB ((Cc s).1.whole++(Cc s).1.rest) 48) 48)):Str).length:Int))]) Qb (If hF tX tZ O ?_);rintro b4 w hb4 hF -;refine Da (Ga (Ea (Xb (Bf jZ tZ O hF.F 0 O O) ?_)));refine Pa hF (L1 (⟨(Cc s).1.neg,(Lib.trimRightB (Lib.trimLeftB ((Cc s).1.whole++(Cc s).1.rest) 48) 48),Xj s-(Cc s).1.rest.length+(Lib.trimLeftB ((Cc s).1.whole++(Cc s).1.rest) 48).length-(Lib.trimRightB (Lib.trimLeftB ((Cc s).1.whole++(Cc s).1.rest) 48) 48).length⟩) (by show (Lib.trimRightB (Lib.trimLeftB ((Cc s).1.whole++(Cc s).1.rest) 48) 48).length<=_;omega) _) (Ma QL O O) ?_
 intro w hF;refine Ba (Di O) (Da ?_);refine Jd O O (λhc6=>?_) (λhc6=>?_);refine Ea (Ia (w':=w) (v:=.agg #[.bool false,I [],J 0]) Qb ?_);refine Ge hF tZ O O N_ ?_;rintro w hF -;refine Ba (Fb O) (Da ?_);refine Db (Cb (La (Ld O (l:=[.bool false,I [],J 0]) O jZ tZ O (hF.cellsAll 3 O) (v:=J 4) O) ?_));exact⟨by rw[Sh,if_neg (by simpa using hc0),if_neg Aa,if_neg Aa,if_neg hc5,if_pos (by simpa using hc6)];rfl,hF.same⟩;refine Ka (Ha (Ea (Xb (Bf jZ tZ O hF.F 0 O O) ?_)));refine Ge hF tZ O O N_ ?_;rintro w hF -;refine Ba (Fb O) (Da ?_);refine Db (Cb (La (Ld O (l:=[.bool ((Cc s).1.neg),I ((Lib.trimRightB (Lib.trimLeftB ((Cc s).1.whole++(Cc s).1.rest) 48) 48)),J ((((Xj s:Int)-((((Cc s).1.rest):Str).length:Int):Int)+((((Lib.trimLeftB ((Cc s).1.whole++(Cc s).1.rest) 48)):Str).length:Int):Int)-((((Lib.trimRightB (Lib.trimLeftB ((Cc s).1.whole++(Cc s).1.rest) 48) 48)):Str).length:Int))]) O jZ tZ O (hF.cellsAll 3 O) (v:=J 0) O) ?_));exact⟨by rw[Sh,if_neg (by simpa using hc0),if_neg Aa,if_neg Aa,if_neg hc5,if_neg (by simpa using hc6)];rfl,hF.same⟩
def Sf(x:Num):Int:=if x.digits=[] then 0 else if x.neg then -1 else 1
def X5:List Int->Int|[]=>0|x::r=>if x≠0 then x else X5 r
theorem CL:∀{l:List Int},(∀x∈l,x=0)->X5 l=0
  | [],_=>rfl
  | x::r,h=>by unfold X5;rw[if_neg (by simp[h x Oa])];exact CL (λy hy=>h y (by simp[hy]))
theorem orL_at:∀{l:List Int}{j:Nat}(h:j<l.length),(∀x∈l.take j,x=0)->l[j]≠0->X5 l=l[j]
  | [],_,h,_,_=>absurd h Oa
  | x :: r, 0, _, _, hn => by
    have hn':x≠0:=hn;unfold X5;rw[if_pos hn'];rfl
  | x :: r, j + 1, h, hz, hn => by
    unfold X5;rw[if_neg (by simp[hz x Oa]),orL_at (j:=j) (by simpa using h) (λy hy=>hz y (by simp[hy])) (by simpa using hn)];rfl
def Au(x y:Num):Int:=X5 [Lib.compareInt (x.digits.length+x.exp) (y.digits.length+y.exp),Lib.compareBytes x.digits y.digits]
def So(x y:Num):Int :=
  if Lc x=false then (if Lc y=false then 0 else -1) else if Lc y=false then 1 else
  if Lib.compareInt (Sf x) (Sf y)≠0 then Lib.compareInt (Sf x) (Sf y) else if Sf x=0 then 0 else Sf x*Au x y
def Kw(n:Int):Num:=(Kc (Lib.itoa n)).1
def pI(s:Str):Int × Bool:=match Lib.parseIntB 64 s with|.ok v=>(v,true)|.range=>(Lib.intSat 64 s,false)|_=>(0,false)
def Vr(x:Num):Int × Bool :=
  if Lc x=false\/x.exp<0\/19<(x.digits.length:Int)+x.exp then (0,false) else
  let t:=x.digits++Lib.repeatL [48] x.exp.toNat
  let u:=if x.neg then 45::t else t
  if u=[] then (0,true) else if (pI u).2=false then (0,false) else ((pI u).1,true)
def FC(e:Value)(b:Bool):Prop:=if b then ∃tp q,e=.iface tp q else e=.nilIface
theorem CV{P:Program}{ρ:Operand->Value}{w:World}{dst:Option Nat}{ty:TypeId}{pos:String}{aft:Array Edge}{g:Option (Nat × Bool)}{t t':TypeId}{x:Operand}{e:Value}{b:Bool}(ht:P.underlying t=some (.interface (P.methodsAt t)))(he:FC e b)(hx:ρ x=e)(hy:ρ (.const .nilIface)=.nilIface) :
    (execOp ρ ⟨dst,.binOp .neq t x (.const .nilIface) t',ty,pos,aft,g⟩).run P w=.ok (.value (.bool b)) w:=by
  unfold FC at he;cases b
  ·simp only[Bool.false_eq_true,if_false]at he;subst he;exact TW ht hx hy
  simp only[if_true]at he;obtain⟨tp,q,rfl⟩:=he;exact MJ ht hx hy
theorem Q5(w:World)(e:TypeId)(s:ByteArray):Same [] w (Lib.bytesWorld w e s) :=
  .of_below (Joins.below_bytesWorld _ w e s (gQ _))
theorem EP(s:Str)(hl:s.length<=140737488355328){w:World}(hG:Gl w):Calls prog 255 #[I s,J 10,J 64] w (Yc λv w'=>∃e,v=.tuple #[J (pI s).1,e]/\FC e (!(pI s).2)/\Same [] w w'):=by
  cases h:Lib.parseIntB 64 s with
  | ok n =>
    refine (strconv_ParseInt_10_at64_ok (bs s) (by rw[Ao];omega) n h w).mono ?_;rintro e w' ⟨rfl,hw⟩;refine⟨_,O,.nilIface,by simp[pI,h],by simp[pI,h,FC],?_⟩;rcases hw with rfl|⟨t,rfl⟩
    ·exact Same.refl _ _
    exact Q5 w 5 t
  | range =>
    obtain⟨tp,q,hv⟩:=hG.err;refine (strconv_ParseInt_10_at64_range_var (bs s) (by rw[Ao];omega) h tp q w hv).mono ?_;rintro e w' ⟨N,rfl,-,-,hb⟩;exact⟨_,O,.iface 304 (V N),by simp only[pI,h],by simp[pI,h,FC],.of_below hb⟩
  | _ =>
    obtain⟨tp,q,hv⟩:=hG.serr;refine (Any.strconv_ParseInt_10_at64_syntax_var laysC174 (bs s) (by rw[Ao];omega) h tp q w hv).mono ?_;rintro e w' ⟨N,rfl,-,-,hb⟩;exact⟨_,O,.iface 304 (V N),(by simp[pI,h];rfl),by simp[pI,h,FC],.of_below hb⟩
theorem IB(c:Int)(h0:0<=c)(h1:c<=19)(w:World):Calls prog 254 #[I [48],J c] w (Yc λv w'=>v=I (Lib.repeatL [48] c.toNat)/\Same [] w w'):=by
  have h:=strings_Repeat (bs [48]) c.toNat w Aa (by rw[Ao];simp;omega);rw[Int.toNat_of_nonneg h0]at h;exact Fx h
theorem UU{w:World}{ad:Addr}{a b:Int}(h:∀j (hj:j<[Value.int .i64 a,Value.int .i64 b].length),w.cell? (ad.add j)=some [Value.int .i64 a,Value.int .i64 b][j]) :
    ∀j (hj:j<[a,b].length),w.cell? (ad.add j)=some (.int .i64 [a,b][j])
  | 0,_=>h 0 Oa
  | 1,_=>h 1 Oa
  | j+2,hj=>absurd hj Oa
theorem PC{w:World}{ad:Addr}{a b c:Int}(h:∀j (hj:j<[Value.int .i64 a,Value.int .i64 b,Value.int .i64 c].length),w.cell? (ad.add j)=some [Value.int .i64 a,Value.int .i64 b,Value.int .i64 c][j]) :
    ∀j (hj:j<[a,b,c].length),w.cell? (ad.add j)=some (.int .i64 [a,b,c][j])
  | 0,_=>h 0 Oa
  | 1,_=>h 1 Oa
  | 2,_=>h 2 Oa
  | j+3,hj=>absurd hj Oa
theorem KL(x:Num):Sf x=0\/Sf x=1\/Sf x = -1:=by
  unfold Sf;split
  ·simp
  split <;> simp
theorem R3(x y:Int):Lib.compareInt x y=0\/Lib.compareInt x y=1\/Lib.compareInt x y = -1:=by
  unfold Lib.compareInt;split
  ·simp
  split <;> simp
theorem Wj:∀(x y:Str),Lib.compareBytes x y=0\/Lib.compareBytes x y=1\/Lib.compareBytes x y = -1
  | [],[]=>by simp[Lib.compareBytes]
  | [],_::_=>by simp[Lib.compareBytes]
  | _::_,[]=>by simp[Lib.compareBytes]
  | a :: r, b :: q => by
    have:=Wj r q;unfold Lib.compareBytes;split
    ·simp
    split
    ·simp
    exact this
theorem CQ(x y:Num):Au x y=0\/Au x y=1\/Au x y = -1:=by
  unfold Au X5;split
  ·exact R3 _ _
  unfold X5;split
  ·exact Wj _ _
  left;rfl
theorem take_zero{l:List Int}{j:Nat}(h:j<l.length)(hz:∀x∈l.take j,x=0)(hn:l[j]=0):∀x∈l.take (j+1),x=0:=by
  rw[iQ h];intro c hc;rcases mQ.1 hc with hc|hc
  ·exact hz c hc
  simp only[pQ]at hc;rw[hc];exact hn
theorem CE(x:Num)(w0:World):Calls prog 196 #[Kk x] w0 (Yc λv w'=>v=J (Sf x)/\Same [] w0 w'):=by
 refine Fa func196 O ntmps196 Ab (Wb _) ?_;have hF:=FR.start w0 [];refine Ea (Ce hF O ?_);rintro b1 w hb1 hF -;refine Ba (Fb O) (Da (Ga (Qa (Ea (Ba (Mb Se O) (Xb (Ej iZ O hF.F 0 O O) (Ba (Ry O O) (Ba (Kb O) (Da ?_)))))))));refine Jb O O (λhc0=>?_) (λhc0=>?_);refine Ea (Ba (Fb O) (Da ?_));refine Gc (v:=J 0) O O ?_;exact⟨by simp_all[Sf],hF.same⟩;refine Ea (Ba (Mb Wo O) (Xb (X3 dZ O hF.F 0 O O) (Ba (Kb O) (Da ?_))));refine Jd O O (λhc1=>?_) (λhc1=>?_);refine Ea (Ba (Fb O) (Da ?_));refine Gc (v:=J ((-1))) O O ?_;exact⟨by simp_all[Sf],hF.same⟩;refine Ka (Ya (Ha (Ea (Ba (Fb O) (Da ?_)))));refine Gc (v:=J 1) O O ?_;exact⟨by simp_all[Sf],hF.same⟩
theorem or_c(l:List Int)(ad:Addr)(c:Nat)(hlen:l.length<=140737488355328)(w0:World)(hc:∀j (h:j<l.length),w0.cell? (ad.add j)=some (J l[j])):Calls prog 133 #[.slice (some ad) l.length c] w0 (Yc λv w'=>v=J (X5 l)/\Same [] w0 w'):=by
 refine Fa func133 O ntmps133 Ab (Wb _) ?_;have hF:=FR.start w0 [];refine Ea (Ba (Fb O) (Lb (Ba (Fb O) (Da (Ga (Ea (Ba (Hd O) ?_)))))));refine Ba (Nf iX O) (Ba (Za O) (Da (Qa ?_)));refine Fc (λμ σ w=>∃(j:Nat),μ=l.length-j/\(j<=l.length)/\(∀x∈l.take j,x=0)/\AllEq σ [(3,J 0),(6,.slice (some ad) (l.length) (c)),(7,J ((l.length:Nat))),(8,J ((j:Int)))]/\FR w0 [] [] w) _ ⟨0,O,(Nat.zero_le _),Oa,Jj,hF⟩ ?_;rintro μ σ w ⟨j,rfl,hj,hz,hs,hF⟩;refine Cg.slots hs ?_;clear hs;intro σ;refine Ea (Ba (Pg O O) (Da (Ga ?_)));refine Jb O O (λhc0=>?_) (λhc0=>?_);refine Ka (Ha (Ga (Qa (Ea (Ia (v:=.pointer (some (ad.add (j*1)))) (Na (i:=(j:Int)) SA O O O Aa Aa) ?_)))));have hcj:w0.cell? (ad.add (j*1))=some (J l[j]):=by rw[Nat.mul_one];exact hc j Aa
 refine Ia (v:=J (l[j])) (Nc xQ O (hF.cell0 hcj)) (Ba (Fb O) (Lb (Ba (Za O) (Ba (Za O) (Ba (Wm O O) (Da ?_))))));refine Jb O O (λhc1=>?_) (λhc1=>?_);refine Ea (Ba (Za O) (Ba (Fb O) (Da ?_)));refine Gc (v:=J (l[j])) O O ?_;exact⟨by rw[orL_at Aa hz (by simpa using hc1)],hF.same⟩;refine Ka (Ya (Ha (Ja (Ba (Cl O O) (Ba (Za O) (Va ?_))))));refine Ta ⟨_,?_,j+1,O,Aa,(take_zero Aa hz (by simpa using hc1)),Jj,hF⟩;omega;refine Bc (Yb O ?_);refine Ha (Ea (Ba (Za O) (Ba (Fb O) (Da ?_))));refine Gc (v:=J 0) O O ?_;have e:l.take j=l:=List.take_of_length_le Aa;rw[e]at hz;exact⟨by rw[CL hz],hF.same⟩
theorem far_c(x y:Num)(hx:Lc x=true)(hy:Lc y=true)(w0:World):Calls prog 197 #[Kk x,Kk y] w0 (Yc λv w'=>v=J (Au x y)/\Same [] w0 w'):=by
 have h1:=Wc hx;have h2:=Wc hy;refine Fa func197 O ntmps197 Ab (Uc _ _) ?_;have hF:=FR.start w0 [];refine Ea (Ce hF O ?_);rintro b1 w hb1 hF -;refine Ce hF O ?_;rintro b2 w hb2 hF -;refine Ba (Fb O) (Lb (Ba (Mb Se O) (Xb (Ej iZ O hF.F 1 O O) (Ba (Sk kX O) (Ba (Mb Yg O) (Xb (Zg xQ O hF.F 1 O O) (Ba (Cl O O) (Ba (Mb Se O) (Xb (Ej iZ O hF.F 0 O O) (Ba (Sk kX O) ?_))))))))));refine Ba (Mb Yg O) (Xb (Zg xQ O hF.F 0 O O) (Ba (Cl O O) ?_));refine Pa hF (Mz (x.digits.length+x.exp) (y.digits.length+y.exp) _) (Xa ZE O O O) ?_;intro w hF;refine Ba (Fb O) (Lb (Ba (Za O) (Ba (Mb Se O) (Xb (Ej iZ O hF.F 1 O O) (Ba (Mb Se O) (Xb (Ej iZ O hF.F 0 O O) ?_))))));refine Pa hF (Dq x.digits y.digits _) (Xa GK O O O) ?_;intro w hF;refine Mh 2 hF (Gb (cs:=#[J (Lib.compareInt (x.digits.length+x.exp) (y.digits.length+y.exp)),J (Lib.compareBytes x.digits y.digits)]) iX sizeOf3 mX Ua Ua Qb) ?_;rintro b3 w hb3 hF -;refine Pa hF (or_c [Lib.compareInt (x.digits.length+x.exp) (y.digits.length+y.exp),Lib.compareBytes x.digits y.digits] _ 2 Oa _ (UU (hF.cellsAll 0 O))) (Ma JQ O O) ?_;intro w hF;refine Ba (Fb O) (Da ?_);refine Gc (v:=J (Au x y)) O O ?_;exact⟨O,hF.same⟩
theorem GF(x y:Num)(hx:x.digits.length<=140737488355328)(hy:y.digits.length<=140737488355328)(w0:World):Calls prog 132 #[Kk x,Kk y] w0 (Yc λv w'=>v=J (So x y)/\Same [] w0 w'):=by
 refine Fa func132 O ntmps132 Ab (Uc _ _) ?_;have hF:=FR.start w0 [];refine Ea (Ce hF O ?_);rintro b1 w hb1 hF -;refine Ce hF O ?_;rintro b2 w hb2 hF -;refine Ba (Fb O) (Da (Ga ?_));refine De (zs:=.of []) (.free 0 (.free 2 (.act 1 (.act 3 (.free 4 (.free 5 .nil)))))) hF ?_;intro w hF;refine Ng O (Bf jZ tZ O C0 1 O O) (Ng O (Bf jZ tZ O C0 0 O O) ?_);refine Vd hF (L1 x hx _) O (Ma QL O O) ?_;intro w hF;refine⟨hF,?_⟩;refine Vd hF (L1 y hy _) O (Ma QL O O) ?_;intro w hF;refine⟨hF,?_⟩;refine Ib O (Kb O) (Ib O (Kb O) (Ic (Ha (Ga (Qa (Ga ?_))))));refine Fd (λσ w=>∃(bd:Bool),(bd=(!Lc x && !Lc y))/\AllEq σ [(2,V b1),(3,V b2),(5,.bool (Lc x)),(6,.bool (Lc y)),(12,.bool (bd))]/\FR w0 [] [(b2,.cells #[.bool (y.neg),I (y.digits),J (y.exp)] 90),(b1,.cells #[.bool (x.neg),I (x.digits),J (x.exp)] 90)] w) ?_ ?_;refine Ja (Ba (Dc O) (Ba (Di O) (Ba (Dc O) ?_)));refine Sc (d:=15) O (λhg0=>?_) (λhg0=>?_);refine Ba (Dc O) (Ba (Di O) (Ba (Rb O O) (Ba (Kb O) (Va ?_))));exact Ta ⟨(!(Lc y)),(by simp_all),Uq,hF⟩;refine Ca (Ca (Ba (Pb O O) (Ba (Kb O) (Va ?_))));exact Ta ⟨(false),(by simp_all),Uq,hF⟩;rintro σ w ⟨bd,hbd,hs,hF⟩;refine Eg.slots hs ?_;clear hs;intro σ;refine Ha (Jd O O (λhc0=>?_) (λhc0=>?_));refine Ea (Ba (Fb O) (Da ?_));refine Gc (v:=J 0) O O ?_;exact⟨by simp_all[So],hF.same⟩;refine Ea (Ba (Dc O) (Ba (Di O) (Ba (Kb O) (Da ?_))));refine Jd O O (λhc1=>?_) (λhc1=>?_);refine Ea (Ba (Fb O) (Da ?_));refine Gc (v:=J ((-1))) O O ?_;exact⟨by simp_all[So],hF.same⟩;refine Ea (Ba (Dc O) (Ba (Di O) (Ba (Kb O) (Da ?_))));refine Jd O O (λhc2=>?_) (λhc2=>?_);refine Ea (Ba (Fb O) (Da ?_));refine Gc (v:=J 1) O O ?_;exact⟨by simp_all[So],hF.same⟩;refine Ka (Ya (Ha (Ga (Ga ?_))));refine De (zs:=.of []) (.free 0 (.free 2 (cQ [1,3,4] (.free 5 .nil)))) hF ?_;intro w hF;refine Ng O (Bf jZ tZ O C0 1 O O) (Ng O (Bf jZ tZ O C0 0 O O) ?_)
 refine Vd hF (CE x _) O (Ma AG O O) ?_;intro w hF;refine⟨hF,?_⟩;refine Vd hF (CE y _) O (Ma AG O O) ?_;intro w hF;refine⟨hF,?_⟩;refine Vd hF (Mz (Sf x) (Sf y) _) O (Xa ZE O O O) ?_;intro w hF;refine⟨hF,?_⟩;refine Ib O (Fb O) (Ic (Ha (Ga ?_)));refine Fd (λσ w=>∃(be:Bool),(be=(decide (Lib.compareInt (Sf x) (Sf y)≠0) || decide (Sf x=0)))/\AllEq σ [(2,V b1),(3,V b2),(7,J (Lib.compareInt (Sf x) (Sf y))),(36,.bool (be))]/\FR w0 [] [(b2,.cells #[.bool (y.neg),I (y.digits),J (y.exp)] 90),(b1,.cells #[.bool (x.neg),I (x.digits),J (x.exp)] 90)] w) ?_ ?_;refine Ja (Ba (Za O) (Ba (Wm O O) (Ba (Dc O) ?_)));refine Bb (d:=32) O (λhg1=>?_) (λhg1=>?_);refine Ca (Ca (Ca (Ba (Rb O O) (Va ?_))));exact Ta ⟨(true),(by simp_all),Jj,hF⟩;refine Xb (Bf jZ tZ O hF.F 1 O O) (Pa hF (CE x _) (Ma AG O O) ?_);intro w hF;refine Ba (Of O O) (Ba (Pb O O) (Va ?_));exact Ta ⟨(decide ((Sf x:Int)=(0:Int))),(by simp_all),Jj,hF⟩;rintro σ w ⟨be,hbe,hs,hF⟩;refine Eg.slots hs ?_;clear hs;intro σ;refine Ha (Jd O O (λhc3=>?_) (λhc3=>?_));refine Ea (Ba (Za O) (Ba (Fb O) (Da ?_)));refine Gc (v:=J (Lib.compareInt (Sf x) (Sf y))) O O ?_;have hb2:¬Lib.compareInt (Sf x) (Sf y)=0\/Sf x=0:=by simpa[hbe]using hc3
 exact⟨by clear hbe hF hbd;by_cases h:Lib.compareInt (Sf x) (Sf y)=0 <;> simp_all[So],hF.same⟩;refine Ka (Ha (Ga ?_));refine De (zs:=.of []) (bQ [0,2,3] (.act 1 (.act 4 (.free 5 (.free 6 .nil))))) hF ?_;intro w hF;refine Ng O (Bf jZ tZ O C0 1 O O) (Ng O (Bf jZ tZ O C0 1 O O) (Ng O (Bf jZ tZ O C0 0 O O) ?_));refine Vd hF (CE x _) O (Ma AG O O) ?_;intro w hF;refine⟨hF,?_⟩;refine Vd hF (far_c x y (by simp_all) (by simp_all) _) O (Xa en_197 O O O) ?_;intro w hF;refine⟨hF,?_⟩;refine Sa rfl (v:=J (Sf x*Au x y)) (λw hC=>Q1 rfl rfl (by rcases KL x with h|h|h <;> rcases CQ x y with h'|h'|h' <;> rw[h,h'] <;> decide)) ?_;refine Ib O (Fb O) (Ic (Ha ?_));refine Gc (v:=J (Sf x*Au x y)) O O ?_;exact⟨by simp_all[So],hF.same⟩
theorem SS(n:Int)(h1:-9223372036854775808<=n)(h2:n<=9223372036854775807)(w0:World)(hG:Gl w0):Calls prog 66 #[J n] w0 (Yc λv w'=>v=Kk (Kw n)/\Same [] w0 w'):=by
 refine Fa func66 O ntmps66 Ab (Wb _) ?_;have hF:=FR.start w0 [];refine Ea (Pc (cs:=#[.bool false,I [],J 0]) hF tX O ?_);rintro b1 w hb1 hF -;refine Lb (Ba (Za O) ?_);refine Pa hF (HQ n h1 h2 (hG.ext hF.same)) (Ma en_99 O O) ?_;intro w hF;refine Pa hF (H1 (Lib.itoa n) (by have:=Lib.itoa_length_le n h1 h2;omega) _) (Ma V7 O O) ?_;intro w hF;refine Ba (Mj O) (Ba (Gt O O) (Ba (Rj O O) ?_));refine If hF tX tZ O ?_;rintro b2 w hb2 hF -;refine Ba (Fb O) (Lb (Xb (Bf jZ tZ O hF.F 0 O O) ?_));refine Ge hF tZ O O Tr ?_;rintro w hF -;refine Da (Db (Cb (La (Mg O (l:=[.bool ((Kw n).neg),I ((Kw n).digits),J ((Kw n).exp)]) O jZ tZ O (hF.cellsAll 1 O)) ?_)));exact⟨O,hF.same⟩
def Wu(x:Num):Str:=if x.neg then 45::(x.digits++Lib.repeatL [48] x.exp.toNat) else x.digits++Lib.repeatL [48] x.exp.toNat
theorem Uj(x:Num):Vr x=if Lc x=false\/x.exp<0\/19<(x.digits.length:Int)+x.exp then (0,false) else if Wu x=[] then (0,true) else if (pI (Wu x)).2=false then (0,false) else ((pI (Wu x)).1,true):=rfl
theorem Eo(c:UInt8)(n:Nat):(Lib.repeatL [c] n).length=n:=by
  induction n with
  | zero=>rfl
  | succ n ih=>unfold Lib.repeatL;simp[ih];try omega
theorem VK(x:Num)(hl:x.digits.length<=140737488355328)(w0:World)(hG:Gl w0):Calls prog 222 #[Kk x] w0 (Yc λv w'=>v=.tuple #[J (Vr x).1,.bool (Vr x).2]/\Same [] w0 w'):=by
 refine Fa func222 O ntmps222 Ab (Wb _) ?_;have hF:=FR.start w0 [];refine Ea (Ce hF O ?_);rintro b1 w hb1 hF -;refine Ba (Fb O) (Ba (Kb O) (Da (Ga (Ea (Xb (Bf jZ tZ O hF.F 0 O O) ?_)))));refine Pa hF (L1 x hl _) (Ma QL O O) ?_;intro w hF;refine Ba (Di O) (Ba (Dc O) ?_);refine Sc (d:=10) O (λhg0=>?_) (λhg0=>?_)
 ·
  refine Ca (Ca (Ca (Ba (Rb O O) (Ba (Dc O) (Ca (Ca (Ca (Ca (Ca (Ca (Ca (Ba (Rb O O) (Va ?_)))))))))))));refine Ha (Yd O (Ea (Ba (Fb O) (Ba (Kb O) (Da ?_)))));refine Db (Cb (La (Oc (v:=J 0) (x:=.bool false) O O O) ?_));refine⟨?_,hF.same⟩
  first
  | (have hn:¬(Lc x=false\/x.exp<0\/19<(x.digits.length:Int)+x.exp):=by (refine not_or.2 ⟨by simp_all,not_or.2 ⟨by omega,by omega⟩⟩)
     rw[Uj,if_neg hn];simp_all;done)
  | (rw[Uj];simp_all;done)
 refine Ba (Mb Yg O) (Xb (Zg xQ O hF.F 0 O O) (Ba (Pg O O) (Ba (Pb O O) (Ba (Dc O) ?_))));refine Bb (d:=15) O (λhg1=>?_) (λhg1=>?_)
 ·
  refine Ca (Ca (Ca (Ca (Ca (Ca (Ca (Ba (Rb O O) (Da (Yd O (Ea (Ba (Fb O) ?_)))))))))));refine Ba (Kb O) (Da ?_);refine Db (Cb (La (Oc (v:=J 0) (x:=.bool false) O O O) ?_));refine⟨?_,hF.same⟩
  first
  | (have hn:¬(Lc x=false\/x.exp<0\/19<(x.digits.length:Int)+x.exp):=by (refine not_or.2 ⟨by simp_all,not_or.2 ⟨by omega,by omega⟩⟩)
     rw[Uj,if_neg hn];simp_all;done)
  | (rw[Uj];simp_all;done)
 refine Ba (Mb Se O) (Xb (Ej iZ O hF.F 0 O O) (Ba (Sk kX O) (Ba (Mb Yg O) (Xb (Zg xQ O hF.F 0 O O) ?_))));refine Ia (v:=J ((x.digits.length:Int)+x.exp)) (Rs O O (Rh (by have:=Wc (x:=x) (by simp_all);omega) (by have:=Wc (x:=x) (by simp_all);omega))) ?_;refine Ba (Mo O O) (Ba (Pb O O) (Da ?_));refine Jb O O (λhc0=>?_) (λhc0=>?_)
 ·
  refine Ea (Ba (Fb O) (Ba (Kb O) (Da ?_)));refine Db (Cb (La (Oc (v:=J 0) (x:=.bool false) O O O) ?_));refine⟨?_,hF.same⟩
  first
  | (have hn:¬(Lc x=false\/x.exp<0\/19<(x.digits.length:Int)+x.exp):=by (refine not_or.2 ⟨by simp_all,not_or.2 ⟨by omega,by omega⟩⟩)
     rw[Uj,if_neg hn];simp_all;done)
  | (rw[Uj];simp_all;done)
 refine Ka (Ha (Ga ?_));refine De (zs:=.of []) (bQ [0,1,2,3] (.act 4 (.free 5 (.free 6 .nil)))) hF ?_;intro w hF;refine Ib O (Mb Se O) (Ng O (Ej iZ O C0 0 O O) (Ib O (Mb Yg O) (Ng O (Zg xQ O C0 0 O O) ?_)));refine Vd hF (IB x.exp Aa Aa _) O (Xa UO O O O) ?_;intro w hF;refine⟨hF,?_⟩;refine Sa rfl (v:=I ((x.digits)++(Lib.repeatL [48] x.exp.toNat))) (λw hC=>Hi rfl rfl (by have:=Eo 48 x.exp.toNat;have:=Wc (x:=x) (by simp_all);first|omega|(simp only[dQ,kQ,List.length_nil];omega))) ?_;refine Ib O (He O) (Ic (Ha (Ga ?_)));refine Fd (λσ w=>AllEq σ [(4,I (Wu x))]/\FR w0 [] [(b1,.cells #[.bool (x.neg),I (x.digits),J (x.exp)] 90)] w) ?_ ?_
 ·
  refine Ea (Ba (Mb Wo O) (Xb (X3 dZ O hF.F 0 O O) (Da ?_)));refine Jd O O (λhc1=>?_) (λhc1=>?_)
  ·
   have eT:[45]++(x.digits++Lib.repeatL [48] x.exp.toNat)=Wu x:=by unfold Wu;rw[if_pos (by assumption)];rfl
   refine Ja (Ba (Ad O) ?_);refine Ia (v:=I (Wu x)) (by rw[<-eT];exact Hi rfl rfl (by have:=Eo 48 x.exp.toNat;have:=Wc (x:=x) (by simp_all);first|omega|(simp only[dQ,kQ,List.length_nil];omega))) ?_;refine Ba (He O) (Va ?_);exact Ta ⟨XO,hF⟩
  have eT:x.digits++Lib.repeatL [48] x.exp.toNat=Wu x:=by unfold Wu;rw[if_neg (by simp_all)]
  rw[eT];refine Ka ?_;exact Ta ⟨XO,hF⟩
 rintro σ w ⟨hs,hF⟩;refine Eg.slots hs ?_;clear hs;intro σ;have hT:(Wu x).length<=1020:=by have:=Eo 48 x.exp.toNat;have:=Wc (x:=x) (by simp_all);unfold Wu;split <;> simp only[dQ,kQ] <;> omega
 refine Ha (Ga (Ea (Ba (Ad O) (Ba (Ry O O) (Da ?_)))));refine Jb O O (λhc2=>?_) (λhc2=>?_)
 ·
  refine Ea (Ba (Fb O) (Ba (Kb O) (Da ?_)));refine Db (Cb (La (Oc (v:=J 0) (x:=.bool true) O O O) ?_));refine⟨?_,hF.same⟩
  first
  | (have hn:¬(Lc x=false\/x.exp<0\/19<(x.digits.length:Int)+x.exp):=by (refine not_or.2 ⟨by simp_all,not_or.2 ⟨by omega,by omega⟩⟩)
     rw[Uj,if_neg hn];simp_all;done)
  | (rw[Uj];simp_all;done)
 refine Ka (Ha (Ea (Ba (Ad O) ?_)));refine Eb (EP (Wu x) Aa (hG.ext hF.same)) (Af en_255 O O O O) ?_;rintro _ w ⟨e,rfl,he,hE⟩;have hF:=hF.ext hE;refine Ba (Mj O) (Ba (Rj O O) (Ba (yxu O O) (Ba (Fb O) (Ba (O2) (Da (Ga (Ea (Ba (Pu) (Ia (v:=.bool (!(pI (Wu x)).2)) (CV (underlying186) he O O) (Da ?_))))))))));refine Jd O O (λhc3=>?_) (λhc3=>?_)
 ·
  refine Ea (Ba (Fb O) (Ba (Kb O) (Da ?_)));refine Db (Cb (La (Oc (v:=J 0) (x:=.bool false) O O O) ?_));refine⟨?_,hF.same⟩
  first
  | (have hn:¬(Lc x=false\/x.exp<0\/19<(x.digits.length:Int)+x.exp):=by (refine not_or.2 ⟨by simp_all,not_or.2 ⟨by omega,by omega⟩⟩)
     rw[Uj,if_neg hn];simp_all;done)
  | (rw[Uj];simp_all;done)
 refine Ka (Ha (Ea (Ba (Za O) (Ba (Fb O) (Ba (Kb O) (Da ?_))))));refine Db (Cb (La (Oc (v:=J ((pI (Wu x)).1)) (x:=.bool true) O O O) ?_));refine⟨?_,hF.same⟩
 first
 | (have hn:¬(Lc x=false\/x.exp<0\/19<(x.digits.length:Int)+x.exp):=by (refine not_or.2 ⟨by simp_all,not_or.2 ⟨by omega,by omega⟩⟩)
    rw[Uj,if_neg hn];simp_all;done)
 | (rw[Uj];simp_all;done)
def SR(N:Nat)(f:Nat->Int):Array Value:=((List.range N).map λk=>Value.int .i64 (f k)).toArray
theorem CY{N k:Nat}{f:Nat->Int}(h:k<N):(SR N f)[k]? = some (J (f k)):=by simp[SR,h]
def setF(f:Nat->Int)(k:Nat)(v:Int):Nat->Int:=λx=>if x=k then v else f x
section
variable {w0 w w':World}{Ds:List Nat}{bs:List (Nat × Obj)}
structure Grid2 (w:World) (pb n m:Nat) (T1 T2:TypeId) (rb:Nat->Nat) (p:Nat->Nat->Int):Prop where
  top:w.heap[pb]? = some (.cells ((List.range n).map λi=>Value.slice (some ⟨rb i,0,none⟩) m m).toArray T1)
  row:∀i,i<n->w.heap[rb i]? = some (.cells (SR m (p i)) T2)
  inj:∀i j,i<n->j<n->rb i=rb j->i=j
  ne:∀i,i<n->rb i≠pb
variable {pb n m:Nat}{T1 T2:TypeId}{rb:Nat->Nat}{p:Nat->Nat->Int}
theorem Grid2.cell(h:Grid2 w pb n m T1 T2 rb p){i j:Nat}(hi:i<n)(hj:j<m):w.cell? ⟨rb i,j,none⟩=some (J (p i j)):=by
  rw[Zc (h.row i hi),CY hj]
theorem Grid2.keep(h:Grid2 w pb n m T1 T2 rb p){E:List Nat}(hs:Same E w w')(h1:pb∉E)(h2:∀i,i<n->rb i∉E):Grid2 w' pb n m T1 T2 rb p :=
  ⟨(hs.block _ (Ac h.top) h1).trans h.top,λi hi=>(hs.block _ (Ac (h.row i hi)) (h2 i hi)).trans (h.row i hi),h.inj,h.ne⟩
theorem Grid2.ext(h:Grid2 w pb n m T1 T2 rb p)(hs:Same [] w w'):Grid2 w' pb n m T1 T2 rb p:=h.keep hs Oa Oa
def set2(p:Nat->Nat->Int)(i j:Nat)(v:Int):Nat->Nat->Int:=λa=>if a=i then setF (p i) j v else p a
theorem Grid2.put(h:Grid2 w pb n m T1 T2 rb p){i j:Nat}{v:Int}(hi:i<n)(hs:Same [rb i] w w')(hn:w'.heap[rb i]? = some (.cells (SR m (setF (p i) j v)) T2)):Grid2 w' pb n m T1 T2 rb (set2 p i j v):=by
  refine⟨(hs.block _ (Ac h.top) (by simpa using λe=>h.ne i hi e.symm)).trans h.top,λa ha=>?_,h.inj,h.ne⟩;by_cases e:a=i
  ·subst e;rw[hn];simp[set2]
  have : w'.heap[rb a]? = w.heap[rb a]? := hs.block _ (Ac (h.row a ha)) (by simpa using λq => e (h.inj a i ha hi q));rw[this,h.row a ha,set2,if_neg e]
end
section
variable {P:Program}{R:Exit->Act->World->Prop}{n:Nat}{k:Kt}{s:Nat->Value}{w:World}{ops rest:List Oper}
variable {ty:TypeId}{pos:String}{aft:Array Edge}{g:Option (Nat × Bool)}{w0:World}{Ds:List Nat}{bs:List (Nat × Obj)}
end
section
variable {P:Program}{w:World}{ρ:Operand->Value}{dst:Option Nat}{ty:TypeId}{pos:String}{aft:Array Edge}{g:Option (Nat × Bool)}
end
end Go.Scarf
