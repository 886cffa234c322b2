/- A part of the proof. -/
import Derived.Lib.AppendStr
import Derived.Lib.Builder
import Derived.Lib.UnsafeStr
import Derived.Lib.RuneBytes
import Derived.Test.YtidlkjpohhbbcaaGreatDoorW19
import Derived.Laws.BytesString
import Derived.Lib.TrimU
set_option linter.all false
set_option maxHeartbeats 8000000
set_option maxRecDepth 10000
namespace Go.Scarf
open List renaming length->aL
open Go.RowKit Go.Proofs Go.Proofs.Tryz
variable {x y:Operand}{N b e k t' te:Nat}{o:Obj}{r u v:Value}{cs xs:List Value}{a:Addr}{ats:Array TypeId}{kk:IntKind}{m:Bool}
section
variable {P:Program}{w w' w0:World}{Ds E:List Nat}{bs_:List (Nat × Obj)}
def Yi:Obj->Bool
  | .cells _ e _=>e==5
  | _=>false
def Bt(w:World)(b:Nat):Bool:=match w.heap[b]? with|some o=>Yi o|none=>false
def Wk(w:World)(B pb:Nat):List Nat:=pb::(List.range w.heap.size).filter λb=>decide (B<=b)&&Bt w b
theorem Ff{B pb x:Nat}:x∈Wk w B pb↔x=pb\/(x<w.heap.size/\B<=x/\Bt w x=true):=by simp[Wk]
theorem It(h:w.heap[b]? = some o):Bt w b=Yi o:=by simp[Bt,h]
def Shp(T:Nat)(rest:List Value):Prop:=(T=123/\rest=[])\/(T=125/\∃m i,rest=[.bool m,J i])
def Shp.ne{T:Nat}{rest:List Value}(h:Shp T rest):(T==5)=false:=by rcases h with ⟨rfl,-⟩|⟨rfl,-⟩ <;> rfl
structure Bd (w:World) (B pb T:Nat) (rest:List Value) (s:Str):Prop where
  shp:Shp T rest
  le:B<=pb
  ex:∃ap v,w.heap[pb]? = some (.cells (ap::v::rest).toArray T)/\w.ownsRow B 5 1 v (aL s) (Lib.byteCells s)/\(ap=.pointer none\/ap=V pb)
theorem Bd.lt{B pb T:Nat}{rest:List Value}{s:Str}(h:Bd w B pb T rest s):pb<w.heap.size:=by
  obtain⟨ap,v,hh,-⟩:=h.ex;grind
def Bd.base{B pb T:Nat}{rest:List Value}{s:Str}(h:Bd w B pb T rest s):B<=w.heap.size:=fQ h.le (Nat.le_of_lt h.lt)
theorem Tm{B n g:Nat}(h:w.ownsRow B 5 1 v n xs)(hg:v.ownBlock=some g):g<w.heap.size/\B<=g/\Bt w g=true:=by
  rcases h.2 with ⟨rfl,-⟩|⟨g',cap,cur,rfl,h1,h2,-⟩
  ·cases hg
  cases hg;exact⟨Pa h2,h1,by rw[It h2];rfl⟩
theorem BC{B n g pb:Nat}(h:w.ownsRow B 5 1 v n xs)(hg:v.ownBlock=some g):g∈Wk w B pb:=by grind [Ff,Tm]
theorem Rr{B n g pb:Nat}(h:w.ownsRow B 5 1 v n xs)(hg:v.ownBlock=some g)(hh:w.heap[pb]? = some o)(ho:Yi o=false):g≠pb:=by
  rintro rfl;have h1:=(Tm h hg).2.2;grind [It]
theorem Qh{B n:Nat}(h:w.ownsRow B 5 1 v n xs)(hs:Same E w w')(he:∀g,v.ownBlock=some g->g∉E):w'.ownsRow B 5 1 v n xs:=by
  refine⟨h.1,?_⟩;rcases h.2 with h2|⟨g,cap,cur,rfl,h1,h2,h3⟩
  ·grind
  exact .inr ⟨g,cap,cur,O,h1,(hs.block g (Pa h2)<|he g O).trans h2,h3⟩
theorem Zf{B n:Nat}(h:w.ownsRow B 5 1 v n xs):∃A c,v=.slice A n c:=by
  rcases h.2 with ⟨rfl,rfl⟩|⟨g,cap,cur,rfl,-⟩
  ·grind
  grind
theorem Wk.step{B pb x:Nat}(hs:Same (Wk w B pb) w w')(hx:x∈Wk w' B pb):x∈Wk w B pb\/w.heap.size<=x:=by
  by_cases h:x<w.heap.size
  ·by_cases hm : x ∈ Wk w B pb
   ·grind
   rcases Ff.1 hx with rfl|⟨h1, h2, h3⟩
   ·grind [Ff]
   refine absurd (Ff.2<|.inr ⟨h, h2, ?_⟩) hm;rw[Bt,<-hs.block x h hm];exact h3
  grind
theorem FR.grown{g:Option Nat}(h:FR w0 Ds bs_ w)(hg:w.grownBy w' g)(hr:∀b,g=some b->(b<w0.heap.size->b∈Ds)/\∀p∈bs_,p.1≠b):FR w0 Ds bs_ w':=by
  have hs:Same g.toList w w':=⟨hg.os,hg.tape,hg.output,hg.size,λb hb hn=>hg.block b hb λe=>hn (by simp[<-e])⟩;exact h.touch hs λb hb=>hr b (aS hb)
def In(s t:Str):Lib.byteCells (s++t)=Lib.byteCells s++Lib.byteCells t:=Lib.byteCells_append s t
end
section
variable {P:Program}{w:World}{ρ:Operand->Value}{dst:Option Nat}{ty:TypeId}{pos:String}{aft:Array Edge}{g:Option (Nat × Bool)}
def SQ{t:Nat}(ht:P.underlying t=some (.pointer te))(hx:ρ x=.pointer none)(hy:ρ y=.pointer none) :
    (execOp ρ ⟨dst,.binOp .eql t x y t',ty,pos,aft,g⟩).run P w=.ok (.value (.bool true)) w:=by
  have h:∀d:Nat,(Op.equalIn (d+1) t (.pointer none)<|.pointer none).run P w=.ok true w:=λd=>by
    simp[Op.equalIn,run_underlying ht]
  have hg:(eqGuard .eql t x y (.pointer none)<|.pointer none).run P w=.ok () w:=by unfold eqGuard;split <;> simp
  simp only[execOp,hx,hy,Sem.run_bind,hg,Result.andThen_ok,binOp];simp[Op.equal,Op.maxDepth,h 9999]
def BQ{t:Nat}(ht:P.underlying t=some (.pointer te))(hx:ρ x=.pointer (some a))(hy:ρ y=.pointer none) :
    (execOp ρ ⟨dst,.binOp .eql t x y t',ty,pos,aft,g⟩).run P w=.ok (.value (.bool false)) w:=by
  have h:∀d:Nat,(Op.equalIn (d+1) t (.pointer<|some a)<|.pointer none).run P w=.ok false w:=λd=>by
    simp[Op.equalIn,run_underlying ht]
  have hg:(eqGuard .eql t x y (.pointer<|some a)<|.pointer none).run P w=.ok () w:=by unfold eqGuard;split <;> simp
  simp only[execOp,hx,hy,Sem.run_bind,hg,Result.andThen_ok,binOp];simp[Op.equal,Op.maxDepth,h 9999]
def x_neqp{t:Nat}{j:TypeInfo}(ht:P.underlying t=some (.pointer te))(hte:P.info? te=some j)(hx:ρ x=.pointer (some a))(hy:ρ y=.pointer (some a)) :
    (execOp ρ ⟨dst,.binOp .neq t x y t',ty,pos,aft,g⟩).run P w=.ok (.value (.bool false)) w:=by
  have h:=Lib.run_neq_ptr_same w a ht hte;have hg:(eqGuard .neq t x y (.pointer<|some a)<|.pointer<|some a).run P w=.ok () w:=by unfold eqGuard;split <;> simp
  simp only[execOp,hx,hy,Sem.run_bind,hg,Result.andThen_ok,h,Sem.run_pure]
def U4{t:Nat}(hx:ρ x=v)(h:(convert t t' v).run P w=.ok v w):(execOp ρ ⟨dst,.convert t t' x,ty,pos,aft,g⟩).run P w=.ok (.value v) w:=by simp[execOp,hx,h]
def x_ext1 {f:FuncId} {fn:Func} {e:Array Value->Sem Value} {x1:Operand}  {v1:Value} (hf:P.funcs[f]? = some fn) (hname:(fn.name == "runtime.NumGoroutine")=false)
    (hb:fn.body.isNone=true) (hn:Extern.findNext fn=none) (he:Extern.find fn=some e) (h0:ρ (.func f)=.func (.func f) #[] #[]) (h1:ρ x1=v1) (hr:(e #[v1]).run P w=.ok v w) :
    (execOp ρ ⟨dst,.call ⟨.value (.func f),#[x1],ats⟩,ty,pos,aft,g⟩).run P w=.ok (.value v) w:=by simp[execOp,resolve,Deferred.ofValue,h0,h1,invoke,run_callFunc_extern hf hname hb hn he,hr]
def x_usd{n c:Nat}(hx:ρ x=.slice (some a) n c)(hc:c≠0):(execOp ρ ⟨dst,.call ⟨.builtin .unsafeSliceData,#[x],ats⟩,ty,pos,aft,g⟩).run P w=.ok (.value (.pointer (some a))) w:=by simp[execOp,resolve,invoke,builtin,hx,Lib.run_unsafeSliceData_row w ats ty a n c hc]
def x_uss{t1 t2:Nat}{w':World}(hx:ρ x=u)(hy:ρ y=v)(h:(Builtin.unsafeString_ #[t1,t2] ty #[u,v]).run P w=.ok r w'):(execOp ρ ⟨dst,.call ⟨.builtin .unsafeString,#[x,y],#[t1,t2]⟩,ty,pos,aft,g⟩).run P w=.ok (.value r) w':=by simp[execOp,resolve,invoke,builtin,hx,hy,h]
def L_{t1 t2:TypeId}{w':World}(hx:ρ x=u)(hy:ρ y=v)(h:(Builtin.append_ #[t1,t2] ty #[u,v]).run P w=.ok r w') :
    (execOp ρ ⟨dst,.call ⟨.builtin .append,#[x,y],#[t1,t2]⟩,ty,pos,aft,g⟩).run P w=.ok (.value r) w':=by simp[execOp,resolve,invoke,builtin,hx,hy,h]
end
section
variable {P:Program}{R:Exit->Act->World->Prop}{n:Nat}{kt:Kt}{s:Nat->Value}{w:World}{ops rest:List Oper}
variable {d:Nat}{ty:TypeId}{pos:String}{aft:Array Edge}{g:Option (Nat × Bool)}
variable {w0:World}{Ds:List Nat}{bs_:List (Nat × Obj)}
def o_appB{t B len c2:Nat}{news:List Value}(hE:Elems P t 5 1 1)
    (hF:FR w0 Ds bs_ w) (hO:w.ownsRow B 5 1 v len xs) (hB:B<=w.heap.size) (hx:ev n s x=v) (hy:ev n s y=.slice (some a) k c2)
    (hl:aL news=k*1) (hnews:∀j u,news[j]? = some u->w.cell? (a.add j)=some u) (h1:∀u∈news,u.oneCell'=true) (hb:len+k<=140737488355328)
    (hr:∀b,v.ownBlock=some b->(b<w0.heap.size->b∈Ds)/\∀p∈bs_,p.1≠b)
    (h:∀v' w',w'.ownsRow B 5 1 v' (len+k) (xs++news)->FR w0 Ds bs_ w'->w.heap.size<=w'.heap.size->Og P R n ops kt rest (Ic s d v') w')
    (hw:Ka ops n s ⟨some d,.call ⟨.builtin .append,#[x,y],#[t,t]⟩,ty,pos,aft,g⟩=true:=by rfl):Og P R n ops kt (⟨some d,.call ⟨.builtin .append,#[x,y],#[t,t]⟩,ty,pos,aft,g⟩::rest) s w:=by
  obtain⟨i,z,hi,hz,h2,h3,h4⟩:=hE.info;obtain⟨v',w',hr',hO',hg,-⟩:=run_append_own (P:=P) w B t ty 5 i z 1 1 hE.ht hi hz h2 h3 h4 Ja v len xs hO a k c2 news hl hnews h1 (by unfold maxLen;omega) Aa hB;exact Ba (Fq hx hy hr') (h v' w' hO' (hF.grown hg hr) hg.size) hw
theorem o_appS{t u B len:Nat}{str:Str}(hE:Elems P t 5 1 1)(hz0:(P.info? 5).map (·.zero)=some (some (.int .u8 0)))(hu:P.underlying u=some .string)
    (hF:FR w0 Ds bs_ w) (hO:w.ownsRow B 5 1 v len xs) (hB:B<=w.heap.size) (hx:ev n s x=v) (hy:ev n s y=I str) (hb:len+aL str<=140737488355328)
    (hr:∀b,v.ownBlock=some b->(b<w0.heap.size->b∈Ds)/\∀p∈bs_,p.1≠b)
    (h:∀v' w',w'.ownsRow B 5 1 v' (len+aL str) (xs++Lib.byteCells str)->FR w0 Ds bs_ w'->w.heap.size<=w'.heap.size->Og P R n ops kt rest (Ic s d v') w')
    (hw:Ka ops n s ⟨some d,.call ⟨.builtin .append,#[x,y],#[t,u]⟩,ty,pos,aft,g⟩=true:=by rfl):Og P R n ops kt (⟨some d,.call ⟨.builtin .append,#[x,y],#[t,u]⟩,ty,pos,aft,g⟩::rest) s w:=by
  obtain⟨i,z,hi,hz,h2,h3,h4⟩:=hE.info;rw[hi]at hz0;have hz1:i.zero=some (.int .u8 0):=qK
  have e:(bs str).size=aL str:=Pl str;obtain⟨v',w',hr',hO',hg,-⟩:=Lib.run_append_own_string (P:=P) w B t u ty 5 i hE.ht hu hi hz1 h2 h3 v len xs hO (bs str) (by rw[e];unfold maxLen;omega) (by rw[e];omega) hB;rw[e]at hO';exact Ba (L_ hx hy hr') (h v' w' (by simpa[Lib.strCells_eq,Lu,bs]using hO') (hF.grown hg hr) hg.size) hw
end
set_option synthInstance.maxHeartbeats 0
set_option synthInstance.maxSize 9999
def lies_bld:liesAt prog prog.depth 123 (2/prog.cellsOf 123) 0 123 1=true:=by kernel_rfl
def lies_prn:liesAt prog prog.depth 125 (4/prog.cellsOf 125) 0 123 1=true:=by kernel_rfl
def Vy:(prog.info? 123).map (·.size)=some 2:=by kernel_rfl
def AD(w0:World)(pb:Nat)(v:Value)(hh:w0.heap[pb]? = some (.cells #[.pointer none,v] 123)):Calls prog 224 #[V pb] w0 (Za λv_ w'=>v_=.tuple #[]/\Same [pb] w0 w'/\w'.heap[pb]? = some (.cells #[V pb,v] 123)):=by
 obtain⟨j,hj,hjs⟩:=Option.map_eq_some_iff.1 Vy;have hne:pb<w0.heap.size:=Pa hh;refine Lb func224 ntmps224 O O ?_;have hF:FR w0 [pb] [(pb,.cells #[.pointer none,v] 123)] w0:=FR.open_ (aS hh) Da;refine rn 6<|Ba (v:=.bool true) (SQ wZ O O) ?_;refine rn 6 ?_;refine Ba (v:=V pb) (U4 O<|Lib.run_to_unsafe _ ⟨pb,0,none⟩ wZ underlying262 hj (by rw[hjs];decide) (e:=123) (cells:=2) bM<|Nat.zero_lt_succ _) ?_;refine Ba (v:=V pb) (x_ext1 func256 Ua Ua Ua (e:=Extern.AbiNoEscape.same) Ua O O<|Lib.run_noEscape _ _)<|Ba (v:=V pb) (U4 O<|Lib.run_from_unsafe _ ⟨pb,0,none⟩ underlying262 wZ hj (e:=123) (cells:=2) bM lies_bld) ?_;refine rn 3 ?_;rintro w hF -;refine rn 2 ?_;exact⟨O,hF.same,hF.heap (i:=0) O⟩
def TC(w0:World)(pb:Nat)(v:Value)(m:Bool)(i:Int)(hh:w0.heap[pb]? = some (.cells #[.pointer none,v,.bool (m),J i] 125)):Calls prog 224 #[V pb] w0 (Za λv_ w'=>v_=.tuple #[]/\Same [pb] w0 w'/\w'.heap[pb]? = some (.cells #[V pb,v,.bool (m),J i] 125)):=by
 obtain⟨j,hj,hjs⟩:=Option.map_eq_some_iff.1 Vy;have hne:pb<w0.heap.size:=Pa hh;refine Lb func224 ntmps224 O O ?_;have hF:FR w0 [pb] [(pb,.cells #[.pointer none,v,.bool m,J i] 125)] w0:=FR.open_ (aS hh) Da;refine rn 6<|Ba (v:=.bool true) (SQ wZ O O) ?_;refine rn 6 ?_;refine Ba (v:=V pb) (U4 O<|Lib.run_to_unsafe _ ⟨pb,0,none⟩ wZ underlying262 hj (by rw[hjs];decide) (e:=125) (cells:=4) bM<|Nat.zero_lt_succ _) ?_;refine Ba (v:=V pb) (x_ext1 func256 Ua Ua Ua (e:=Extern.AbiNoEscape.same) Ua O O<|Lib.run_noEscape _ _)<|Ba (v:=V pb) (U4 O<|Lib.run_from_unsafe _ ⟨pb,0,none⟩ underlying262 wZ hj (e:=125) (cells:=4) bM lies_prn) ?_;refine rn 3 ?_;rintro w hF -;refine rn 2 ?_;exact⟨O,hF.same,hF.heap (i:=0) O⟩
def CC(w0:World)(pb:Nat)(v:Value)(hh:w0.heap[pb]? = some (.cells #[V pb,v] 123)):Calls prog 224 #[V pb] w0 (Za λv_ w'=>v_=.tuple #[]/\Same [pb] w0 w'/\w'.heap[pb]? = some (.cells #[V pb,v] 123)):=by
 obtain⟨j,hj,hjs⟩:=Option.map_eq_some_iff.1 Vy;have hne:pb<w0.heap.size:=Pa hh;refine Lb func224 ntmps224 O O ?_;have hF:FR w0 [pb] [(pb,.cells #[V pb,v] 123)] w0:=FR.open_ (aS hh) Da;refine rn 6<|Ba (v:=.bool false) (BQ wZ O O) ?_;refine rn 10<|Ba (v:=.bool false) (x_neqp wZ hj O O) ?_;refine rn 5 ?_;exact⟨O,hF.same,hF.heap (i:=0) O⟩
def LC(w0:World)(pb:Nat)(v:Value)(m:Bool)(i:Int)(hh:w0.heap[pb]? = some (.cells #[V pb,v,.bool (m),J i] 125)):Calls prog 224 #[V pb] w0 (Za λv_ w'=>v_=.tuple #[]/\Same [pb] w0 w'/\w'.heap[pb]? = some (.cells #[V pb,v,.bool (m),J i] 125)):=by
 obtain⟨j,hj,hjs⟩:=Option.map_eq_some_iff.1 Vy;have hne:pb<w0.heap.size:=Pa hh;refine Lb func224 ntmps224 O O ?_;have hF:FR w0 [pb] [(pb,.cells #[V pb,v,.bool m,J i] 125)] w0:=FR.open_ (aS hh) Da;refine rn 6<|Ba (v:=.bool false) (BQ wZ O O) ?_;refine rn 10<|Ba (v:=.bool false) (x_neqp wZ hj O O) ?_;refine rn 5 ?_;exact⟨O,hF.same,hF.heap (i:=0) O⟩
def Hk{w0:World}{B pb T:Nat}{rest:List Value}{s:Str}(h:Bd w0 B pb T rest s) :
    ∃v, w0.ownsRow B 5 1 v (aL s) (Lib.byteCells s) /\ (∀g, v.ownBlock = some g -> g ∈ Wk w0 B pb /\ g ≠ pb) /\
      Calls prog 224 #[V pb] w0 (Za λu w'=>u=.tuple #[]/\Same [pb] w0 w'/\w'.heap[pb]? = some (.cells (V pb::v::rest).toArray T)/\w'.ownsRow B 5 1 v (aL s) (Lib.byteCells s)):=by
  obtain⟨hs,hle,ap,v,hh,hO,ha⟩:=h;have hne:∀g,v.ownBlock=some g->g≠pb:=λg hg=>Rr hO hg hh (by exact hs.ne);refine⟨v,hO,λg hg=>⟨BC hO hg,hne g hg⟩,?_⟩;have fin:∀{u:Value}{w':World},(u=.tuple #[]/\Same [pb] w0 w'/\w'.heap[pb]? = some (.cells (V pb::v::rest).toArray T))->(u=.tuple #[]/\Same [pb] w0 w'/\w'.heap[pb]? = some (.cells (V pb::v::rest).toArray T)/\w'.ownsRow B 5 1 v (aL s) (Lib.byteCells s)) :=
    λ⟨h1,h2,h3⟩=>⟨h1,h2,h3,Qh hO h2 (λg hg=>by simpa using hne g hg)⟩
  rcases hs with ⟨rfl,rfl⟩|⟨rfl,m,i,rfl⟩ <;> rcases ha with rfl|rfl
  ·exact Gg (AD w0 pb v hh) λ_ _=>fin
  ·exact Gg (CC w0 pb v hh) λ_ _=>fin
  ·exact Gg (TC w0 pb v m i hh) λ_ _=>fin
  exact Gg (LC w0 pb v m i hh) λ_ _=>fin
def CA:(prog.info? 5).map (·.zero)=some (some (.int .u8 0)):=by kernel_rfl
theorem FR.addD{w0 w:World}{Ds:List Nat}{bs_:List (Nat × Obj)}(h:FR w0 Ds bs_ w)(hh:w.heap[b]? = some o)(hd:w0.heap.size<=b\/b∈Ds)(hn:∀p∈bs_,p.1≠b):FR w0 Ds ((b,o)::bs_) w :=
  ⟨h.same,λp hp=>by
    rcases oQ.1 hp with rfl|hp
    ·exact⟨hh,hd⟩
    exact h.own p hp,List.pairwise_cons.2 ⟨λq hq=>hn q hq,h.desc⟩⟩
def Od(r:Int):Str:=(Lib.encodeRuneZ r).map λx=>UInt8.ofNat x.toNat
theorem Cd(r:Int):1<=aL (Od r)/\aL (Od r)<=4:=by
  rw[Od,rQ];exact Lib.encodeRuneZ_length r
def Hh(r:Int):Lib.byteCells (Od r)=Lib.runeCells r:=by
  rw[Od,Lib.byteCells,Lib.runeCells,List.map_map];refine List.map_congr_left λx hx=>?_;have:=Lib.encodeRuneZ_byte r x hx;simp only[Function.comp_apply,Value.int.injEq,true_and,UInt8.toNat_ofNat'];omega
def Uw{w:World}{B n:Nat}{r:Int}(hO:w.ownsRow B 5 1 v n xs)(h0:-2147483648<=r)(h1:r<=2147483647)(hn:n+4<=140737488355328)(hB:B<=w.heap.size) :
    Calls prog 296 #[v,.int .i32 r] w (Za λv' w'=>w'.ownsRow B 5 1 v' (n+aL (Od r)) (xs++Lib.byteCells (Od r))/\∃o,(w.alloc o).grownBy w' v.ownBlock):=by
  refine (utf8_AppendRune_plain B v n xs r h0 h1 w hO hn hB).mono λe w' ⟨v',he,h2,h3⟩=>⟨v',he,?_,h3⟩;have e1:aL (Od r)=aL (Lib.runeCells r):=by rw[<-Hh,Lib.byteCells_length]
  rw[e1,Hh];exact h2
def Qw(f:Nat)(args:Array Value)(u:Value)(w0:World)(B pb T:Nat)(rest:List Value)(s:Str):Prop :=
  Calls prog f args w0 (Za λv w'=>v=u/\Bd w' B pb T rest s/\Same (Wk w0 B pb) w0 w')
theorem BJ(w0:World)(B pb:Nat)(s:Str)(hB:Bd w0 B pb 123 [] s)(c:UInt8)(hl:aL s+1<=140737488355328):Qw 226 #[V pb,.int .u8 ((c.toNat:Nat):Int)] .nilIface w0 B pb 123 [] (s++[c]):=by
 unfold Qw;refine Lb func226 ntmps226 O O ?_;obtain⟨v,hO0,hv,hC⟩:=Hk hB;have hle:=hB.le;have hBw:=hB.base;have hlt:=hB.lt;have hws:=gQ w0.heap.size;have hvl:∀g,v.ownBlock=some g->g<w0.heap.size:=λg hg=>(Tm hO0 hg).1;obtain⟨A1,c1,rfl⟩:=Zf hO0;have hF:=FR.start w0<|Wk w0 B pb;refine rn 8<|Xb hC (Df Qz O O) ?_;rintro _ w ⟨rfl,hE,hh,hO⟩;have hws:=fQ hws hE.size;have hBw:=fQ hBw hE.size;have hF:FR w0 (Wk w0 B pb) [(pb,.cells #[V pb,.slice A1 (aL s) c1] 123)] w:=(hF.touch hE (λb hb=>by obtain rfl:=pQ.1 hb;exact⟨λ_=>Ff.2<|.inl rfl,Da⟩)).addD hh (.inr<|Ff.2<|.inl rfl) Da;clear hE hh;refine rn 11 ?_;intro b1 w hb1 hF hE;have nb1:w0.heap.size<=b1:=by rw[hb1];exact hws
 have hws:=fQ hws hE.size;have hBw:=fQ hBw hE.size;have hO:=Qh hO hE Da;refine o_appB (news:=[.int .u8 ((c.toNat:Nat):Int)]) Ok hF hO hBw rfl rfl rfl (Kc<|hF.cellsAll 0 rfl) zB Aa (λb hb=>⟨λ_=>(hv b hb).1,by have h1:=(hv b hb).2;have h2:=hvl b hb;intro p hp;simp only[oQ,List.not_mem_nil,or_false]at hp;rcases hp with rfl|rfl <;> grind⟩) ?_;clear hF hO;intro v2 w hO hF hsz;have hws:=fQ hws hsz;have hBw:=fQ hBw hsz;have hne2:∀g,v2.ownBlock=some g->g≠pb:=λg hg=>Rr hO hg (hF.heap (i:=1) rfl) rfl;obtain⟨A2,c2,rfl⟩:=Zf hO;clear hsz;refine rn 3 ?_;intro w hF hE;have hws:=fQ hws hE.size;have hBw:=fQ hBw hE.size;have hO:=Qh hO hE (λg hg=>by simpa using hne2 g hg);refine rn 8 ?_;exact⟨O,⟨.inl ⟨O,O⟩,hle,_,_,hF.heap (i:=1) O,by simpa[In,Lib.byteCells,Hh]using hO,.inr O⟩,hF.same⟩
theorem E9(w0:World)(B pb:Nat)(s:Str)(hB:Bd w0 B pb 123 [] s)(t:Str)(hl:aL s+aL t<=140737488355328):Qw 163 #[V pb,I t] (.tuple #[J ((aL t:Nat):Int),.nilIface]) w0 B pb 123 [] (s++t):=by
 unfold Qw;refine Lb func163 ntmps163 O O ?_;obtain⟨v,hO0,hv,hC⟩:=Hk hB;have hle:=hB.le;have hBw:=hB.base;have hlt:=hB.lt;have hws:=gQ w0.heap.size;have hvl:∀g,v.ownBlock=some g->g<w0.heap.size:=λg hg=>(Tm hO0 hg).1;obtain⟨A1,c1,rfl⟩:=Zf hO0;have hF:=FR.start w0<|Wk w0 B pb;refine rn 9<|Xb hC (Df Qz O O) ?_;rintro _ w ⟨rfl,hE,hh,hO⟩;have hws:=fQ hws hE.size;have hBw:=fQ hBw hE.size;have hF:FR w0 (Wk w0 B pb) [(pb,.cells #[V pb,.slice A1 (aL s) c1] 123)] w:=(hF.touch hE (λb hb=>by obtain rfl:=pQ.1 hb;exact⟨λ_=>Ff.2<|.inl rfl,Da⟩)).addD hh (.inr<|Ff.2<|.inl rfl) Da;clear hE hh;refine rn 10 ?_;refine o_appS (str:=t) Ok CA jX hF hO hBw rfl rfl Aa (λb hb=>⟨λ_=>(hv b hb).1,by have h1:=(hv b hb).2;have h2:=hvl b hb;intro p hp;simp only[oQ,List.not_mem_nil,or_false]at hp;rcases hp with rfl <;> grind⟩) ?_;clear hF hO;intro v2 w hO hF hsz;have hws:=fQ hws hsz;have hBw:=fQ hBw hsz;have hne2:∀g,v2.ownBlock=some g->g≠pb:=λg hg=>Rr hO hg (hF.heap (i:=0) rfl) rfl;obtain⟨A2,c2,rfl⟩:=Zf hO;clear hsz;refine rn 3 ?_;intro w hF hE;have hws:=fQ hws hE.size;have hBw:=fQ hBw hE.size;have hO:=Qh hO hE (λg hg=>by simpa using hne2 g hg);refine rn 11 ?_;exact⟨O,⟨.inl ⟨O,O⟩,hle,_,_,hF.heap (i:=0) O,by simpa[In,Lib.byteCells,Hh]using hO,.inr O⟩,hF.same⟩
theorem WI(w0:World)(B pb:Nat)(s:Str)(hB:Bd w0 B pb 123 [] s)(r:Int)(hr0:-2147483648<=r)(hr1:r<=2147483647)(hl:aL s+4<=140737488355328):Qw 258 #[V pb,.int .i32 r] (.tuple #[J ((aL (Od r):Nat):Int),.nilIface]) w0 B pb 123 [] (s++Od r):=by
 unfold Qw;have hrl:=Cd r;refine Lb func258 ntmps258 O O ?_;obtain⟨v,hO0,hv,hC⟩:=Hk hB;have hle:=hB.le;have hBw:=hB.base;have hlt:=hB.lt;have hws:=gQ w0.heap.size;have hvl:∀g,v.ownBlock=some g->g<w0.heap.size:=λg hg=>(Tm hO0 hg).1;obtain⟨A1,c1,rfl⟩:=Zf hO0;have hF:=FR.start w0<|Wk w0 B pb;refine rn 9<|Xb hC (Df Qz O O) ?_;rintro _ w ⟨rfl,hE,hh,hO⟩;have hws:=fQ hws hE.size;have hBw:=fQ hBw hE.size;have hF:FR w0 (Wk w0 B pb) [(pb,.cells #[V pb,.slice A1 (aL s) c1] 123)] w:=(hF.touch hE (λb hb=>by obtain rfl:=pQ.1 hb;exact⟨λ_=>Ff.2<|.inl rfl,Da⟩)).addD hh (.inr<|Ff.2<|.inl rfl) Da;clear hE hh;refine rn 20<|Fc (Uw hO hr0 hr1 Aa hBw) ?_;rintro v2 w2 ⟨hO2,o,hg⟩;have hF:=(hF.ext<|Same.alloc _ o).grown hg (λb hb=>⟨λ_=>(hv b hb).1,by have h1:=(hv b hb).2;have h2:=hvl b hb;intro p hp;simp only[oQ,List.not_mem_nil,or_false]at hp;rcases hp with rfl <;> grind⟩);have hsz:=fQ (Same.alloc _ o).size hg.size;clear hO hg;revert hsz hF hO2;generalize w2=w;intro hO hF hsz;have hws:=fQ hws hsz;have hBw:=fQ hBw hsz;have hne2:∀g,v2.ownBlock=some g->g≠pb:=λg hg=>Rr hO hg (hF.heap (i:=0) rfl) rfl;obtain⟨A2,c2,rfl⟩:=Zf hO;clear hsz;refine rn 3 ?_;intro w hF hE;have hws:=fQ hws hE.size;have hBw:=fQ hBw hE.size;have hO:=Qh hO hE (λg hg=>by simpa using hne2 g hg);refine rn 10<|Zb (AB<|(aL (Od r):Nat)) ?_;refine rn 5 ?_;exact⟨O,⟨.inl ⟨O,O⟩,hle,_,_,hF.heap (i:=0) O,by simpa[In,Lib.byteCells,Hh]using hO,.inr O⟩,hF.same⟩
theorem NI(w0:World)(B pb:Nat)(m:Bool)(i:Int)(s:Str)(hB:Bd w0 B pb 125 [.bool (m),J i] s)(c:UInt8)(hl:aL s+1<=140737488355328):Qw 226 #[V pb,.int .u8 ((c.toNat:Nat):Int)] .nilIface w0 B pb 125 [.bool (m),J i] (s++[c]):=by
 unfold Qw;refine Lb func226 ntmps226 O O ?_;obtain⟨v,hO0,hv,hC⟩:=Hk hB;have hle:=hB.le;have hBw:=hB.base;have hlt:=hB.lt;have hws:=gQ w0.heap.size;have hvl:∀g,v.ownBlock=some g->g<w0.heap.size:=λg hg=>(Tm hO0 hg).1;obtain⟨A1,c1,rfl⟩:=Zf hO0;have hF:=FR.start w0<|Wk w0 B pb;refine rn 8<|Xb hC (Df Qz O O) ?_;rintro _ w ⟨rfl,hE,hh,hO⟩;have hws:=fQ hws hE.size;have hBw:=fQ hBw hE.size;have hF:FR w0 (Wk w0 B pb) [(pb,.cells #[V pb,.slice A1 (aL s) c1,.bool m,J i] 125)] w:=(hF.touch hE (λb hb=>by obtain rfl:=pQ.1 hb;exact⟨λ_=>Ff.2<|.inl rfl,Da⟩)).addD hh (.inr<|Ff.2<|.inl rfl) Da;clear hE hh;refine rn 11 ?_;intro b1 w hb1 hF hE;have nb1:w0.heap.size<=b1:=by rw[hb1];exact hws
 have hws:=fQ hws hE.size;have hBw:=fQ hBw hE.size;have hO:=Qh hO hE Da;refine o_appB (news:=[.int .u8 ((c.toNat:Nat):Int)]) Ok hF hO hBw rfl rfl rfl (Kc<|hF.cellsAll 0 rfl) zB Aa (λb hb=>⟨λ_=>(hv b hb).1,by have h1:=(hv b hb).2;have h2:=hvl b hb;intro p hp;simp only[oQ,List.not_mem_nil,or_false]at hp;rcases hp with rfl|rfl <;> grind⟩) ?_;clear hF hO;intro v2 w hO hF hsz;have hws:=fQ hws hsz;have hBw:=fQ hBw hsz;have hne2:∀g,v2.ownBlock=some g->g≠pb:=λg hg=>Rr hO hg (hF.heap (i:=1) rfl) rfl;obtain⟨A2,c2,rfl⟩:=Zf hO;clear hsz;refine rn 3 ?_;intro w hF hE;have hws:=fQ hws hE.size;have hBw:=fQ hBw hE.size;have hO:=Qh hO hE (λg hg=>by simpa using hne2 g hg);refine rn 8 ?_;exact⟨O,⟨.inr ⟨O,m,i,O⟩,hle,_,_,hF.heap (i:=1) O,by simpa[In,Lib.byteCells,Hh]using hO,.inr O⟩,hF.same⟩
theorem G9(w0:World)(B pb:Nat)(m:Bool)(i:Int)(s:Str)(hB:Bd w0 B pb 125 [.bool (m),J i] s)(t:Str)(hl:aL s+aL t<=140737488355328):Qw 163 #[V pb,I t] (.tuple #[J ((aL t:Nat):Int),.nilIface]) w0 B pb 125 [.bool (m),J i] (s++t):=by
 unfold Qw;refine Lb func163 ntmps163 O O ?_;obtain⟨v,hO0,hv,hC⟩:=Hk hB;have hle:=hB.le;have hBw:=hB.base;have hlt:=hB.lt;have hws:=gQ w0.heap.size;have hvl:∀g,v.ownBlock=some g->g<w0.heap.size:=λg hg=>(Tm hO0 hg).1;obtain⟨A1,c1,rfl⟩:=Zf hO0;have hF:=FR.start w0<|Wk w0 B pb;refine rn 9<|Xb hC (Df Qz O O) ?_;rintro _ w ⟨rfl,hE,hh,hO⟩;have hws:=fQ hws hE.size;have hBw:=fQ hBw hE.size;have hF:FR w0 (Wk w0 B pb) [(pb,.cells #[V pb,.slice A1 (aL s) c1,.bool m,J i] 125)] w:=(hF.touch hE (λb hb=>by obtain rfl:=pQ.1 hb;exact⟨λ_=>Ff.2<|.inl rfl,Da⟩)).addD hh (.inr<|Ff.2<|.inl rfl) Da;clear hE hh;refine rn 10 ?_;refine o_appS (str:=t) Ok CA jX hF hO hBw rfl rfl Aa (λb hb=>⟨λ_=>(hv b hb).1,by have h1:=(hv b hb).2;have h2:=hvl b hb;intro p hp;simp only[oQ,List.not_mem_nil,or_false]at hp;rcases hp with rfl <;> grind⟩) ?_;clear hF hO;intro v2 w hO hF hsz;have hws:=fQ hws hsz;have hBw:=fQ hBw hsz;have hne2:∀g,v2.ownBlock=some g->g≠pb:=λg hg=>Rr hO hg (hF.heap (i:=0) rfl) rfl;obtain⟨A2,c2,rfl⟩:=Zf hO;clear hsz;refine rn 3 ?_;intro w hF hE;have hws:=fQ hws hE.size;have hBw:=fQ hBw hE.size;have hO:=Qh hO hE (λg hg=>by simpa using hne2 g hg);refine rn 11 ?_;exact⟨O,⟨.inr ⟨O,m,i,O⟩,hle,_,_,hF.heap (i:=0) O,by simpa[In,Lib.byteCells,Hh]using hO,.inr O⟩,hF.same⟩
theorem AH(w0:World)(B pb:Nat)(m:Bool)(i:Int)(s:Str)(hB:Bd w0 B pb 125 [.bool (m),J i] s)(r:Int)(hr0:-2147483648<=r)(hr1:r<=2147483647)(hl:aL s+4<=140737488355328):Qw 258 #[V pb,.int .i32 r] (.tuple #[J ((aL (Od r):Nat):Int),.nilIface]) w0 B pb 125 [.bool (m),J i] (s++Od r):=by
 unfold Qw;have hrl:=Cd r;refine Lb func258 ntmps258 O O ?_;obtain⟨v,hO0,hv,hC⟩:=Hk hB;have hle:=hB.le;have hBw:=hB.base;have hlt:=hB.lt;have hws:=gQ w0.heap.size;have hvl:∀g,v.ownBlock=some g->g<w0.heap.size:=λg hg=>(Tm hO0 hg).1;obtain⟨A1,c1,rfl⟩:=Zf hO0;have hF:=FR.start w0<|Wk w0 B pb;refine rn 9<|Xb hC (Df Qz O O) ?_;rintro _ w ⟨rfl,hE,hh,hO⟩;have hws:=fQ hws hE.size;have hBw:=fQ hBw hE.size;have hF:FR w0 (Wk w0 B pb) [(pb,.cells #[V pb,.slice A1 (aL s) c1,.bool m,J i] 125)] w:=(hF.touch hE (λb hb=>by obtain rfl:=pQ.1 hb;exact⟨λ_=>Ff.2<|.inl rfl,Da⟩)).addD hh (.inr<|Ff.2<|.inl rfl) Da;clear hE hh;refine rn 20<|Fc (Uw hO hr0 hr1 Aa hBw) ?_;rintro v2 w2 ⟨hO2,o,hg⟩;have hF:=(hF.ext<|Same.alloc _ o).grown hg (λb hb=>⟨λ_=>(hv b hb).1,by have h1:=(hv b hb).2;have h2:=hvl b hb;intro p hp;simp only[oQ,List.not_mem_nil,or_false]at hp;rcases hp with rfl <;> grind⟩);have hsz:=fQ (Same.alloc _ o).size hg.size;clear hO hg;revert hsz hF hO2;generalize w2=w;intro hO hF hsz;have hws:=fQ hws hsz;have hBw:=fQ hBw hsz;have hne2:∀g,v2.ownBlock=some g->g≠pb:=λg hg=>Rr hO hg (hF.heap (i:=0) rfl) rfl;obtain⟨A2,c2,rfl⟩:=Zf hO;clear hsz;refine rn 3 ?_;intro w hF hE;have hws:=fQ hws hE.size;have hBw:=fQ hBw hE.size;have hO:=Qh hO hE (λg hg=>by simpa using hne2 g hg);refine rn 10<|Zb (AB<|(aL (Od r):Nat)) ?_;refine rn 5 ?_;exact⟨O,⟨.inr ⟨O,m,i,O⟩,hle,_,_,hF.heap (i:=0) O,by simpa[In,Lib.byteCells,Hh]using hO,.inr O⟩,hF.same⟩
def Z6:prog.cellsOf 5=1:=by kernel_rfl
theorem Same.freeze(w:World)(a:Addr)(n:Nat):Same [a.block] w (w.freeze a n):=by
  have h:=Lib.below_freeze (B:=a.block) (Below.refl a.block w) (p:=a) (gQ _) n;refine⟨h.os,h.tape,h.output,h.size,λb hb hn=>?_⟩;have hn':b≠a.block:=qK
  unfold World.freeze;grind
def VY(w0:World)(B pb:Nat)(s:Str)(hB:Bd w0 B pb 123 [] s)(h0:s≠[]):Calls prog 106 #[V pb] w0 (Za λv w'=>v=I s/\Same (Wk w0 B pb) w0 w'):=by
 refine Lb func106 ntmps106 O O ?_;obtain⟨-,hle,ap,v,hh,hO,-⟩:=hB;have hsl:aL s≠0:=aS h0
 obtain⟨g,c1,cur,rfl,hbg,hg,hnc,hcm,hcs,htake⟩:∃g cap cur,v=W g (aL s) cap/\B<=g/\w0.heap[g]? = some (.cells cur 5 (0,0))/\aL s<=cap/\cap<=maxLen/\cur.size=cap*1/\cur.toList.take (aL s*1)=Lib.byteCells s:=by
   rcases hO.2 with ⟨_,hz⟩|⟨g,cap,cur,hv,r⟩
   ·exact absurd hz hsl
   exact⟨g,cap,cur,hv,r⟩
 have hgm:g∈Wk w0 B pb:=BC hO rfl;have hgn:g≠pb:=Rr hO rfl hh (by rfl);have hF:FR w0 (Wk w0 B pb) [(pb,.cells #[ap,W g (aL s) c1] 123)] w0:=(FR.start w0<|Wk w0 B pb).addD hh (.inr<|Ff.2<|.inl rfl) Da;refine rn 6<|Gb (.of []) (bQ [0,1,2,3,5,6,7,8,9]<|.act 4<|.act 10<|.free 11 .nil) hF ?_;intro w hF hE;have hg:=(hE.block g (Pa hg) Da).trans hg;have hO:=Qh hO hE Da;refine⟨λwq=>FR w0 (Wk w0 B pb) _ wq,hF,?_⟩;refine rn 9<|Ct O (x_usd O Aa) hF ?_;have hu:(Builtin.unsafeString_ #[192,3] 9 #[V g,J (aL s)]).run prog w=.ok (I s) (w.freeze ⟨g,0,none⟩ (aL s)):=Lib.run_unsafeString_row w 192 3 9 5 underlying192 Z6 g cur.size (by simp[World.shape?,hg]) s h0 Aa (by simp only[maxLen]at hcm;omega) λj x hx=>hO.cells (g:=g) rfl j (.int .u8 x.toNat) (by simp[Lib.byteCells,hx]);have hEf:FR w0 (Wk w0 B pb) _ (w.freeze ⟨g,0,none⟩ (aL s)):=hF.touch (Same.freeze w ⟨g,0,none⟩ (aL s)) (λb hb=>by obtain rfl:=pQ.1 hb;exact⟨λ_=>hgm,by simpa using hgn.symm⟩);refine Ct O (x_uss O O hu) hEf ?_;have hF:=hEf;refine rn 4 ?_;exact⟨O,hF.same⟩
def string_b(w0:World)(B pb:Nat)(m:Bool)(i:Int)(s:Str)(hB:Bd w0 B pb 125 [.bool (m),J i] s)(h0:s≠[]):Calls prog 106 #[V pb] w0 (Za λv w'=>v=I s/\Same (Wk w0 B pb) w0 w'):=by
 refine Lb func106 ntmps106 O O ?_;obtain⟨-,hle,ap,v,hh,hO,-⟩:=hB;have hsl:aL s≠0:=aS h0
 obtain⟨g,c1,cur,rfl,hbg,hg,hnc,hcm,hcs,htake⟩:∃g cap cur,v=W g (aL s) cap/\B<=g/\w0.heap[g]? = some (.cells cur 5 (0,0))/\aL s<=cap/\cap<=maxLen/\cur.size=cap*1/\cur.toList.take (aL s*1)=Lib.byteCells s:=by
   rcases hO.2 with ⟨_,hz⟩|⟨g,cap,cur,hv,r⟩
   ·exact absurd hz hsl
   exact⟨g,cap,cur,hv,r⟩
 have hgm:g∈Wk w0 B pb:=BC hO rfl;have hgn:g≠pb:=Rr hO rfl hh (by rfl);have hF:FR w0 (Wk w0 B pb) [(pb,.cells #[ap,W g (aL s) c1,.bool m,J i] 125)] w0:=(FR.start w0<|Wk w0 B pb).addD hh (.inr<|Ff.2<|.inl rfl) Da;refine rn 6<|Gb (.of []) (bQ [0,1,2,3,5,6,7,8,9]<|.act 4<|.act 10<|.free 11 .nil) hF ?_;intro w hF hE;have hg:=(hE.block g (Pa hg) Da).trans hg;have hO:=Qh hO hE Da;refine⟨λwq=>FR w0 (Wk w0 B pb) _ wq,hF,?_⟩;refine rn 9<|Ct O (x_usd O Aa) hF ?_;have hu:(Builtin.unsafeString_ #[192,3] 9 #[V g,J (aL s)]).run prog w=.ok (I s) (w.freeze ⟨g,0,none⟩ (aL s)):=Lib.run_unsafeString_row w 192 3 9 5 underlying192 Z6 g cur.size (by simp[World.shape?,hg]) s h0 Aa (by simp only[maxLen]at hcm;omega) λj x hx=>hO.cells (g:=g) rfl j (.int .u8 x.toNat) (by simp[Lib.byteCells,hx]);have hEf:FR w0 (Wk w0 B pb) _ (w.freeze ⟨g,0,none⟩ (aL s)):=hF.touch (Same.freeze w ⟨g,0,none⟩ (aL s)) (λb hb=>by obtain rfl:=pQ.1 hb;exact⟨λ_=>hgm,by simpa using hgn.symm⟩);refine Ct O (x_uss O O hu) hEf ?_;have hF:=hEf;refine rn 4 ?_;exact⟨O,hF.same⟩
def Ap{w0:World}{B pb T:Nat}{rest:List Value}{s:Str}(hB:Bd w0 B pb T rest s)(c:UInt8)(hl:aL s+1<=140737488355328):Qw 226 #[V pb,.int .u8 ((c.toNat:Nat):Int)] .nilIface w0 B pb T rest (s++[c]):=by
  rcases hB.shp with ⟨rfl,rfl⟩|⟨rfl,m,i,rfl⟩
  ·exact BJ w0 B pb s hB c hl
  exact NI w0 B pb m i s hB c hl
def Fj{w0:World}{B pb T:Nat}{rest:List Value}{s:Str}(hB:Bd w0 B pb T rest s)(t:Str)(hl:aL s+aL t<=140737488355328):Qw 163 #[V pb,I t] (.tuple #[J ((aL t:Nat):Int),.nilIface]) w0 B pb T rest (s++t):=by
  rcases hB.shp with ⟨rfl,rfl⟩|⟨rfl,m,i,rfl⟩
  ·exact E9 w0 B pb s hB t hl
  exact G9 w0 B pb m i s hB t hl
def E3{w0:World}{B pb T:Nat}{rest:List Value}{s:Str}(hB:Bd w0 B pb T rest s)(r:Int)(h0:-2147483648<=r)(h1:r<=2147483647)(hl:aL s+4<=140737488355328):Qw 258 #[V pb,.int .i32 r] (.tuple #[J ((aL (Od r):Nat):Int),.nilIface]) w0 B pb T rest (s++Od r):=by
  rcases hB.shp with ⟨rfl,rfl⟩|⟨rfl,m,i,rfl⟩
  ·exact WI w0 B pb s hB r h0 h1 hl
  exact AH w0 B pb m i s hB r h0 h1 hl
def E6{w0:World}{B pb T:Nat}{rest:List Value}{s:Str}(hB:Bd w0 B pb T rest s)(h0:s≠[]):Calls prog 106 #[V pb] w0 (Za λv w'=>v=I s/\Same (Wk w0 B pb) w0 w'):=by
  rcases hB.shp with ⟨rfl,rfl⟩|⟨rfl,m,i,rfl⟩
  ·exact VY w0 B pb s hB h0
  exact string_b w0 B pb m i s hB h0
structure BW (w0:World) (Ds:List Nat) (w:World) (B pb T:Nat) (rest:List Value) (s:Str):Prop where
  bd:Bd w B pb T rest s
  sub:∀x∈Wk w B pb,x<w0.heap.size->x∈Ds
  ge:w0.heap.size<=w.heap.size
section
variable {w0 w w':World}{Ds E:List Nat}{bs_:List (Nat × Obj)}{B pb T:Nat}{rest:List Value}{s t:Str}
def BW.start(h:Bd w0 B pb T rest s):BW w0 (Wk w0 B pb) w0 B pb T rest s:=⟨h,λx hx _=>hx,gQ _⟩
def BW.own(h:Bd w B pb T rest s)(hb:w0.heap.size<=B)(hg:w0.heap.size<=w.heap.size):BW w0 Ds w B pb T rest s :=
  ⟨h,λx hx hl=>by
    have:=h.le;rcases Ff.1 hx with rfl|⟨-,h2,-⟩ <;> omega,hg⟩
def BW.lt(h:BW w0 Ds w B pb T rest s):pb<w.heap.size:=h.bd.lt
def BW.wrote(h:BW w0 Ds w B pb T rest s)(hb:Bd w' B pb T rest t)(hs:Same (Wk w B pb) w w'):BW w0 Ds w' B pb T rest t :=
  ⟨hb,λx hx hl=>by
    rcases Wk.step hs hx with h1|h1
    ·exact h.sub x h1 hl
    have:=h.ge;omega,fQ h.ge hs.size⟩
theorem FR.wrote(hF:FR w0 Ds bs_ w)(h:BW w0 Ds w B pb T rest s)(hs:Same (Wk w B pb) w w')(hb:∀p∈bs_,Yi p.2=false/\p.1≠pb):FR w0 Ds bs_ w' :=
  hF.touch hs λx hx=>⟨h.sub x hx,λp hp e=>by
    have h1:=hb p hp;rcases Ff.1 hx with h2|⟨-,-,h3⟩
    ·exact h1.2<|e.trans h2
    rw[<-e,It<|hF.memHeap hp,h1.1]at h3;cases h3⟩
theorem Bd.same(h:Bd w B pb T rest s)(hs:Same E w w')(hp:pb∉E)(he:∀x∈E,Bt w x=false):Bd w' B pb T rest s:=by
  obtain⟨h1,h2,ap,v,h3,h4,h5⟩:=h;refine⟨h1,h2,ap,v,(hs.block pb (Pa h3) hp).trans h3,Qh h4 hs λg hg hm=>?_,h5⟩;have:=(Tm h4 hg).2.2;grind
def Bd.ext(h:Bd w B pb T rest s)(hs:Same [] w w'):Bd w' B pb T rest s:=h.same hs Da Da
def BW.step(h:BW w0 Ds w B pb T rest s)(hs:Same E w w')(hp:pb∉E)(he:∀x∈E,Bt w x=false)(he':∀x∈E,Bt w' x=false):BW w0 Ds w' B pb T rest s :=
  ⟨h.bd.same hs hp he,λx hx hl=>by
    refine h.sub x (Ff.2 ?_) hl;have hl2:=Nat.lt_of_lt_of_le hl h.ge;rcases Ff.1 hx with rfl|⟨-,h2,h3⟩
    ·exact .inl O
    refine .inr ⟨hl2, h2, ?_⟩;have hn:x∉E:=λhm=>by rw[he' x hm]at h3;cases h3
    rw[Bt,<-hs.block x hl2 hn];exact h3,fQ h.ge hs.size⟩
def BW.ext(h:BW w0 Ds w B pb T rest s)(hs:Same [] w w'):BW w0 Ds w' B pb T rest s:=h.step hs Da Da Da
def Rep.off{d:D}(h:Rep (λx=>x∉Wk w B pb) w d cs)(hs:Same (Wk w B pb) w w'):Rep (λx=>x∉Wk w' B pb) w' d cs :=
  ((h.old).same hs (λb hb hn=>hn.1 hb)).weaken λx hx _ hm=>by
    rcases Wk.step hs hm with h1|h1
    ·exact hx.1 h1
    have:=hx.2;omega
def Rep.off_ext{d:D}(h:Rep (λx=>x∉Wk w B pb) w d cs)(hp:pb<w.heap.size)(hs:Same [] w w'):Rep (λx=>x∉Wk w' B pb) w' d cs:=h.off (hs.mono Da)
end
section
variable {P:Program}{w:World}{ρ:Operand->Value}{dst:Option Nat}{ty:TypeId}{pos:String}{aft:Array Edge}{g:Option (Nat × Bool)}
def x_and{t t':TypeId}{k:IntKind}{a b c:Int}(hx:ρ x=.int k a)(hy:ρ y=.int k b)(h:bits .and k a b=c) :
    (execOp ρ ⟨dst,.binOp .and t x y t',ty,pos,aft,g⟩).run P w=.ok (.value (.int k c)) w:=by simp[execOp,hx,hy,Pc,binOp,intBits_and,h]
def x_shr{t t':TypeId}{k k2:IntKind}{a c:Int}(m:Nat)(hx:ρ x=.int k a)(hy:ρ y=.int k2 m)(hm:m<=k.bits)(h:a.fdiv (2 ^ m)=c) :
    (execOp ρ ⟨dst,.binOp .shr t x y t',ty,pos,aft,g⟩).run P w=.ok (.value (.int k c)) w:=by
  have hg:(eqGuard .shr t x y (.int k a)<|.int k2 m).run P w=.ok () w:=by unfold eqGuard;simp
  have h0:¬((m:Int)<0):=Aa
  simp[execOp,hx,hy,hg,binOp,Op.shift,h0,Nat.min_eq_left hm,h]
theorem Lw{t:Nat}(i:Nat)(ht:P.underlying t=some (.array N e))(hs:∀w,(sizeOf e).run P w=.ok 1 w)(hx:ρ x=V b)(hy:ρ y=.int kk (i:Int))(h1:i<N) :
    (execOp ρ ⟨dst,.indexAddr t x y,ty,pos,aft,g⟩).run P w=.ok (.value (.pointer (some ⟨b,i,none⟩))) w:=by
  have h2:(0:Int)<=(i:Int)/\(i:Int)<(N:Int):=Aa
  have e1:(⟨b,0,none⟩:Addr).add i=⟨b,i,none⟩:=by grind [Te]
  simp[execOp,hx,hy,Instr.indexAt,run_underlying ht,Instr.sureAddr,asIntOf,h2,hs,e1];grind
theorem AN{t:Nat}(i:Nat)(ht:P.underlying t=some (.array N e))(hs:∀w,(sizeOf e).run P w=.ok 1 w)(hx:ρ x=V b)(hy:ρ y=.int kk (i:Int))(h1:i<N) :
    (execOp ρ ⟨dst,.slice t x (some y) none none,ty,pos,aft,g⟩).run P w=.ok (.value (.slice (some ⟨b,i,none⟩) (N-i) (N-i))) w:=by
  have h0:¬N=i:=Aa
  have e1:(⟨b,0,none⟩:Addr).add i=⟨b,i,none⟩:=by grind [Te]
  have e2:(0:Int)<=(i:Int)/\(i:Int)<=(N:Int):=Aa
  simp[execOp,hx,hy,Instr.sliceAt,run_underlying ht,Instr.sureAddr,Instr.sliceBounds,run_sliceBound,hs,e1,h0,e2]
theorem KJ{t:Nat}{n c:Nat}(s:Str)(ht:P.underlying t=some (.slice e))(he:P.underlying e=some (.int .u8))(hd:P.underlying t'=some .string)(hx:ρ x=.slice (some a) n c)(hn:aL s=n)
    (h:∀j (hj:j<aL s),w.cell? (a.add j)=some (.int .u8 (s[j].toNat:Int))) :
    (execOp ρ ⟨dst,.convert t t' x,ty,pos,aft,g⟩).run P w=.ok (.value (I s)) w:=by
  have hl:=Pp (P:=P) a w ((s.map λu=>(u.toNat:Int)).map (Value.int .u8)) (m:=n) (by simp[hn]) (λj hj=>by simp at hj ⊢;exact h j hj);have hb:=run_bytesToString w a n c (s.map λu=>(u.toNat:Int)) hl;have e1:∀(l:Str)(acc:ByteArray),(l.map λu=>(u.toNat:Int)).foldl (λr n=>r.push<|UInt8.ofNat n.toNat) acc=⟨acc.data++l.toArray⟩:=by
    intro l
    induction l with
    | nil =>
      intro acc;simp
    | cons u l ih=>simp_all
  rw[e1]at hb;simp[execOp,hx,run_convert_bytes_string w t t' e _ _ _ ht he hd,hb]
end
def RN:List Value:=List.replicate 65 (.int .u8 0)
def Px:Str:=[48,49,50,51,52,53,54,55,56,57,97,98,99,100,101,102,103,104,105,106,107,108,109,110,111,112,113,114,115,116,117,118,119,120,121,122]
def dg(k:Nat):UInt8:=Px.getD k 0
def Um(r:Nat):Str:=if r<16 then [dg r] else [dg (r/16),dg (r%16)]
def X1(h:k<aL Px):Px[k]=dg k:=by simp[dg,h]
def wrap64:∀r<32,IntKind.u64.wrap ((r:Nat):Int)=r:=Ja
def and15:∀u<32,bits .and .u64 ((u:Nat):Int) 15=((u%16:Nat):Int):=Ja
def tz64_c(w0:World)(hG:Gl w0):Calls prog 306 #[.int .u64 16] w0 (Za λv w'=>v=J 4/\Same [] w0 w'):=by
 obtain⟨e,fz,hbr⟩:=hG.bru;refine Ea func306 ntmps306 ?_;intro hF;refine rn 9<|Ba (v:=.bool false) (Cc El Ja) ?_;refine rn 9<|Ba (v:=.int .u64 18446744073709551600) (K2 O Ja)<|Ba (v:=.int .u64 16) (x_and O O Ja)<|Ba (v:=.int .u64 4573923408821661840) (Ro O O Ja)<|Ba (v:=.int .u64 15) (x_shr 58 O O Ja Ja)<|Ba (v:=.pointer<|some<|⟨5,15,none⟩) (Lw 15 underlying313 sizeOf5 O O Ja) ?_;refine Ba (v:=.int .u8 4) (Xa isAgg5 (hx:=O) (by rw[Db<|hF.heap0 hbr];rfl)) ?_;refine Ba (v:=J 4) (Qb iX dX O Ja)<|rn 4 ?_;exact⟨O,hF.same⟩
def tz_c(w0:World)(hG:Gl w0):Calls prog 285 #[.int .u64 16] w0 (Za λv w'=>v=J 4/\Same [] w0 w'):=by
 refine Ea func285 ntmps285 ?_;intro hF;refine rn 12<|Ia (tz64_c _<|hG.ext hF.same) ?_;rintro w hF -;refine rn 4 ?_;exact⟨O,hF.same⟩
def pow2_c(w0:World):Calls prog 284 #[J 16] w0 (Za λv w'=>v=.bool true/\Same [] w0 w'):=by
 refine Ea func284 ntmps284 ?_;intro hF;refine rn 9<|Ba (v:=J 15) (Ho O O Ja)<|Ba (v:=J 0) (x_and O O Ja)<|Ba (v:=.bool true) (Ud El Ja) ?_;refine rn 4 ?_;exact⟨O,hF.same⟩
def HD(w0:World)(hG:Gl w0)(r:Nat)(hr:r<32):Calls prog 247 #[aQ,.int .u64 (r:Int),J 16,.bool false,.bool false] w0 (Za λv w'=>v=.tuple #[aQ,I (Um r)]/\Same [] w0 w'):=by
 refine Ea func247 ntmps247 ?_;intro hF;refine rn 10<|Ba (v:=.bool false) (Cc Uy Ja) ?_;refine rn 2<|Ba (v:=.bool false) (Cc El Ja) ?_;refine rn 3<|Ba (v:=.bool false) (Cc H3 Ja) ?_;refine rn 8<|Wm (cs:=(List.toArray RN)) hF zeroValue284 Ua ?_;rintro b1 w hb1 hF -;refine rn 20<|Ia (pow2_c _) ?_;rintro w hF -;refine rn 6<|Ba (v:=.int .u64 16) (Qb dX xZ O Ja) ?_;refine Ia (tz_c _<|hG.ext hF.same) ?_;rintro w hF -;refine Ba (v:=.int .u64 4) (Qb dX xZ O Ja)<|rn 6 ?_;refine Ba (v:=.int .u64 16) (Qb dX cX O Ja)<|rn 6 ?_;refine Ba (v:=.int .u64 16) (Qb dX xZ O Ja)<|Ba (v:=.int .u64 15) (Ho O O Ja) ?_;refine rn 5<|Sa (λμ σ w=>∃(u:Nat),∃(i:Nat),∃(cs:List Value),μ=2*u/\((u=r/\i=65/\cs=RN)\/(16<=r/\u=r/16/\i=64/\cs=RN.set 64 (.int .u8 ((dg<|r%16).toNat:Int))))/\AllEq σ [(0,aQ),(1,.int .u64<|(u:Int)),(3,.bool false),(4,.bool false),(10,aQ),(11,I []),(12,V b1),(13,J<|(i:Int)),(14,.int .u64 4),(15,.int .u64 16),(16,.int .u64 15)]/\FR w0 [] [(b1,.cells (List.toArray cs) 284)] w) _ ⟨r,65,RN,O,.inl ⟨O,O,O⟩,Va,hF⟩ ?_;rintro μ σ w ⟨u,i,cs,rfl,hI,hzz,hF⟩;have hcl:aL cs=65:=by rcases hI with ⟨-,-,rfl⟩|⟨-,-,-,rfl⟩ <;> simp[RN]
 have hu32:u<32:=Aa
 refine Wf hzz 9 ⟨λhc3=>?_,λhc3=>?_⟩
 ·
  refine rn 6<|Zb (AB<|((64:Nat):Int)) ?_;refine rn 8<|Ba (v:=.int .u64<|((u%16:Nat):Int)) (x_and O O<|and15 u Aa) ?_;refine Ba (v:=.int .u8<|((dg<|u%16).toNat:Int)) (by rw[<-X1 (show u%16<aL Px by show u%16<36;omega)];exact Cb (u%16) jX O O _) ?_;refine Ba (v:=.pointer<|some ⟨b1,64,none⟩) (Lw 64 underlying284 sizeOf5 O O Ja) ?_;refine Ye 0 (l:=[.int .u8 (((dg<|u%16).toNat:Nat):Int)]) (cs':=(List.toArray<|cs.set 64<|.int .u8 (((dg<|u%16).toNat:Nat):Int))) hF sizeOf5 O (v:=.int .u8 (((dg<|u%16).toNat:Nat):Int)) O O Eo O (by simp[hcl] <;> omega) (by simp[putA]) ?_;rintro w hF -;have hF:FR w0 [] [(b1,.cells (List.toArray<|cs.set 64<|.int .u8 (((dg<|u%16).toNat:Nat):Int)) 284)] w:=hF;refine rn 5 ?_;refine Ba (v:=.int .u64<|((u/16:Nat):Int)) (x_shr 4 O O Ja (by rw[Int.fdiv_eq_ediv_of_nonneg _ Ja];omega)) ?_;refine rn 3 ?_;refine Ha ⟨_,?_,u/16,64,cs.set 64<|.int .u8 (((dg<|u%16).toNat:Nat):Int),rfl,(.inr (by rcases hI with ⟨rfl,rfl,rfl⟩|⟨h16,rfl,rfl,rfl⟩ <;> first|omega|exact⟨Aa,rfl,rfl,rfl⟩)),Va,hF⟩;omega
 refine rn 5<|Zb (AB<|((i-1:Nat):Int)) ?_;refine rn 6 ?_;refine Ba (v:=.int .u8<|((dg u).toNat:Int)) (by rw[<-X1 (show u<aL Px by show u<36;omega)];exact Cb u jX O O _) ?_;refine Ba (v:=.pointer<|some ⟨b1,i-1,none⟩) (Lw (i-1) underlying284 sizeOf5 O O Aa) ?_;refine Ye 0 (l:=[.int .u8 (((dg u).toNat:Nat):Int)]) (cs':=(List.toArray<|cs.set (i-1)<|.int .u8 (((dg u).toNat:Nat):Int))) hF sizeOf5 O (v:=.int .u8 (((dg u).toNat:Nat):Int)) O O Eo O (by simp[hcl] <;> omega) (by simp[putA]) ?_;rintro w hF -;have hF:FR w0 [] [(b1,.cells (List.toArray<|cs.set (i-1)<|.int .u8 (((dg u).toNat:Nat):Int)) 284)] w:=hF;refine rn 23<|Ba (v:=.slice (some ⟨b1,i-1,none⟩) (65-(i-1))<|65-(i-1)) (AN (i-1) underlying284 sizeOf5 O O Aa) ?_;have hfin:aL (Um r)=65-(i-1)/\∀j (hj:j<aL (Um r)),w.cell? ((⟨b1,i-1,none⟩:Addr).add j)=some (.int .u8 ((Um r)[j].toNat:Int)):=by
   have hh:=hF.heap (i:=0) rfl;rcases hI with ⟨rfl,rfl,rfl⟩|⟨h16,rfl,rfl,rfl⟩
   ·have h1 : Um u = [dg u] := by rw[Um, uQ Aa]
    refine⟨by rw[h1];rfl,λj hj=>?_⟩;have hj0:j=0:=by rw[h1]at hj;simpa using hj
    subst hj0;rw[Te,Db hh];simp[h1,RN]
   have h1 : Um r = [dg<|r/16, dg (r%16)] := by rw[Um, tQ Aa]
   refine⟨by rw[h1];rfl,λj hj=>?_⟩;have hj2:j=0\/j=1:=by rw[h1]at hj;simp at hj;omega
   rw[Te,Db hh];rcases hj2 with rfl|rfl <;> simp[h1,RN]
 refine Ba (v:=I<|Um r) (KJ (Um r) underlying121 iX jX O hfin.1 hfin.2)<|rn 4 ?_;exact⟨O,hF.same⟩
def HY(w0:World)(hG:Gl w0)(r:Nat)(hr:r<32):Calls prog 210 #[J (r:Int),J 16] w0 (Za λv w'=>v=I (Um r)/\Same [] w0 w'):=by
 refine Ea func210 ntmps210 ?_;intro hF;refine rn 9<|Ba (v:=.bool false) (Cc El Ja) ?_;refine rn 8<|Ba (v:=.int .u64<|(r:Int)) (Qb underlying2 cX O<|wrap64 r hr) ?_;refine rn 2<|Ba (v:=.bool false) (Cc Uy Aa) ?_;refine Ia (HD _ (hG.ext hF.same) r hr) ?_;rintro w hF -;refine rn 14 ?_;exact⟨O,hF.same⟩
def hex_c(w0:World)(hG:Gl w0)(r:Nat)(hr:r<32):Calls prog 259 #[J (r:Int),J 16] w0 (Za λv w'=>v=I (Um r)/\Same [] w0 w'):=by
 refine Ea func259 ntmps259 ?_;intro hF;refine rn 9<|Ia (HY _ (hG.ext hF.same) r hr) ?_;rintro w hF -;refine rn 4 ?_;exact⟨O,hF.same⟩
def If(r:Int):Int:=if r=34 then 34 else if r=92 then 92 else if r=8 then 98 else if r=12 then 102 else if r=10 then 110 else if r=13 then 114 else if r=9 then 116 else 0
theorem letter_c(w0:World)(r:Int):Calls prog 257 #[.int .i32 r] w0 (Za λv w'=>v=.int .u8 (If r)/\Same [] w0 w'):=by
 refine Ea func257 ntmps257 ?_;intro hF;refine rn 20 ⟨λhc0=>?_,λhc0=>?_⟩;refine rn 6 ?_;refine Ba (v:=.int .u8<|If r) (Qb bX iX rfl wV) ?_;refine rn 4 ?_;refine⟨?_,hF.same⟩;simp_all[If];refine rn 6 ⟨λhc1=>?_,λhc1=>?_⟩;refine rn 3 ?_;refine Ba (v:=.int .u8<|If r) (Qb bX iX rfl wV) ?_;refine rn 4 ?_;refine⟨?_,hF.same⟩;simp_all[If];refine rn 7 ⟨λhc2=>?_,λhc2=>?_⟩;refine rn 6 ?_;refine⟨?_,hF.same⟩;simp_all[If];refine rn 7 ⟨λhc3=>?_,λhc3=>?_⟩;refine rn 6 ?_;refine⟨?_,hF.same⟩;simp_all[If];refine rn 7 ⟨λhc4=>?_,λhc4=>?_⟩;refine rn 6 ?_;refine⟨?_,hF.same⟩;simp_all[If];refine rn 7 ⟨λhc5=>?_,λhc5=>?_⟩;refine rn 6 ?_;refine⟨?_,hF.same⟩;simp_all[If];refine rn 7 ⟨λhc6=>?_,λhc6=>?_⟩;refine rn 6 ?_;refine⟨?_,hF.same⟩;simp_all[If];refine rn 9 ?_;refine⟨?_,hF.same⟩;simp_all[If]
def St(r:Nat):Str:=if If r≠0 then [92,UInt8.ofNat (If r).toNat] else if 32<=r then Od r else [92,117]++Lib.repeatL [48] (4-aL (Um r))++Um r
def L3:Nat->Str->Nat->Str
  | 0,_,_=>[]
  | f+1,s,p=>if p<aL s then St (Utf8.decode (bs s) p).1++L3 f s (p+(Utf8.decode (bs s) p).2) else []
theorem QP:∀(f g:Nat)(s:Str)(p:Nat),aL s-p<=f->aL s-p<=g->L3 f s p=L3 g s p
  | 0,0,_,_,_,_=>rfl
  | 0,g+1,s,p,h,_=>by rw[L3,L3,tQ Aa]
  | f+1,0,s,p,_,h=>by rw[L3,L3,tQ Aa]
  | f + 1, g + 1, s, p, h1, h2 => by
    rw[L3,L3];split
    ·have h3 := Pd s p
     rw[QP f g s _ Aa Aa]
    rfl
def Hs(s:Str)(p:Nat):Str:=L3 (aL s-p) s p
def Xn{s:Str}{p:Nat}(h:p<aL s):Hs s p=St (Utf8.decode (bs s) p).1++Hs s (p+(Utf8.decode (bs s) p).2):=by
  have h3:=Pd s p;obtain⟨f,hf⟩:∃f,aL s-p=f+1:=⟨aL s-p-1,Aa⟩;rw[Hs,hf,L3,uQ h,Hs,QP f (aL s-(p+(Utf8.decode (bs s) p).2)) s _ Aa Aa]
theorem Y0{s:Str}{p:Nat}(h:¬p<aL s):Hs s p=[]:=by
  have e:aL s-p=0:=Aa
  rw[Hs,e,L3]
def Pv(s:Str):Str:=[34]++Hs s 0++[34]
theorem Zu(r:Int):0<=If r/\If r<256:=by grind [If]
theorem Dm(r:Nat):1<=aL (Um r)/\aL (Um r)<=2:=by grind [Um]
theorem Gr(n:Nat):aL (Lib.repeatL [48] n)=n:=by
  induction n with
  | zero=>rfl
  | succ n ih =>
    simp[Lib.repeatL,ih]
    try omega
theorem Xo(r:Nat):aL (St r)<=6:=by grind [St,Cd,Dm,Gr]
def Ag{w0:World}{B pb T:Nat}{rest:List Value}{s:Str}(hB:Bd w0 B pb T rest s)(z:Int)(h0:0<=z)(h1:z<256)(hl:aL s+1<=140737488355328):Qw 226 #[V pb,.int .u8 z] .nilIface w0 B pb T rest (s++[UInt8.ofNat z.toNat]):=by
  have h:=Ap hB (UInt8.ofNat z.toNat) hl;have e:(((UInt8.ofNat z.toNat).toNat:Nat):Int)=z:=by simp only[UInt8.toNat_ofNat'];omega
  rwa [e]at h
def quote_c(w0:World)(hG:Gl w0)(s:Str)(hl:aL s<=17592186044416):Calls prog 225 #[I s] w0 (Za λv w'=>v=(if Lib.validD s=true then .tuple #[I (Pv s),J 0] else .tuple #[I [],J 2])/\Same [] w0 w'):=by
 refine Ea func225 ntmps225 ?_;intro hF;refine rn 10<|Xb (AE s Aa _<|hG.ext hF.same) (Df en_78 O O) ?_;rintro _ w ⟨n0,rfl,hE⟩;have hF:=hF.ext hE;refine rn 14 ⟨λhc0=>?_,λhc0=>?_⟩;refine rn 6<|Rf<|Yd λ_ hr=>Nc (UZ (v:=I []) (x:=J 2) hr O O) ?_;exact⟨by rw[tQ (aS hc0)],hF.same⟩;refine rn 4<|Wm (cs:=#[.pointer none,aQ]) hF zeroValue123 O ?_;rintro b1 w hb1 hF -;refine rn 4 ?_;have hBn:BW w0 [] w b1 b1 123 [] []:=BW.own ⟨.inl ⟨rfl,rfl⟩,gQ _,_,_,hF.heap (i:=0) rfl,World.ownsRow_nil _ _ _ _,.inl rfl⟩ (hF.ge (i:=0) rfl) hF.same.size;have hB:=hBn;have hF:=hF.drop 1;have hF:FR w0 [] [] w:=hF;have ho:(0:Nat)<=0/\aL ([]:Str)<=0:=Da
 refine Xb (Ag hB.bd (34) Aa Aa Da) (Zd E1 O O O) ?_;rintro _ w ⟨rfl,hBd,hE⟩;have hF:=hF.wrote hB hE Da;have hB:=hB.wrote hBd hE;clear hBd hE;refine rn 6<|Zp (str:=s) hF jX O ?_;intro b2 w hb2 hF hE;have nb2:b2≠b1:=by have:=hB.lt;omega
 have hB:=hB.ext hE;refine rn 3<|Sa (λμ σ w=>∃(q:Nat),∃(o:Str),μ=aL s-q/\(o++Hs s q=[34]++Hs s 0)/\(aL o<=1+6*q/\aL o<=1+6*aL s)/\(BW w0 [] w b1 b1 123 [] o)/\AllEq σ [(6,V b1),(20,V b2)]/\FR w0 [] [(b2,.stringIter (bs s) q)] w) _ ⟨0,[34],O,O,Da,hB,ae2,hF⟩ ?_;rintro μ σ w ⟨q,o,rfl,hq,ho,hB,hzz,hF⟩;have hr2:Bt w b2=false:=by rw[It<|hF.heap (i:=0) rfl];rfl
 refine Wf hzz 2 ?_;by_cases hn0:(q)<aL (s:Str);refine Au 0 (p:=q) (str:=s) hF O O hn0 ?_;intro w hF hE;have hB:=hB.step hE (aS nb2.symm) (aS hr2) (by simp[It<|hF.heap (i:=0) rfl,Yi]);refine rn 18<|Xb (letter_c _ (((Utf8.decode (bs s) q).1:Nat):Int)) (Df en_257 O O) ?_;rintro _ w ⟨rfl,hE⟩;have hF:=hF.ext hE;have hB:=hB.ext hE;refine rn 10 ⟨λhc2=>?_,λhc2=>?_⟩;refine rn 2 ?_;refine Xb (Ag hB.bd (92) Aa Aa jD) (Zd E1 O O O) ?_;rintro _ w ⟨rfl,hBd,hE⟩;have hF:=hF.wrote hB hE wS;have hB:=hB.wrote hBd hE;clear hBd hE;refine rn 5 ?_;refine Xb (Ag hB.bd (If (((Utf8.decode (bs s) q).1:Nat):Int)) (Zu _).1 (Zu _).2 jD) (Zd E1 O O O) ?_;rintro _ w ⟨rfl,hBd,hE⟩;have hF:=hF.wrote hB hE wS;have hB:=hB.wrote hBd hE;have e1:o++[UInt8.ofNat (92:Int).toNat]++[UInt8.ofNat (If (((Utf8.decode (bs s) q).1:Nat):Int)).toNat]=o++St (Utf8.decode (bs s) q).1:=by rw[St,uQ (aS hc2)];simp
 rw[e1]at hB;clear hBd hE;refine rn 3 ?_;have h1:=Pd s q;refine Ha ⟨_,?_,q+(Utf8.decode (bs s) q).2,o++St (Utf8.decode (bs s) q).1,O,by rw[sQ,<-Xn Aa];exact hq,jM,hB,ae2,hF⟩;omega;refine rn 10 ⟨λhc3=>?_,λhc3=>?_⟩;refine rn 3 ?_;refine Xb (E3 hB.bd (((Utf8.decode (bs s) q).1:Nat):Int) Aa (by have:=Lib.rune_le (bs s) q;omega) jD) (Zd en_258 O O O) ?_;rintro _ w ⟨rfl,hBd,hE⟩;have hF:=hF.wrote hB hE wS;have hB:=hB.wrote hBd hE;have e1:o++Od (((Utf8.decode (bs s) q).1:Nat):Int)=o++St (Utf8.decode (bs s) q).1:=by rw[St,tQ (aS hc2),uQ Aa]
 rw[e1]at hB;clear hBd hE;refine rn 3 ?_;have h1:=Pd s q;refine Ha ⟨_,?_,q+(Utf8.decode (bs s) q).2,o++St (Utf8.decode (bs s) q).1,O,by rw[sQ,<-Xn Aa];exact hq,jM,hB,ae2,hF⟩;omega;refine rn 5<|Ba (v:=J<|(((Utf8.decode (bs s) q).1:Nat):Int)) (Qb bX underlying2 O<|Ge Aa Aa) ?_;refine Xb (hex_c _ (hG.ext hF.same) (Utf8.decode (bs s) q).1 Aa) (Zd en_259 O O O) ?_;rintro _ w ⟨rfl,hE⟩;have hF:=hF.ext hE;have hB:=hB.ext hE;refine rn 6 ?_;refine Ba (v:=J<|((4-aL (Um (Utf8.decode (bs s) q).1):Nat):Int)) (Ho O O (have:=Dm (Utf8.decode (bs s) q).1;Gd Aa Aa Aa)) ?_;refine Xb (W9 ((4-aL (Um (Utf8.decode (bs s) q).1):Nat):Int) Aa Aa _) (Zd NM O O O) ?_;rintro _ w ⟨rfl,hE⟩;have hF:=hF.ext hE;have hB:=hB.ext hE;refine Ba (v:=I<|([92,117])++(Lib.repeatL [48]<|4-aL (Um (Utf8.decode (bs s) q).1))) (Gf O O (by have:=Dm (Utf8.decode (bs s) q).1;simp[Gr];omega)) ?_;refine rn 1 ?_;refine Ba (v:=I<|(([92,117])++(Lib.repeatL [48]<|4-aL (Um (Utf8.decode (bs s) q).1)))++(Um (Utf8.decode (bs s) q).1)) (Gf O O (by have:=Dm (Utf8.decode (bs s) q).1;simp[Gr];omega)) ?_;refine Xb (Fj hB.bd _ (by have:=Dm (Utf8.decode (bs s) q).1;have h1:=ho.1;have h2:=ho.2;simp[Gr];omega)) (Zd FN O O O) ?_;rintro _ w ⟨rfl,hBd,hE⟩;have hF:=hF.wrote hB hE wS;have hB:=hB.wrote hBd hE;have e1:o++((([92,117])++(Lib.repeatL [48]<|4-aL (Um (Utf8.decode (bs s) q).1)))++(Um (Utf8.decode (bs s) q).1))=o++St (Utf8.decode (bs s) q).1:=by rw[St,tQ (aS hc2),tQ Aa]
 rw[e1]at hB;clear hBd hE;refine rn 2 ?_;have h1:=Pd s q;refine Ha ⟨_,?_,q+(Utf8.decode (bs s) q).2,o++St (Utf8.decode (bs s) q).1,O,by rw[sQ,<-Xn Aa];exact hq,jM,hB,ae2,hF⟩;omega;refine Ol 0 (p:=q) (str:=s) hF O O hn0<|rn 9 ?_;refine Xb (Ag hB.bd (34) Aa Aa jD) (Zd E1 O O O) ?_;rintro _ w ⟨rfl,hBd,hE⟩;have hF:=hF.wrote hB hE wS;have hB:=hB.wrote hBd hE;clear hBd hE;refine rn 4<|Xb (E6 hB.bd Da) (Df en_106 O O) ?_;rintro _ w ⟨rfl,hE⟩;have hF:=hF.wrote hB hE wS;refine rn 4<|Rf<|Yd λ_ hr=>Nc (UZ (v:=I<|o++[34]) (x:=J 0) hr O O) ?_;refine⟨?_,hF.same⟩;rw[uQ (aS hc0),Pv,<-hq,Y0 Aa,qQ]
def Lf(m:Bool)(ind d:Nat):Str:=if m then [10]++Lib.repeatL [32] (ind*d) else []
def qS(t:Str):Str:=if Lib.validD t=true then Pv t else []
theorem Ft(c:UInt8)(n:Nat):aL (Lib.repeatL [c] n)=n:=by
  induction n with
  | zero=>rfl
  | succ n ih =>
    simp[Lib.repeatL,ih]
    try omega
theorem Zw(m:Bool)(ind d:Nat):aL (Lf m ind d)<=1+ind*d:=by grind [Lf,Ft]
theorem YD(s:Str)(p:Nat):aL (Hs s p)<=6*(aL s-p):=by
  induction h:aL s-p using Nat.strongRecOn generalizing p with
  | ind n ih =>
    by_cases hp:p<aL s
    ·rw[Xn hp, dQ]
     have h1:=Xo (Utf8.decode (bs s) p).1;have h2:=Pd s p;grind
    grind [Y0]
theorem Vz(s:Str):aL (qS s)<=6*aL s+2:=by grind [qS,YD,Pv]
def UX(t:Str)(c:Nat)(h1:c<=9223372036854775807)(h2:aL t*c<=140737488355328)(w:World):Calls prog 254 #[I t,J (c:Int)] w (Za λv w'=>v=I (Lib.repeatL t c)/\Same [] w w'):=by
  have h:=strings_Repeat (bs t) c w h1 (by rw[Pl];exact h2);exact Pu h
def WZ(t:Str)(hl:aL t<=17592186044416)(w0:World)(hG:Gl w0):Calls prog 225 #[I t] w0 (Za λv w'=>v=.tuple #[I (qS t),J (if Lib.validD t=true then 0 else 2)]/\Same [] w0 w'):=by
  refine Gg (quote_c w0 hG t hl) λv w' ⟨h1,h2⟩=>⟨?_,h2⟩;rw[h1,qS];split <;> rfl
def Bd.mul{w:World}{B pb T:Nat}{ind:Int}{s:Str}(h:Bd w B pb T [.bool m,J ind] s):w.cell? ⟨pb,2,none⟩=some (.bool m):=by
  obtain⟨ap,v,hh,-⟩:=h.ex;rw[Db hh];rfl
def Bd.ind{w:World}{B pb T:Nat}{ind:Int}{s:Str}(h:Bd w B pb T [.bool m,J ind] s):w.cell? ⟨pb,3,none⟩=some (J ind):=by
  obtain⟨ap,v,hh,-⟩:=h.ex;rw[Db hh];rfl
def Gl.wrote{w0 w:World}{B pb:Nat}(h:Gl w0)(hs:Same (Wk w0 B pb) w0 w)(hb:8<=B)(hp:B<=pb):Gl w:=h.same hs λx hx=>by
  rcases Ff.1 hx with rfl|⟨-,h1,-⟩ <;> omega
def XK(w0:World)(B pb:Nat)(m:Bool)(ind:Nat)(s:Str)(hBd:Bd w0 B pb 125 [.bool m,J (ind:Int)] s)(d:Nat)(hd:ind*d<=1000000000)(hl:aL s+aL (Lf m ind d)<=140737488355328):Qw 227 #[V pb,J (d:Int)] (.tuple #[]) w0 B pb 125 [.bool m,J (ind:Int)] (s++Lf m ind d):=by
 unfold Qw;refine Lb func227 ntmps227 O O ?_;have hB:=BW.start hBd;have hF:=FR.start w0<|Wk w0 B pb;refine rn 5<|Ba (v:=.bool m) (Xa isAgg4 hB.bd.mul) ?_;refine rn 3 ⟨λhc0=>?_,λhc0=>?_⟩;rw[Lf,uQ hc0]at hl;simp only[dQ,kQ,cZ,Ft]at hl;refine rn 5<|Xb (Ag hB.bd 10 Ja Ja Aa) (Zd E1 O O O) ?_;rintro _ w ⟨rfl,hBd,hE⟩;have hF:=hF.wrote hB hE Da;have hB:=hB.wrote hBd hE;clear hBd hE;refine rn 2<|Gb (.of []) (bQ [0,1,2,3,4,5,6,7,8]<|.act 9<|.act 10 .nil) hF ?_;intro w hF hE;have hB:=hB.ext hE;refine⟨λwq=>FR w0 (Wk w0 B pb) _ wq/\∃s',Bd wq B pb 125 [.bool m,J (ind:Int)] s',⟨hF,⟨_,hB.bd⟩⟩,?_⟩;refine rn 6 ?_;refine Ga rfl (v:=J<|(ind:Int)) (λw hC=>Xa pZ (hx:=rfl) (by obtain⟨-,s_,hs_⟩:=hC;exact hs_.ind)) ?_;refine rn 1<|Ga O (v:=J<|((ind*d:Nat):Int)) (λw hC=>Ro O O<|Gd (by rw[Int.natCast_mul]) Aa Aa) ?_;refine Nr O (UX [32] (ind*d) Aa qM _) (Zd NM O O O) ?_;rintro _ w ⟨rfl,hE⟩;have hF:=hF.ext hE;have hB:=hB.ext hE;refine⟨⟨hF,⟨_,hB.bd⟩⟩,?_⟩;refine Nr O (Fj hB.bd (Lib.repeatL [32]<|ind*d) (by simp[Ft];omega)) (Zd FN O O O) ?_;rintro _ w ⟨rfl,hBd,hE⟩;have hF:=hF.wrote hB hE Da;have hB:=hB.wrote hBd hE;clear hBd hE;refine⟨⟨hF,⟨_,hB.bd⟩⟩,?_⟩;refine rn 2 ?_;exact⟨O,by simpa[Lf,hc0]using hB.bd,hF.same⟩;refine rn 2 ?_;exact⟨O,by simpa[Lf,hc0]using hB.bd,hF.same⟩
def EA(w0:World)(B pb:Nat)(m:Bool)(ind:Nat)(s:Str)(hBd:Bd w0 B pb 125 [.bool m,J (ind:Int)] s)(hG:Gl w0)(h8:8<=B)(t:Str)(ht:aL t<=17592186044416)(hl:aL s+aL (qS t)<=140737488355328):Qw 164 #[V pb,I t] (.tuple #[]) w0 B pb 125 [.bool m,J (ind:Int)] (s++qS t):=by
 unfold Qw;refine Lb func164 ntmps164 O O ?_;have hB:=BW.start hBd;have hF:=FR.start w0<|Wk w0 B pb;refine rn 3<|Ia (WZ t ht _<|(hG.wrote hF.same h8 hBd.le)) ?_;intro w hF hE;have hB:=hB.ext hE;refine rn 12<|Fc (Fj hB.bd (qS t) Aa) ?_;rintro _ w ⟨rfl,hBd,hE⟩;have hF:=hF.wrote hB hE Da;have hB:=hB.wrote hBd hE;clear hBd hE;refine rn 2 ?_;exact⟨O,hB.bd,hF.same⟩
def Zg(m:Bool)(ind d:Nat):Bool->List Str->Str
  | _,[]=>[]
  | first,p::ps=>(if first then [] else [44])++(Lf m ind (d+1)++(p++Zg m ind d false ps))
def Nm(m:Bool)(ind d:Nat)(o c:UInt8)(ps:List Str):Str:=[o]++(Zg m ind d true ps++((if ps=[] then [] else Lf m ind d)++[c]))
mutual
def Ve(m:Bool)(ind:Nat):Tree->Nat->Str
  | .node k t ks xs,d=>if k=1 then [110,117,108,108] else if k=4 then qS t else if k=5 then Nm m ind d 91 93 (Gp m ind xs (d+1)) else if k=6 then Nm m ind d 123 125 (Hl m ind xs ks (d+1)) else t
def Gp(m:Bool)(ind:Nat):List Tree->Nat->List Str
  | [],_=>[]
  | x::xs,d=>Ve m ind x d::Gp m ind xs d
def Hl(m:Bool)(ind:Nat):List Tree->List Str->Nat->List Str
  | [],_,_=>[]
  | x::xs,ks,d=>(qS (ks.headD [])++([58]++((if m then [32] else [])++Ve m ind x d)))::Hl m ind xs ks.tail d
end
theorem Re:∀{xs:List Tree}{x:Tree},x∈xs->Nb x<=Ac xs
  | y :: ys, x, h => by
    rw[Ac];rcases oQ.1 h with rfl|h
    ·omega
    have:=Re h;omega
theorem Aq(m:Bool)(ind d:Nat):∀xs,Gp m ind xs d=xs.map (λx=>Ve m ind x d)
  | []=>by simp[Gp]
  | x::xs=>by simp[Gp,Aq m ind d xs]
def DJ(m:Bool)(ind d:Nat)(k:Str)(x:Tree):Str:=qS k++([58]++((if m then [32] else [])++Ve m ind x d))
theorem Rm(m:Bool)(ind d:Nat):∀xs ks,aL (Hl m ind xs ks d)=aL xs
  | [],ks=>by simp[Hl]
  | x::xs,ks=>by simp[Hl,Rm m ind d xs ks.tail]
theorem S0(m:Bool)(ind d:Nat):∀(xs:List Tree)(ks:List Str)(j:Nat)(h:j<aL xs)(hk:j<aL ks)(h':j<aL (Hl m ind xs ks d)),(Hl m ind xs ks d)[j]=DJ m ind d ks[j] xs[j]
  | x::xs,k::ks,0,_,_,_=>by simp[Hl,DJ]
  | x :: xs, k :: ks, j + 1, h, hk, h' => by
    simp only[Hl,List.tail_cons,List.getElem_cons_succ];exact S0 m ind d xs ks j (aS h) (aS hk) (by simpa[Hl]using h')
def PT(m:Bool)(ind d:Nat){ps:List Str}{j:Nat}(h:j<aL ps):Zg m ind d (decide (j=0)) (ps.drop j)=(if j=0 then [] else [44])++(Lf m ind (d+1)++(ps[j]++Zg m ind d (decide (j+1=0)) (ps.drop (j+1)))):=by
  rw[List.drop_eq_getElem_cons h,Zg];simp
mutual
def BR:Tree->Prop|.node _ t ks xs=>aL t<=17592186044416/\(∀k∈ks,aL k<=17592186044416)/\QK xs
def QK:List Tree->Prop|[]=>True|x::xs=>BR x/\QK xs
end
theorem Tx:∀{xs:List Tree},QK xs->∀x∈xs,BR x
  | [],_,_,h=>absurd h Da
  | y :: ys, h, x, hx => by
    rw[QK]at h;rcases oQ.1 hx with rfl|hx
    ·exact h.1
    exact Tx h.2 x hx
def ValC(x:Tree):Prop:=∀(m:Bool)(ind d:Nat)(w0:World)(B pb:Nat)(s:Str)(cs:List Value),Bd w0 B pb 125 [.bool m,J (ind:Int)] s->Gl w0->8<=B->Rep (λb=>b∉Wk w0 B pb) w0 (Na x) cs->BR x->Uc nodeB x=true ->
  ind*(d+Nb x)<=1000000000->d+Nb x<=1000000000->aL s+aL (Ve m ind x d)<=140737488355328->Qw 105 #[V pb,.agg cs.toArray,J (d:Int)] (.tuple #[]) w0 B pb 125 [.bool m,J (ind:Int)] (s++Ve m ind x d)
def ItemC(f:Nat)(k:Int)(t:Str)(ks:List Str)(xs:List Tree)(m:Bool)(ind d:Nat)(ps:List Str):Prop:=∀(j:Nat)(hj:j<aL ps)(w0:World)(B pb:Nat)(s:Str)(A B':Option Addr)(c e:Nat),Bd w0 B pb 125 [.bool m,J (ind:Int)] s->Gl w0->8<=B ->
  Rep (λb=>b∉Wk w0 B pb) w0 (Na (.node k t ks xs)) [J k,I t,.slice A (aL ks) c,.slice B' (aL xs) e]->aL s+aL ps[j]<=140737488355328 ->
  Qw f #[V pb,.agg #[J k,I t,.slice A (aL ks) c,.slice B' (aL xs) e],J (j:Int),J (d:Int)] (.tuple #[]) w0 B pb 125 [.bool m,J (ind:Int)] (s++ps[j])
def item_c(k:Int)(t:Str)(ks:List Str)(xs:List Tree)(m:Bool)(ind d:Nat)(j:Nat)(hj:j<aL xs)(w0:World)(B pb:Nat)(s:Str)(A B_:Option Addr)(c e:Nat)(hBd:Bd w0 B pb 125 [.bool m,J (ind:Int)] s)(hG:Gl w0)(h8:8<=B)(hX:Rep (λb=>b∉Wk w0 B pb) w0 (Na (.node k t ks xs)) [J k,I t,.slice A (aL ks) c,.slice B_ (aL xs) e])(hv:∀x∈xs,ValC x)(hok:BR (.node k t ks xs))(hn:Uc nodeB (.node k t ks xs)=true)(hd:ind*(d+Ac xs)<=1000000000)(hd2:d+Ac xs<=1000000000)(hl:aL s+aL (Ve m ind xs[j] d)<=140737488355328):Qw 166 #[V pb,.agg #[J k,I t,.slice A (aL ks) c,.slice B_ (aL xs) e],J (j:Int),J (d:Int)] (.tuple #[]) w0 B pb 125 [.bool m,J (ind:Int)] (s++Ve m ind xs[j] d):=by
 unfold Qw;rw[BR]at hok;refine Lb func166 ntmps166 O O ?_;have hB:=BW.start hBd;have hF:=FR.start w0<|Wk w0 B pb;refine rn 3 ?_;intro b1 w hb1 hF hE;have nb1:b1≠pb:=by have:=hB.lt;omega
 have hX:=hX.off_ext hB.lt hE;have hB:=hB.ext hE;refine rn 7 ?_;obtain⟨A_,c_,B__,e_,heq_,-,-,hK_,hXs_⟩:=hX.tree_inv;simp only[List.cons.injEq,Value.slice.injEq,true_and,and_true]at heq_;obtain⟨⟨rfl,rfl⟩,rfl,rfl⟩:=heq_;obtain⟨ad0,cs0,hA0,hl0,hk0,hx0⟩:=hXs_.tree_elem (i:=j) Aa;have ho0:=hx0.one_;refine Ba (v:=.pointer<|some<|ad0.add<|j*4) (Ca (i:=(j:Int)) Fd hA0)<|Ba (v:=.agg<|List.toArray cs0) (Ma (l:=cs0) qZ uZ O hl0 hk0) ?_;refine rn 1 ?_;refine Fc (hv xs[j] (eQ hj) m ind d _ B pb s _ hB.bd (hG.wrote hF.same h8 hBd.le) h8 hx0 (Tx hok.2.2 _<|eQ hj) ((Xe hn).2 _ (eQ hj)) jH (by have h1:=Re<|eQ hj;omega) hl) ?_;rintro _ w ⟨rfl,hBd2,hE⟩;have hF:=hF.wrote hB hE qG;have hX:=hX.off hE;have hB:=hB.wrote hBd2 hE;clear hBd2 hE;refine rn 2 ?_;exact⟨O,hB.bd,hF.same⟩
def member_c(k:Int)(t:Str)(ks:List Str)(xs:List Tree)(m:Bool)(ind d:Nat)(j:Nat)(hj:j<aL xs)(hjk:j<aL ks)(w0:World)(B pb:Nat)(s:Str)(A B_:Option Addr)(c e:Nat)(hBd:Bd w0 B pb 125 [.bool m,J (ind:Int)] s)(hG:Gl w0)(h8:8<=B)(hX:Rep (λb=>b∉Wk w0 B pb) w0 (Na (.node k t ks xs)) [J k,I t,.slice A (aL ks) c,.slice B_ (aL xs) e])(hv:∀x∈xs,ValC x)(hok:BR (.node k t ks xs))(hn:Uc nodeB (.node k t ks xs)=true)(hd:ind*(d+Ac xs)<=1000000000)(hd2:d+Ac xs<=1000000000)(hl:aL s+aL (DJ m ind d ks[j] xs[j])<=140737488355328):Qw 167 #[V pb,.agg #[J k,I t,.slice A (aL ks) c,.slice B_ (aL xs) e],J (j:Int),J (d:Int)] (.tuple #[]) w0 B pb 125 [.bool m,J (ind:Int)] (s++DJ m ind d ks[j] xs[j]):=by
 unfold Qw;rw[BR]at hok;rw[DJ]at hl;simp only[dQ,kQ,cZ]at hl;refine Lb func167 ntmps167 O O ?_;have hB:=BW.start hBd;have hF:=FR.start w0<|Wk w0 B pb;refine rn 3 ?_;intro b1 w hb1 hF hE;have nb1:b1≠pb:=by have:=hB.lt;omega
 have hX:=hX.off_ext hB.lt hE;have hB:=hB.ext hE;refine rn 8 ?_;obtain⟨A_,c_,B__,e_,heq_,-,-,hK_,hXs_⟩:=hX.tree_inv;simp only[List.cons.injEq,Value.slice.injEq,true_and,and_true]at heq_;obtain⟨⟨rfl,rfl⟩,rfl,rfl⟩:=heq_;obtain⟨ad0,hA0,hk0,hx0⟩:=hK_.str_elem (i:=j) Aa;refine Ba (v:=.pointer<|some<|ad0.add<|j*1) (Ca (i:=(j:Int)) Ii hA0)<|Ba (v:=I<|ks[j]) (Xa sZ hk0) ?_;refine Fc (EA _ B pb m ind s hB.bd (hG.wrote hF.same h8 hBd.le) h8 ks[j] (hok.2.1 _<|eQ hjk) Aa) ?_;rintro _ w ⟨rfl,hBd2,hE⟩;have hF:=hF.wrote hB hE qG;have hX:=hX.off hE;have hB:=hB.wrote hBd2 hE;clear hBd2 hE;refine rn 7 ?_;refine Fc (Ag hB.bd 58 Ja Ja (by rw[dQ];omega)) ?_;rintro _ w ⟨rfl,hBd2,hE⟩;have hF:=hF.wrote hB hE qG;have hX:=hX.off hE;have hB:=hB.wrote hBd2 hE;clear hBd2 hE;refine rn 8<|Ba (v:=.bool m) (Xa isAgg4 hB.bd.mul) ?_;refine rn 3 ⟨λhc0=>?_,λhc0=>?_⟩;refine rn 4 ?_;refine Fc (Ag hB.bd 32 Ja Ja zR) ?_;rintro _ w ⟨rfl,hBd2,hE⟩;have hF:=hF.wrote hB hE qG;have hX:=hX.off hE;have hB:=hB.wrote hBd2 hE;clear hBd2 hE;refine rn 7 ?_;obtain⟨A_,c_,B__,e_,heq_,-,-,hK_,hXs_⟩:=hX.tree_inv;simp only[List.cons.injEq,Value.slice.injEq,true_and,and_true]at heq_;obtain⟨⟨rfl,rfl⟩,rfl,rfl⟩:=heq_;obtain⟨ad1,cs1,hA1,hl1,hk1,hx1⟩:=hXs_.tree_elem (i:=j) Aa;have ho1:=hx1.one_;refine Ba (v:=.pointer<|some<|ad1.add<|j*4) (Ca (i:=(j:Int)) Fd hA1)<|Ba (v:=.agg<|List.toArray cs1) (Ma (l:=cs1) qZ uZ O hl1 hk1) ?_;refine rn 1 ?_;refine Fc (hv xs[j] (eQ hj) m ind d _ B pb _ _ hB.bd (hG.wrote hF.same h8 hBd.le) h8 hx1 (Tx hok.2.2 _<|eQ hj) ((Xe hn).2 _ (eQ hj)) jH (by have h1:=Re<|eQ hj;omega) zR) ?_
 rintro _ w ⟨rfl,hBd2,hE⟩;have hF:=hF.wrote hB hE qG;have hX:=hX.off hE;have hB:=hB.wrote hBd2 hE;clear hBd2 hE;refine rn 2 ?_;exact⟨O,by simpa[DJ,hc0]using hB.bd,hF.same⟩;refine rn 7 ?_;obtain⟨A_,c_,B__,e_,heq_,-,-,hK_,hXs_⟩:=hX.tree_inv;simp only[List.cons.injEq,Value.slice.injEq,true_and,and_true]at heq_;obtain⟨⟨rfl,rfl⟩,rfl,rfl⟩:=heq_;obtain⟨ad2,cs2,hA2,hl2,hk2,hx2⟩:=hXs_.tree_elem (i:=j) Aa;have ho2:=hx2.one_;refine Ba (v:=.pointer<|some<|ad2.add<|j*4) (Ca (i:=(j:Int)) Fd hA2)<|Ba (v:=.agg<|List.toArray cs2) (Ma (l:=cs2) qZ uZ O hl2 hk2) ?_;refine rn 1 ?_;refine Fc (hv xs[j] (eQ hj) m ind d _ B pb _ _ hB.bd (hG.wrote hF.same h8 hBd.le) h8 hx2 (Tx hok.2.2 _<|eQ hj) ((Xe hn).2 _ (eQ hj)) jH (by have h1:=Re<|eQ hj;omega) zR) ?_;rintro _ w ⟨rfl,hBd2,hE⟩;have hF:=hF.wrote hB hE qG;have hX:=hX.off hE;have hB:=hB.wrote hBd2 hE;clear hBd2 hE;refine rn 2 ?_;exact⟨O,by simpa[DJ,hc0]using hB.bd,hF.same⟩
def TT(m:Bool)(ind d:Nat)(b:Bool):Zg m ind d b []=[]:=by cases b <;> rfl
def OR(f:Nat)(hen:Fa prog f)(k:Int)(t:Str)(ks:List Str)(xs:List Tree)(m:Bool)(ind d:Nat)(bo bc:UInt8)(ps:List Str)(hps:aL ps=aL xs)(hI:ItemC f k t ks xs m ind (d+1) ps)(w0:World)(B pb:Nat)(s:Str)(A B_:Option Addr)(c e:Nat)(hBd:Bd w0 B pb 125 [.bool m,J (ind:Int)] s)(hG:Gl w0)(h8:8<=B)(hX:Rep (λb=>b∉Wk w0 B pb) w0 (Na (.node k t ks xs)) [J k,I t,.slice A (aL ks) c,.slice B_ (aL xs) e])(hd1:ind*(d+1)<=1000000000)(hd2:d+1<=1000000000)(hxl:aL xs<=9223372036854775807)(hlim:aL s+aL (Nm m ind d bo bc ps)<=140737488355328):Qw 165 #[V pb,.agg #[J k,I t,.slice A (aL ks) c,.slice B_ (aL xs) e],J (d:Int),I [bo,bc],.func (.func f) #[V pb] #[]] (.tuple #[]) w0 B pb 125 [.bool m,J (ind:Int)] (s++Nm m ind d bo bc ps):=by
 unfold Qw;rw[Nm]at hlim;simp only[dQ,kQ,cZ]at hlim;refine Lb func165 ntmps165 O O ?_;have hB:=BW.start hBd;have hF:=FR.start w0<|Wk w0 B pb;refine rn 3 ?_;intro b1 w hb1 hF hE;have nb1:b1≠pb:=by have:=hB.lt;omega
 have hX:=hX.off_ext hB.lt hE;have hB:=hB.ext hE;refine rn 3<|Gb (.of []) (bQ [0,1,2,3,4]<|.act 5 .nil) hF ?_;intro w hF hE;have hX:=hX.off_ext hB.lt hE;have hB:=hB.ext hE;refine⟨λwq=>FR w0 (Wk w0 B pb) _ wq,hF,?_⟩;refine rn 4<|Ga O (v:=.int .u8<|((bo.toNat:Nat):Int)) (λw hC=>Cb (s:=[bo,bc]) 0 jX O O Da) ?_;refine Lk (Ap hB.bd bo Aa) ?_;rintro _ w ⟨rfl,hBd2,hE⟩;have hF:=hF.wrote hB hE qG;have hX:=hX.off hE;have hB:=hB.wrote hBd2 hE;clear hBd2 hE;refine⟨hF,?_⟩;refine rn 12<|Sa (λμ σ w=>∃(j:Nat),∃(o:Str),μ=aL xs-j/\(j<=aL xs)/\(o++Zg m ind d (decide (j=0)) (ps.drop j)=s++([bo]++Zg m ind d true ps))/\(BW w0 (Wk w0 B pb) w B pb 125 [.bool m,J (ind:Int)] o)/\(Rep (λb=>b∉Wk w B pb) w (Na<|.node k t ks xs) [J k,I t,.slice A (aL ks) c,.slice B_ (aL xs) e])/\AllEq σ [(0,V pb),(2,J<|(d:Int)),(3,I<|[bo,bc]),(4,.func (.func f) #[V pb] #[]),(6,V b1),(19,J<|(aL xs:Nat)),(20,J<|(j:Int))]/\FR w0 (Wk w0 B pb) [(b1,.cells #[J k,I t,.slice A (aL ks) c,.slice B_ (aL xs) e] 36)] w) _ ⟨0,s++[bo],O,dZ _,Da,hB,hX,Va,hF⟩ ?_;rintro μ σ w ⟨j,o,rfl,hj,hq,hB,hX,hzz,hF⟩;refine Wf hzz 7 ⟨λhc0=>?_,λhc0=>?_⟩;have hjp:j<aL ps:=Aa
 have hjd:=PT m ind d hjp;have hL:=yQ List.length hq;rw[hjd]at hL;have hif:aL (if j=0 then ([]:Str) else [44])=if j=0 then 0 else 1:=by split <;> rfl
 simp only[dQ,kQ,cZ,hif]at hL;refine rn 18 ⟨λhc1=>?_,λhc1=>?_⟩;refine rn 4 ?_;refine Fc (Ag hB.bd 44 Ja Ja (by rw[tQ Aa]at hL;omega)) ?_;rintro _ w ⟨rfl,hBd2,hE⟩;have hF:=hF.wrote hB hE qG;have hX:=hX.off hE;have hB:=hB.wrote hBd2 hE;clear hBd2 hE;refine rn 6<|Zb (Wd<|((d+1:Nat):Int)) ?_;refine Fc (XK _ B pb m ind _ hB.bd (d+1) hd1 zV) ?_;rintro _ w ⟨rfl,hBd2,hE⟩;have hF:=hF.wrote hB hE qG;have hX:=hX.off hE;have hB:=hB.wrote hBd2 hE;clear hBd2 hE;refine rn 7<|Zb (Wd<|((d+1:Nat):Int)) ?_;refine Xb (hI j hjp _ B pb _ A B_ c e hB.bd (hG.wrote hF.same h8 hBd.le) h8 hX zV) (KH rfl hen rfl rfl rfl rfl) ?_;rintro _ w ⟨rfl,hBd2,hE⟩;have hF:=hF.wrote hB hE qG;have hX:=hX.off hE;have hB:=hB.wrote hBd2 hE;clear hBd2 hE;have hB:BW w0 (Wk w0 B pb) w B pb 125 [.bool m,J (ind:Int)] (o++((if j=0 then [] else [44])++(Lf m ind (d+1)++ps[j]))):=by first|(have h0:¬j=0:=Aa;rw[tQ h0];simpa using hB)|(have h0:j=0:=Aa;rw[uQ h0];simpa using hB)
 refine rn 4<|Zb Uh ?_;refine rn 2 ?_;refine Ha ⟨_,?_,j+1,o++((if j=0 then [] else [44])++(Lf m ind (d+1)++ps[j])),O,Aa,(by have h:=hq;rw[hjd]at h;simpa[sQ]using h),hB,hX,Va,hF⟩;omega;refine rn 6<|Zb (Wd<|((d+1:Nat):Int)) ?_;refine Fc (XK _ B pb m ind _ hB.bd (d+1) hd1 zV) ?_;rintro _ w ⟨rfl,hBd2,hE⟩;have hF:=hF.wrote hB hE qG;have hX:=hX.off hE;have hB:=hB.wrote hBd2 hE;clear hBd2 hE;refine rn 7<|Zb (Wd<|((d+1:Nat):Int)) ?_;refine Xb (hI j hjp _ B pb _ A B_ c e hB.bd (hG.wrote hF.same h8 hBd.le) h8 hX zV) (KH rfl hen rfl rfl rfl rfl) ?_;rintro _ w ⟨rfl,hBd2,hE⟩;have hF:=hF.wrote hB hE qG;have hX:=hX.off hE;have hB:=hB.wrote hBd2 hE;clear hBd2 hE;have hB:BW w0 (Wk w0 B pb) w B pb 125 [.bool m,J (ind:Int)] (o++((if j=0 then [] else [44])++(Lf m ind (d+1)++ps[j]))):=by first|(have h0:¬j=0:=Aa;rw[tQ h0];simpa using hB)|(have h0:j=0:=Aa;rw[uQ h0];simpa using hB)
 refine rn 4<|Zb Uh ?_;refine rn 2 ?_;refine Ha ⟨_,?_,j+1,o++((if j=0 then [] else [44])++(Lf m ind (d+1)++ps[j])),O,Aa,(by have h:=hq;rw[hjd]at h;simpa[sQ]using h),hB,hX,Va,hF⟩;omega;have hq2:o=s++([bo]++Zg m ind d true ps):=by have h:=hq;rw[List.drop_eq_nil_of_le Aa,TT,qQ]at h;exact h
 refine rn 12 ⟨λhc2=>?_,λhc2=>?_⟩;have hpn:ps≠[]:=by intro hp;rw[hp]at hps;simp at hps;omega
 refine rn 3 ?_;refine Fc (XK _ B pb m ind _ hB.bd d (fQ (Nat.mul_le_mul_left ind Aa) hd1) (by have hp:ps≠[]:=(by intro hp;rw[hp]at hps;simp at hps;omega);rw[tQ hp]at hlim;rw[hq2];(try simp only[dQ,kQ,cZ]);omega)) ?_;rintro _ w ⟨rfl,hBd2,hE⟩;have hF:=hF.wrote hB hE qG;have hX:=hX.off hE;have hB:=hB.wrote hBd2 hE;clear hBd2 hE;refine rn 2<|Gb (.of []) (bQ [0,1,2,3,4]<|.act 5 .nil) hF ?_;intro w hF hE;have hX:=hX.off_ext hB.lt hE;have hB:=hB.ext hE;refine⟨λwq=>FR w0 (Wk w0 B pb) _ wq,hF,?_⟩;refine rn 4<|Ga O (v:=.int .u8<|((bc.toNat:Nat):Int)) (λw hC=>Cb (s:=[bo,bc]) 1 jX O O Da) ?_;refine Lk (Ap hB.bd bc wU) ?_;rintro _ w ⟨rfl,hBd2,hE⟩;have hF:=hF.wrote hB hE qG;have hX:=hX.off hE;have hB:=hB.wrote hBd2 hE;clear hBd2 hE;refine⟨hF,?_⟩;refine rn 2 ⟨O,?_,hF.same⟩;have hb:=hB.bd;rw[hq2]at hb;rw[Nm,tQ hpn];simpa[sQ]using hb;have hpz:ps=[]:=List.eq_nil_of_length_eq_zero Aa;refine rn 2<|Gb (.of []) (bQ [0,1,2,3,4]<|.act 5 .nil) hF ?_;intro w hF hE;have hX:=hX.off_ext hB.lt hE;have hB:=hB.ext hE;refine⟨λwq=>FR w0 (Wk w0 B pb) _ wq,hF,?_⟩;refine rn 4<|Ga O (v:=.int .u8<|((bc.toNat:Nat):Int)) (λw hC=>Cb (s:=[bo,bc]) 1 jX O O Da) ?_;refine Lk (Ap hB.bd bc wU) ?_;rintro _ w ⟨rfl,hBd2,hE⟩;have hF:=hF.wrote hB hE qG;have hX:=hX.off hE;have hB:=hB.wrote hBd2 hE;clear hBd2 hE;refine⟨hF,?_⟩;refine rn 2 ⟨O,?_,hF.same⟩;have hb:=hB.bd;rw[hq2]at hb;rw[Nm,uQ hpz];simpa[sQ]using hb
def GK(k:Int)(t:Str)(ks:List Str)(xs:List Tree)(ih:∀x∈xs,ValC x)(m:Bool)(ind d:Nat)(w0:World)(B pb:Nat)(s:Str)(A B_:Option Addr)(c e:Nat)(hBd:Bd w0 B pb 125 [.bool m,J (ind:Int)] s)(hG:Gl w0)(h8:8<=B)(hX:Rep (λb=>b∉Wk w0 B pb) w0 (Na (.node k t ks xs)) [J k,I t,.slice A (aL ks) c,.slice B_ (aL xs) e])(hok:BR (.node k t ks xs))(hn:Uc nodeB (.node k t ks xs)=true)(hd:ind*(d+Nb (.node k t ks xs))<=1000000000)(hd2:d+Nb (.node k t ks xs)<=1000000000)(hxl:aL xs<=9223372036854775807)(hl:aL s+aL (Ve m ind (.node k t ks xs) d)<=140737488355328):Qw 105 #[V pb,.agg #[J k,I t,.slice A (aL ks) c,.slice B_ (aL xs) e],J (d:Int)] (.tuple #[]) w0 B pb 125 [.bool m,J (ind:Int)] (s++Ve m ind (.node k t ks xs) d):=by
 unfold Qw;refine Lb func105 ntmps105 O O ?_;have hB:=BW.start hBd;have hF:=FR.start w0<|Wk w0 B pb;refine rn 3 ?_;intro b1 w hb1 hF hE;have nb1:b1≠pb:=by have:=hB.lt;omega
 have hX:=hX.off_ext hB.lt hE;have hB:=hB.ext hE;refine rn 16 ⟨λhc0=>?_,λhc0=>?_⟩;refine rn 4 ?_;have hkk_:k=1:=Aa
 refine Fc (Fj hB.bd [110,117,108,108] (by rw[Ve,uQ hkk_]at hl;exact hl)) ?_;rintro _ w ⟨rfl,hBd2,hE⟩;have hF:=hF.wrote hB hE qG;have hX:=hX.off hE;have hB:=hB.wrote hBd2 hE;clear hBd2 hE;refine rn 3 ⟨O,?_,hF.same⟩;rw[Ve]
 first|(rw[uQ hkk_];exact hB.bd)|(rw[tQ Aa,uQ hkk_];exact hB.bd)|(rw[tQ Aa,tQ Aa,uQ hkk_];exact hB.bd)|(rw[tQ Aa,tQ Aa,tQ Aa,uQ hkk_];exact hB.bd)|(rw[tQ Aa,tQ Aa,tQ Aa,tQ Aa];exact hB.bd)
 refine rn 7 ⟨λhc1=>?_,λhc1=>?_⟩;refine rn 4 ?_;have hkk_:k=4:=Aa
 refine Fc (EA _ B pb m ind s hB.bd (hG.wrote hF.same h8 hBd.le) h8 t (by rw[BR]at hok;exact hok.1) (by rw[Ve,tQ Aa,uQ hkk_]at hl;exact hl)) ?_;rintro _ w ⟨rfl,hBd2,hE⟩;have hF:=hF.wrote hB hE qG;have hX:=hX.off hE;have hB:=hB.wrote hBd2 hE;clear hBd2 hE;refine rn 3 ⟨O,?_,hF.same⟩;rw[Ve]
 first|(rw[uQ hkk_];exact hB.bd)|(rw[tQ Aa,uQ hkk_];exact hB.bd)|(rw[tQ Aa,tQ Aa,uQ hkk_];exact hB.bd)|(rw[tQ Aa,tQ Aa,tQ Aa,uQ hkk_];exact hB.bd)|(rw[tQ Aa,tQ Aa,tQ Aa,tQ Aa];exact hB.bd)
 refine rn 7 ⟨λhc2=>?_,λhc2=>?_⟩;refine rn 5<|Ba (v:=.func (.func 166) #[V pb] #[]) (Fr O) ?_;have hkk_:k=5:=Aa
 refine Fc (OR 166 en_166 k t ks xs m ind d 91 93 (Gp m ind xs<|d+1) (by rw[Aq,rQ]) (λj hj w1 B1 p1 s1 A1 B1_ c1 e1 hb1_ hg1 h81 hx1 hl1=>by have hj2:j<aL xs:=(by rw[Aq,rQ]at hj;exact hj);have hg:(Gp m ind xs<|d+1)[j]=Ve m ind xs[j] (d+1):=(by simp only[Aq,List.getElem_map]);rw[hg]at hl1 ⊢;exact item_c k t ks xs m ind (d+1) j hj2 w1 B1 p1 s1 A1 B1_ c1 e1 hb1_ hg1 h81 hx1 ih hok hn (by rw[Nb]at hd;exact fQ (Nat.mul_le_mul_left ind Aa) hd) kB hl1) _ B pb s A B_ c e hB.bd (hG.wrote hF.same h8 hBd.le) h8 hX kK kB hxl (by rw[Ve]at hl;simpa[hkk_]using hl)) ?_;rintro _ w ⟨rfl,hBd2,hE⟩;have hF:=hF.wrote hB hE qG;have hX:=hX.off hE;have hB:=hB.wrote hBd2 hE;clear hBd2 hE;refine rn 3 ⟨O,?_,hF.same⟩;rw[Ve]
 first|(rw[uQ hkk_];exact hB.bd)|(rw[tQ Aa,uQ hkk_];exact hB.bd)|(rw[tQ Aa,tQ Aa,uQ hkk_];exact hB.bd)|(rw[tQ Aa,tQ Aa,tQ Aa,uQ hkk_];exact hB.bd)|(rw[tQ Aa,tQ Aa,tQ Aa,tQ Aa];exact hB.bd)
 refine rn 7 ⟨λhc3=>?_,λhc3=>?_⟩;refine rn 5<|Ba (v:=.func (.func 167) #[V pb] #[]) (Fr O) ?_;have hkk_:k=6:=Aa
 have hkl:aL ks=aL xs:=(Dv<|hkk_▸(Xe hn).1).2;refine Fc (OR 167 en_167 k t ks xs m ind d 123 125 (Hl m ind xs ks<|d+1) (by rw[Rm]) (λj hj w1 B1 p1 s1 A1 B1_ c1 e1 hb1_ hg1 h81 hx1 hl1=>by have hj2:j<aL xs:=(by rw[Rm]at hj;exact hj);have hg:=S0 m ind (d+1) xs ks j hj2 Aa hj;rw[hg]at hl1 ⊢;exact member_c k t ks xs m ind (d+1) j hj2 Aa w1 B1 p1 s1 A1 B1_ c1 e1 hb1_ hg1 h81 hx1 ih hok hn (by rw[Nb]at hd;exact fQ (Nat.mul_le_mul_left ind Aa) hd) kB hl1) _ B pb s A B_ c e hB.bd (hG.wrote hF.same h8 hBd.le) h8 hX kK kB hxl (by rw[Ve]at hl;simpa[hkk_]using hl)) ?_;rintro _ w ⟨rfl,hBd2,hE⟩;have hF:=hF.wrote hB hE qG;have hX:=hX.off hE;have hB:=hB.wrote hBd2 hE;clear hBd2 hE;refine rn 3 ⟨O,?_,hF.same⟩;rw[Ve]
 first|(rw[uQ hkk_];exact hB.bd)|(rw[tQ Aa,uQ hkk_];exact hB.bd)|(rw[tQ Aa,tQ Aa,uQ hkk_];exact hB.bd)|(rw[tQ Aa,tQ Aa,tQ Aa,uQ hkk_];exact hB.bd)|(rw[tQ Aa,tQ Aa,tQ Aa,tQ Aa];exact hB.bd)
 refine Gb (.of []) (bQ [0,1,2,3,4]<|.act 5 .nil) hF ?_;intro w hF hE;have hX:=hX.off_ext hB.lt hE;have hB:=hB.ext hE;refine⟨λwq=>FR w0 (Wk w0 B pb) _ wq,hF,?_⟩;refine rn 5 ?_;refine Lk (Fj hB.bd t (by rw[Ve,tQ Aa,tQ Aa,tQ Aa,tQ Aa]at hl;exact hl)) ?_;rintro _ w ⟨rfl,hBd2,hE⟩;have hF:=hF.wrote hB hE qG;have hX:=hX.off hE;have hB:=hB.wrote hBd2 hE;clear hBd2 hE;refine⟨hF,?_⟩;refine rn 3 ⟨O,?_,hF.same⟩;rw[Ve]
 first|(rw[uQ hkk_];exact hB.bd)|(rw[tQ Aa,uQ hkk_];exact hB.bd)|(rw[tQ Aa,tQ Aa,uQ hkk_];exact hB.bd)|(rw[tQ Aa,tQ Aa,tQ Aa,uQ hkk_];exact hB.bd)|(rw[tQ Aa,tQ Aa,tQ Aa,tQ Aa];exact hB.bd)
def value_c(x:Tree):ValC x:=Tree.ind (Q:=ValC) (λk t ks xs ih m ind d w0 B pb s cs hBd hG h8 hX hok hn hd hd2 hl=>by
  obtain⟨A,c,B_,e,rfl,-,-,-,hXs⟩:=hX.tree_inv;have h1:=hXs.slice_len;exact GK k t ks xs ih m ind d w0 B pb s A B_ c e hBd hG h8 hX hok hn hd hd2 Aa hl) x
theorem RK{t:Str}(h:Bh t=true):t≠[]:=by
  rintro rfl
  revert h
  decide
theorem valS_ne(m:Bool)(ind:Nat)(x:Tree)(d:Nat)(h:Id x=true):Ve m ind x d≠[]:=by
  obtain⟨k,t,ks,xs⟩:=x;unfold Id at h;rw[vQ]at h;have h1:=(Xe h.2).1;unfold rnodeB at h1;rw[vQ,xQ]at h1;obtain⟨h7,h1⟩:=h1;have h7':k≠7:=h7;grind [Ve,nodeB,qS,Pv,Nm,RK]
theorem NT{x:Tree}(h:Id x=true):Uc nodeB x=true:=by
  unfold Id at h;rw[vQ]at h;refine Tree.ind (Q:=λx=>Uc rnodeB x=true->Uc nodeB x=true) (λk t ks xs ih h=>?_) x h.2;rw[Uc,vQ]at h ⊢;have h1:=h.1;unfold rnodeB at h1;rw[vQ]at h1;refine⟨h1.2,?_⟩;have key:∀ys:List Tree,(∀y∈ys,y∈xs)->Vp rnodeB ys=true->Vp nodeB ys=true:=by
    intro ys
    induction ys with
    | nil =>
      intro _ _;rfl
    | cons y ys ihy=>grind [Vp]
  grind
theorem Vo{x:Tree}(h:Id x=true):Nb x<=32:=by grind [Id,Yj]
def HV(x:Tree)(S:Nat->Prop)(w0:World)(cs:List Value)(rx:Rep S w0 (Na x) cs)(hG:Gl w0)(hk:To x)(hq:BR x)(hsz:La x<=1000000000)(hlim:Id x=true->aL (Ve false 0 x 0)<=140737488355328):Calls prog 69 #[.agg cs.toArray] w0 (Za λv w'=>v=(if Id x=true then .tuple #[I (Ve false 0 x 0),J 0] else .tuple #[I [],J 1])/\Same [] w0 w'):=by
 have hl:aL cs=4:=rx.length.trans<|Bb x;have ho:=rx.one_;refine Ea func69 ntmps69 ?_;intro hF;refine rn 2<|Gk (v:=.agg<|List.toArray cs) (cs:=(List.toArray cs)) hF O O ?_;rintro b1 w hb1 hF -;refine rn 7<|Ba (v:=.agg<|List.toArray cs) (Ma (l:=cs) qZ uZ O hl<|hF.cellsAll 0 O) ?_;refine Ia (C4 x Aa _ _ _ (hF.rep rx) hk<|hG.ext hF.same) ?_;rintro w hF -;refine rn 4 ⟨λhc0=>?_,λhc0=>?_⟩;refine rn 7 ?_;exact⟨by rw[tQ (aS hc0)],hF.same⟩;refine rn 5 ?_;rintro b2 w hb2 hF -;refine rn 4<|Ba (v:=.agg<|List.toArray cs) (Ma (l:=cs) qZ uZ O hl<|hF.cellsAll 1 O) ?_;have hB:BW w0 [] w b2 b2 125 [.bool false,J ((0:Nat):Int)] []:=BW.own ⟨.inr ⟨rfl,_,_,rfl⟩,gQ _,_,_,hF.heap (i:=0) rfl,World.ownsRow_nil _ _ _ _,.inl rfl⟩ (hF.ge (i:=0) rfl) hF.same.size;have nb1:b1≠b2:=LQ hF.desc (i:=1) (j:=0) rfl rfl Ja;have hge:=hF.ge (i:=0) rfl;have hF:FR w0 [] [(b1,.cells cs.toArray 36)] w:=hF.drop 1;have hXo:Rep (λb=>b∉Wk w b2 b2) w (Na x) cs:=(rx.old.same hF.same Da).weaken λb hb _ hm=>by have h1:=hb.2;rcases Ff.1 hm with rfl|⟨-,h2,-⟩ <;> omega
 refine Fc (value_c x false 0 0 _ b2 b2 [] cs hB.bd (hG.ext hF.same) (by have:=hG.size;omega) hXo hq (NT (aS hc0)) Aa (by have:=Vo (x:=x) (aS hc0);omega) (by simpa using hlim (aS hc0))) ?_;rintro _ w ⟨rfl,hBd2,hE⟩;have hF:=hF.wrote hB hE qG;have hB:=hB.wrote hBd2 hE;clear hBd2 hE;refine rn 5<|Fc (E6 hB.bd (by simpa using valS_ne false 0 x 0 (aS hc0))) ?_;rintro _ w ⟨rfl,hE⟩;have hF:=hF.wrote hB hE qG;refine rn 5 ?_;exact⟨by rw[uQ (aS hc0)];rfl,hF.same⟩
end Go.Scarf
