/- A part of the proof. -/
import Derived.Lib.AppendStr
import Derived.Lib.Builder
import Derived.Lib.UnsafeStr
import Derived.Lib.RuneBytes
import Derived.Test.YteedfdfinodcaaaGreatDoorW16
import Derived.Laws.BytesString
import Derived.Lib.TrimU
set_option linter.all false
set_option maxHeartbeats 8000000
set_option maxRecDepth 10000
namespace Go.Scarf
open List renaming length->aL
open Go.RowKit Go.Proofs Go.Proofs.Tryz
variable {x y:Operand}{N b e k t' te:Nat}{o:Obj}{r u v:Value}{cs xs:List Value}{a:Addr}{ats:Array TypeId}{kk:IntKind}{m:Bool}
section
variable {P:Program}{w w' w0:World}{Ds E:List Nat}{bs_:List (Nat × Obj)}
def Xi:Obj->Bool
  | .cells _ e _=>e==5
  | _=>false
def Zt(w:World)(b:Nat):Bool:=match w.heap[b]? with|some o=>Xi o|none=>false
def Wk(w:World)(B pb:Nat):List Nat:=pb::(List.range w.heap.size).filter λb=>decide (B<=b)&&Zt w b
theorem Ue{B pb x:Nat}:x∈Wk w B pb↔x=pb\/(x<w.heap.size/\B<=x/\Zt w x=true):=by simp[Wk]
theorem Yt(h:w.heap[b]? = some o):Zt w b=Xi o:=by simp[Zt,h]
def Shp(T:Nat)(rest:List Value):Prop:=(T=200/\rest=[])\/(T=269/\∃m i,rest=[.bool m,J i])
def Shp.ne{T:Nat}{rest:List Value}(h:Shp T rest):(T==5)=false:=by rcases h with ⟨rfl,-⟩|⟨rfl,-⟩ <;> rfl
structure Bd (w:World) (B pb T:Nat) (rest:List Value) (s:Str):Prop where
  shp:Shp T rest
  le:B<=pb
  ex:∃ap v,w.heap[pb]? = some (.cells (ap::v::rest).toArray T)/\w.ownsRow B 5 1 v (aL s) (Lib.byteCells s)/\(ap=.pointer none\/ap=V pb)
theorem Bd.lt{B pb T:Nat}{rest:List Value}{s:Str}(h:Bd w B pb T rest s):pb<w.heap.size:=by
  obtain⟨ap,v,hh,-⟩:=h.ex;grind
def Bd.base{B pb T:Nat}{rest:List Value}{s:Str}(h:Bd w B pb T rest s):B<=w.heap.size:=fQ h.le (Nat.le_of_lt h.lt)
theorem Gn{B n g:Nat}(h:w.ownsRow B 5 1 v n xs)(hg:v.ownBlock=some g):g<w.heap.size/\B<=g/\Zt w g=true:=by
  rcases h.2 with ⟨rfl,-⟩|⟨g',cap,cur,rfl,h1,h2,-⟩
  ·cases hg
  cases hg;exact⟨Ga h2,h1,by rw[Yt h2];rfl⟩
theorem ME{B n g pb:Nat}(h:w.ownsRow B 5 1 v n xs)(hg:v.ownBlock=some g):g∈Wk w B pb:=by grind [Ue,Gn]
theorem Fs{B n g pb:Nat}(h:w.ownsRow B 5 1 v n xs)(hg:v.ownBlock=some g)(hh:w.heap[pb]? = some o)(ho:Xi o=false):g≠pb:=by
  rintro rfl;have h1:=(Gn h hg).2.2;grind [Yt]
theorem Oh{B n:Nat}(h:w.ownsRow B 5 1 v n xs)(hs:Same E w w')(he:∀g,v.ownBlock=some g->g∉E):w'.ownsRow B 5 1 v n xs:=by
  refine⟨h.1,?_⟩;rcases h.2 with h2|⟨g,cap,cur,rfl,h1,h2,h3⟩
  ·grind
  exact .inr ⟨g,cap,cur,O,h1,(hs.block g (Ga h2)<|he g O).trans h2,h3⟩
theorem Qf{B n:Nat}(h:w.ownsRow B 5 1 v n xs):∃A c,v=.slice A n c:=by
  rcases h.2 with ⟨rfl,rfl⟩|⟨g,cap,cur,rfl,-⟩
  ·grind
  grind
theorem Wk.step{B pb x:Nat}(hs:Same (Wk w B pb) w w')(hx:x∈Wk w' B pb):x∈Wk w B pb\/w.heap.size<=x:=by
  by_cases h:x<w.heap.size
  ·by_cases hm : x ∈ Wk w B pb
   ·grind
   rcases Ue.1 hx with rfl|⟨h1, h2, h3⟩
   ·grind [Ue]
   refine absurd (Ue.2<|.inr ⟨h, h2, ?_⟩) hm;rw[Zt,<-hs.block x h hm];exact h3
  grind
theorem FR.grown{g:Option Nat}(h:FR w0 Ds bs_ w)(hg:w.grownBy w' g)(hr:∀b,g=some b->(b<w0.heap.size->b∈Ds)/\∀p∈bs_,p.1≠b):FR w0 Ds bs_ w':=by
  have hs:Same g.toList w w':=⟨hg.os,hg.tape,hg.output,hg.size,λb hb hn=>hg.block b hb λe=>hn (by simp[<-e])⟩;exact h.touch hs λb hb=>hr b (aS hb)
def Qn(s t:Str):Lib.byteCells (s++t)=Lib.byteCells s++Lib.byteCells t:=Lib.byteCells_append s t
end
section
variable {P:Program}{w:World}{ρ:Operand->Value}{dst:Option Nat}{ty:TypeId}{pos:String}{aft:Array Edge}{g:Option (Nat × Bool)}
def ZQ{t:Nat}(ht:P.underlying t=some (.pointer te))(hx:ρ x=.pointer none)(hy:ρ y=.pointer none) :
    (execOp ρ ⟨dst,.binOp .eql t x y t',ty,pos,aft,g⟩).run P w=.ok (.value (.bool true)) w:=by
  have h:∀d:Nat,(Op.equalIn (d+1) t (.pointer none)<|.pointer none).run P w=.ok true w:=λd=>by
    simp[Op.equalIn,run_underlying ht]
  have hg:(eqGuard .eql t x y (.pointer none)<|.pointer none).run P w=.ok () w:=by unfold eqGuard;split <;> simp
  simp only[execOp,hx,hy,Sem.run_bind,hg,Result.andThen_ok,binOp];simp[Op.equal,Op.maxDepth,h 9999]
def XQ{t:Nat}(ht:P.underlying t=some (.pointer te))(hx:ρ x=.pointer (some a))(hy:ρ y=.pointer none) :
    (execOp ρ ⟨dst,.binOp .eql t x y t',ty,pos,aft,g⟩).run P w=.ok (.value (.bool false)) w:=by
  have h:∀d:Nat,(Op.equalIn (d+1) t (.pointer<|some a)<|.pointer none).run P w=.ok false w:=λd=>by
    simp[Op.equalIn,run_underlying ht]
  have hg:(eqGuard .eql t x y (.pointer<|some a)<|.pointer none).run P w=.ok () w:=by unfold eqGuard;split <;> simp
  simp only[execOp,hx,hy,Sem.run_bind,hg,Result.andThen_ok,binOp];simp[Op.equal,Op.maxDepth,h 9999]
def x_neqp{t:Nat}{j:TypeInfo}(ht:P.underlying t=some (.pointer te))(hte:P.info? te=some j)(hx:ρ x=.pointer (some a))(hy:ρ y=.pointer (some a)) :
    (execOp ρ ⟨dst,.binOp .neq t x y t',ty,pos,aft,g⟩).run P w=.ok (.value (.bool false)) w:=by
  have h:=Lib.run_neq_ptr_same w a ht hte;have hg:(eqGuard .neq t x y (.pointer<|some a)<|.pointer<|some a).run P w=.ok () w:=by unfold eqGuard;split <;> simp
  simp only[execOp,hx,hy,Sem.run_bind,hg,Result.andThen_ok,h,Sem.run_pure]
def J4{t:Nat}(hx:ρ x=v)(h:(convert t t' v).run P w=.ok v w):(execOp ρ ⟨dst,.convert t t' x,ty,pos,aft,g⟩).run P w=.ok (.value v) w:=by simp[execOp,hx,h]
def x_ext1 {f:FuncId} {fn:Func} {e:Array Value->Sem Value} {x1:Operand}  {v1:Value} (hf:P.funcs[f]? = some fn) (hname:(fn.name == "runtime.NumGoroutine")=false)
    (hb:fn.body.isNone=true) (hn:Extern.findNext fn=none) (he:Extern.find fn=some e) (h0:ρ (.func f)=.func (.func f) #[] #[]) (h1:ρ x1=v1) (hr:(e #[v1]).run P w=.ok v w) :
    (execOp ρ ⟨dst,.call ⟨.value (.func f),#[x1],ats⟩,ty,pos,aft,g⟩).run P w=.ok (.value v) w:=by simp[execOp,resolve,Deferred.ofValue,h0,h1,invoke,run_callFunc_extern hf hname hb hn he,hr]
def x_usd{n c:Nat}(hx:ρ x=.slice (some a) n c)(hc:c≠0):(execOp ρ ⟨dst,.call ⟨.builtin .unsafeSliceData,#[x],ats⟩,ty,pos,aft,g⟩).run P w=.ok (.value (.pointer (some a))) w:=by simp[execOp,resolve,invoke,builtin,hx,Lib.run_unsafeSliceData_row w ats ty a n c hc]
def x_uss{t1 t2:Nat}{w':World}(hx:ρ x=u)(hy:ρ y=v)(h:(Builtin.unsafeString_ #[t1,t2] ty #[u,v]).run P w=.ok r w'):(execOp ρ ⟨dst,.call ⟨.builtin .unsafeString,#[x,y],#[t1,t2]⟩,ty,pos,aft,g⟩).run P w=.ok (.value r) w':=by simp[execOp,resolve,invoke,builtin,hx,hy,h]
def QU{t1 t2:TypeId}{w':World}(hx:ρ x=u)(hy:ρ y=v)(h:(Builtin.append_ #[t1,t2] ty #[u,v]).run P w=.ok r w') :
    (execOp ρ ⟨dst,.call ⟨.builtin .append,#[x,y],#[t1,t2]⟩,ty,pos,aft,g⟩).run P w=.ok (.value r) w':=by simp[execOp,resolve,invoke,builtin,hx,hy,h]
end
section
variable {P:Program}{R:Exit->Act->World->Prop}{n:Nat}{kt:Kt}{s:Nat->Value}{w:World}{ops rest:List Oper}
variable {d:Nat}{ty:TypeId}{pos:String}{aft:Array Edge}{g:Option (Nat × Bool)}
variable {w0:World}{Ds:List Nat}{bs_:List (Nat × Obj)}
def JZ{t B len c2:Nat}{news:List Value}(hE:Elems P t 5 1 1)
    (hF:FR w0 Ds bs_ w) (hO:w.ownsRow B 5 1 v len xs) (hB:B<=w.heap.size) (hx:ev n s x=v) (hy:ev n s y=.slice (some a) k c2)
    (hl:aL news=k*1) (hnews:∀j u,news[j]? = some u->w.cell? (a.add j)=some u) (h1:∀u∈news,u.oneCell'=true) (hb:len+k<=140737488355328)
    (hr:∀b,v.ownBlock=some b->(b<w0.heap.size->b∈Ds)/\∀p∈bs_,p.1≠b)
    (h:∀v' w',w'.ownsRow B 5 1 v' (len+k) (xs++news)->FR w0 Ds bs_ w'->w.heap.size<=w'.heap.size->Og P R n ops kt rest (Lc s d v') w')
    (hw:Ka ops n s ⟨some d,.call ⟨.builtin .append,#[x,y],#[t,t]⟩,ty,pos,aft,g⟩=true:=by rfl):Og P R n ops kt (⟨some d,.call ⟨.builtin .append,#[x,y],#[t,t]⟩,ty,pos,aft,g⟩::rest) s w:=by
  obtain⟨i,z,hi,hz,h2,h3,h4⟩:=hE.info;obtain⟨v',w',hr',hO',hg,-⟩:=run_append_own (P:=P) w B t ty 5 i z 1 1 hE.ht hi hz h2 h3 h4 Pa v len xs hO a k c2 news hl hnews h1 (by unfold maxLen;omega) fX hB;exact Da (Vs hx hy hr') (h v' w' hO' (hF.grown hg hr) hg.size) hw
theorem o_appS{t u B len:Nat}{str:Str}(hE:Elems P t 5 1 1)(hz0:(P.info? 5).map (·.zero)=some (some (.int .u8 0)))(hu:P.underlying u=some .string)
    (hF:FR w0 Ds bs_ w) (hO:w.ownsRow B 5 1 v len xs) (hB:B<=w.heap.size) (hx:ev n s x=v) (hy:ev n s y=I str) (hb:len+aL str<=140737488355328)
    (hr:∀b,v.ownBlock=some b->(b<w0.heap.size->b∈Ds)/\∀p∈bs_,p.1≠b)
    (h:∀v' w',w'.ownsRow B 5 1 v' (len+aL str) (xs++Lib.byteCells str)->FR w0 Ds bs_ w'->w.heap.size<=w'.heap.size->Og P R n ops kt rest (Lc s d v') w')
    (hw:Ka ops n s ⟨some d,.call ⟨.builtin .append,#[x,y],#[t,u]⟩,ty,pos,aft,g⟩=true:=by rfl):Og P R n ops kt (⟨some d,.call ⟨.builtin .append,#[x,y],#[t,u]⟩,ty,pos,aft,g⟩::rest) s w:=by
  obtain⟨i,z,hi,hz,h2,h3,h4⟩:=hE.info;rw[hi]at hz0;have hz1:i.zero=some (.int .u8 0):=qJ
  have e:(bs str).size=aL str:=Ep str;obtain⟨v',w',hr',hO',hg,-⟩:=Lib.run_append_own_string (P:=P) w B t u ty 5 i hE.ht hu hi hz1 h2 h3 v len xs hO (bs str) (by rw[e];unfold maxLen;omega) (by rw[e];omega) hB;rw[e]at hO';exact Da (QU hx hy hr') (h v' w' (by simpa[Lib.strCells_eq,XB,bs]using hO') (hF.grown hg hr) hg.size) hw
end
set_option synthInstance.maxHeartbeats 0
set_option synthInstance.maxSize 9999
def lies_bld:liesAt prog prog.depth 200 (2/prog.cellsOf 200) 0 200 1=true:=by kernel_rfl
def TZ:liesAt prog prog.depth 269 (4/prog.cellsOf 269) 0 200 1=true:=by kernel_rfl
def Sx:(prog.info? 200).map (·.size)=some 2:=by kernel_rfl
def DE(w0:World)(pb:Nat)(v:Value)(hh:w0.heap[pb]? = some (.cells #[.pointer none,v] 200)):Calls prog 183 #[V pb] w0 (Qb λv_ w'=>v_=.tuple #[]/\Same [pb] w0 w'/\w'.heap[pb]? = some (.cells #[V pb,v] 200)):=by
 obtain⟨j,hj,hjs⟩:=Option.map_eq_some_iff.1 Sx;have hne:pb<w0.heap.size:=Ga hh;refine Wb func183 ntmps183 O O ?_;have hF:FR w0 [pb] [(pb,.cells #[.pointer none,v] 200)] w0:=FR.open_ (aS hh) Ca;refine rn 6<|Da (v:=.bool true) (ZQ uZ O O) ?_;refine rn 6 ?_;refine Da (v:=V pb) (J4 O<|Lib.run_to_unsafe _ ⟨pb,0,none⟩ uZ underlying258 hj (by rw[hjs];decide) (e:=200) (cells:=2) jG<|Nat.zero_lt_succ _) ?_;refine Da (v:=V pb) (x_ext1 func214 Ib Ib Ib (e:=Extern.AbiNoEscape.same) Ib O O<|Lib.run_noEscape _ _)<|Da (v:=V pb) (J4 O<|Lib.run_from_unsafe _ ⟨pb,0,none⟩ underlying258 uZ hj (e:=200) (cells:=2) jG lies_bld) ?_;refine rn 3 ?_;rintro w hF -;refine rn 2 ?_;exact⟨O,hF.same,hF.heap (i:=0) O⟩
def LC(w0:World)(pb:Nat)(v:Value)(m:Bool)(i:Int)(hh:w0.heap[pb]? = some (.cells #[.pointer none,v,.bool (m),J i] 269)):Calls prog 183 #[V pb] w0 (Qb λv_ w'=>v_=.tuple #[]/\Same [pb] w0 w'/\w'.heap[pb]? = some (.cells #[V pb,v,.bool (m),J i] 269)):=by
 obtain⟨j,hj,hjs⟩:=Option.map_eq_some_iff.1 Sx;have hne:pb<w0.heap.size:=Ga hh;refine Wb func183 ntmps183 O O ?_;have hF:FR w0 [pb] [(pb,.cells #[.pointer none,v,.bool m,J i] 269)] w0:=FR.open_ (aS hh) Ca;refine rn 6<|Da (v:=.bool true) (ZQ uZ O O) ?_;refine rn 6 ?_;refine Da (v:=V pb) (J4 O<|Lib.run_to_unsafe _ ⟨pb,0,none⟩ uZ underlying258 hj (by rw[hjs];decide) (e:=269) (cells:=4) jG<|Nat.zero_lt_succ _) ?_;refine Da (v:=V pb) (x_ext1 func214 Ib Ib Ib (e:=Extern.AbiNoEscape.same) Ib O O<|Lib.run_noEscape _ _)<|Da (v:=V pb) (J4 O<|Lib.run_from_unsafe _ ⟨pb,0,none⟩ underlying258 uZ hj (e:=269) (cells:=4) jG TZ) ?_;refine rn 3 ?_;rintro w hF -;refine rn 2 ?_;exact⟨O,hF.same,hF.heap (i:=0) O⟩
def EE(w0:World)(pb:Nat)(v:Value)(hh:w0.heap[pb]? = some (.cells #[V pb,v] 200)):Calls prog 183 #[V pb] w0 (Qb λv_ w'=>v_=.tuple #[]/\Same [pb] w0 w'/\w'.heap[pb]? = some (.cells #[V pb,v] 200)):=by
 obtain⟨j,hj,hjs⟩:=Option.map_eq_some_iff.1 Sx;have hne:pb<w0.heap.size:=Ga hh;refine Wb func183 ntmps183 O O ?_;have hF:FR w0 [pb] [(pb,.cells #[V pb,v] 200)] w0:=FR.open_ (aS hh) Ca;refine rn 6<|Da (v:=.bool false) (XQ uZ O O) ?_;refine rn 10<|Da (v:=.bool false) (x_neqp uZ hj O O) ?_;refine rn 5 ?_;exact⟨O,hF.same,hF.heap (i:=0) O⟩
def SD(w0:World)(pb:Nat)(v:Value)(m:Bool)(i:Int)(hh:w0.heap[pb]? = some (.cells #[V pb,v,.bool (m),J i] 269)):Calls prog 183 #[V pb] w0 (Qb λv_ w'=>v_=.tuple #[]/\Same [pb] w0 w'/\w'.heap[pb]? = some (.cells #[V pb,v,.bool (m),J i] 269)):=by
 obtain⟨j,hj,hjs⟩:=Option.map_eq_some_iff.1 Sx;have hne:pb<w0.heap.size:=Ga hh;refine Wb func183 ntmps183 O O ?_;have hF:FR w0 [pb] [(pb,.cells #[V pb,v,.bool m,J i] 269)] w0:=FR.open_ (aS hh) Ca;refine rn 6<|Da (v:=.bool false) (XQ uZ O O) ?_;refine rn 10<|Da (v:=.bool false) (x_neqp uZ hj O O) ?_;refine rn 5 ?_;exact⟨O,hF.same,hF.heap (i:=0) O⟩
def Xj{w0:World}{B pb T:Nat}{rest:List Value}{s:Str}(h:Bd w0 B pb T rest s) :
    ∃v, w0.ownsRow B 5 1 v (aL s) (Lib.byteCells s) /\ (∀g, v.ownBlock = some g -> g ∈ Wk w0 B pb /\ g ≠ pb) /\
      Calls prog 183 #[V pb] w0 (Qb λu w'=>u=.tuple #[]/\Same [pb] w0 w'/\w'.heap[pb]? = some (.cells (V pb::v::rest).toArray T)/\w'.ownsRow B 5 1 v (aL s) (Lib.byteCells s)):=by
  obtain⟨hs,hle,ap,v,hh,hO,ha⟩:=h;have hne:∀g,v.ownBlock=some g->g≠pb:=λg hg=>Fs hO hg hh (by exact hs.ne);refine⟨v,hO,λg hg=>⟨ME hO hg,hne g hg⟩,?_⟩;have fin:∀{u:Value}{w':World},(u=.tuple #[]/\Same [pb] w0 w'/\w'.heap[pb]? = some (.cells (V pb::v::rest).toArray T))->(u=.tuple #[]/\Same [pb] w0 w'/\w'.heap[pb]? = some (.cells (V pb::v::rest).toArray T)/\w'.ownsRow B 5 1 v (aL s) (Lib.byteCells s)) :=
    λ⟨h1,h2,h3⟩=>⟨h1,h2,h3,Oh hO h2 (λg hg=>by simpa using hne g hg)⟩
  rcases hs with ⟨rfl,rfl⟩|⟨rfl,m,i,rfl⟩ <;> rcases ha with rfl|rfl
  ·exact Zi (DE w0 pb v hh) λ_ _=>fin
  ·exact Zi (EE w0 pb v hh) λ_ _=>fin
  ·exact Zi (LC w0 pb v m i hh) λ_ _=>fin
  exact Zi (SD w0 pb v m i hh) λ_ _=>fin
def RB:(prog.info? 5).map (·.zero)=some (some (.int .u8 0)):=by kernel_rfl
theorem FR.addD{w0 w:World}{Ds:List Nat}{bs_:List (Nat × Obj)}(h:FR w0 Ds bs_ w)(hh:w.heap[b]? = some o)(hd:w0.heap.size<=b\/b∈Ds)(hn:∀p∈bs_,p.1≠b):FR w0 Ds ((b,o)::bs_) w :=
  ⟨h.same,λp hp=>by
    rcases oQ.1 hp with rfl|hp
    ·exact⟨hh,hd⟩
    exact h.own p hp,List.pairwise_cons.2 ⟨λq hq=>hn q hq,h.desc⟩⟩
def Fl(r:Int):Str:=(Lib.encodeRuneZ r).map λx=>UInt8.ofNat x.toNat
theorem Ir(r:Int):1<=aL (Fl r)/\aL (Fl r)<=4:=by
  rw[Fl,rQ];exact Lib.encodeRuneZ_length r
theorem Eh(r:Int):Lib.byteCells (Fl r)=Lib.runeCells r:=by
  rw[Fl,Lib.byteCells,Lib.runeCells,List.map_map];refine List.map_congr_left λx hx=>?_;have:=Lib.encodeRuneZ_byte r x hx;simp only[Function.comp_apply,Value.int.injEq,true_and,UInt8.toNat_ofNat'];omega
theorem Zx{w:World}{B n:Nat}{r:Int}(hO:w.ownsRow B 5 1 v n xs)(h0:-2147483648<=r)(h1:r<=2147483647)(hn:n+4<=140737488355328)(hB:B<=w.heap.size) :
    Calls prog 277 #[v,.int .i32 r] w (Qb λv' w'=>w'.ownsRow B 5 1 v' (n+aL (Fl r)) (xs++Lib.byteCells (Fl r))/\∃o,(w.alloc o).grownBy w' v.ownBlock):=by
  refine (utf8_AppendRune_plain B v n xs r h0 h1 w hO hn hB).mono λe w' ⟨v',he,h2,h3⟩=>⟨v',he,?_,h3⟩;have e1:aL (Fl r)=aL (Lib.runeCells r):=by rw[<-Eh,Lib.byteCells_length]
  grind [Eh]
def Qw(f:Nat)(args:Array Value)(u:Value)(w0:World)(B pb T:Nat)(rest:List Value)(s:Str):Prop :=
  Calls prog f args w0 (Qb λv w'=>v=u/\Bd w' B pb T rest s/\Same (Wk w0 B pb) w0 w')
theorem EI(w0:World)(B pb:Nat)(s:Str)(hB:Bd w0 B pb 200 [] s)(c:UInt8)(hl:aL s+1<=140737488355328):Qw 267 #[V pb,.int .u8 ((c.toNat:Nat):Int)] .nilIface w0 B pb 200 [] (s++[c]):=by
 unfold Qw;refine Wb func267 ntmps267 O O ?_;obtain⟨v,hO0,hv,hC⟩:=Xj hB;have hle:=hB.le;have hBw:=hB.base;have hlt:=hB.lt;have hws:=gQ w0.heap.size;have hvl:∀g,v.ownBlock=some g->g<w0.heap.size:=λg hg=>(Gn hO0 hg).1;obtain⟨A1,c1,rfl⟩:=Qf hO0;have hF:=FR.start w0<|Wk w0 B pb;refine rn 8<|Ed hC (Ij Yz O O) ?_;rintro _ w ⟨rfl,hE,hh,hO⟩;have hws:=fQ hws hE.size;have hBw:=fQ hBw hE.size;have hF:FR w0 (Wk w0 B pb) [(pb,.cells #[V pb,.slice A1 (aL s) c1] 200)] w:=(hF.touch hE (λb hb=>by obtain rfl:=pQ.1 hb;exact⟨λ_=>Ue.2<|.inl rfl,Ca⟩)).addD hh (.inr<|Ue.2<|.inl rfl) Ca;clear hE hh;refine rn 11 ?_;intro b1 w hb1 hF hE;have nb1:w0.heap.size<=b1:=by rw[hb1];exact hws
 have hws:=fQ hws hE.size;have hBw:=fQ hBw hE.size;have hO:=Oh hO hE Ca;refine JZ (news:=[.int .u8 ((c.toNat:Nat):Int)]) UC hF hO hBw rfl rfl rfl (Ce<|hF.cellsAll 0 rfl) jH fX (λb hb=>⟨λ_=>(hv b hb).1,by have h1:=(hv b hb).2;have h2:=hvl b hb;intro p hp;simp only[oQ,List.not_mem_nil,or_false]at hp;rcases hp with rfl|rfl <;> grind⟩) ?_;clear hF hO;intro v2 w hO hF hsz;have hws:=fQ hws hsz;have hBw:=fQ hBw hsz;have hne2:∀g,v2.ownBlock=some g->g≠pb:=λg hg=>Fs hO hg (hF.heap (i:=1) rfl) rfl;obtain⟨A2,c2,rfl⟩:=Qf hO;clear hsz;refine rn 3 ?_;intro w hF hE;have hws:=fQ hws hE.size;have hBw:=fQ hBw hE.size;have hO:=Oh hO hE (λg hg=>by simpa using hne2 g hg);refine rn 8 ?_;exact⟨O,⟨.inl ⟨O,O⟩,hle,_,_,hF.heap (i:=1) O,by simpa[Qn,Lib.byteCells,Eh]using hO,.inr O⟩,hF.same⟩
theorem Y9(w0:World)(B pb:Nat)(s:Str)(hB:Bd w0 B pb 200 [] s)(t:Str)(hl:aL s+aL t<=140737488355328):Qw 153 #[V pb,I t] (.tuple #[J ((aL t:Nat):Int),.nilIface]) w0 B pb 200 [] (s++t):=by
 unfold Qw;refine Wb func153 ntmps153 O O ?_;obtain⟨v,hO0,hv,hC⟩:=Xj hB;have hle:=hB.le;have hBw:=hB.base;have hlt:=hB.lt;have hws:=gQ w0.heap.size;have hvl:∀g,v.ownBlock=some g->g<w0.heap.size:=λg hg=>(Gn hO0 hg).1;obtain⟨A1,c1,rfl⟩:=Qf hO0;have hF:=FR.start w0<|Wk w0 B pb;refine rn 9<|Ed hC (Ij Yz O O) ?_;rintro _ w ⟨rfl,hE,hh,hO⟩;have hws:=fQ hws hE.size;have hBw:=fQ hBw hE.size;have hF:FR w0 (Wk w0 B pb) [(pb,.cells #[V pb,.slice A1 (aL s) c1] 200)] w:=(hF.touch hE (λb hb=>by obtain rfl:=pQ.1 hb;exact⟨λ_=>Ue.2<|.inl rfl,Ca⟩)).addD hh (.inr<|Ue.2<|.inl rfl) Ca;clear hE hh;refine rn 10 ?_;refine o_appS (str:=t) UC RB bX hF hO hBw rfl rfl fX (λb hb=>⟨λ_=>(hv b hb).1,by have h1:=(hv b hb).2;have h2:=hvl b hb;intro p hp;simp only[oQ,List.not_mem_nil,or_false]at hp;rcases hp with rfl <;> grind⟩) ?_;clear hF hO;intro v2 w hO hF hsz;have hws:=fQ hws hsz;have hBw:=fQ hBw hsz;have hne2:∀g,v2.ownBlock=some g->g≠pb:=λg hg=>Fs hO hg (hF.heap (i:=0) rfl) rfl;obtain⟨A2,c2,rfl⟩:=Qf hO;clear hsz;refine rn 3 ?_;intro w hF hE;have hws:=fQ hws hE.size;have hBw:=fQ hBw hE.size;have hO:=Oh hO hE (λg hg=>by simpa using hne2 g hg);refine rn 11 ?_;exact⟨O,⟨.inl ⟨O,O⟩,hle,_,_,hF.heap (i:=0) O,by simpa[Qn,Lib.byteCells,Eh]using hO,.inr O⟩,hF.same⟩
theorem XK(w0:World)(B pb:Nat)(s:Str)(hB:Bd w0 B pb 200 [] s)(r:Int)(hr0:-2147483648<=r)(hr1:r<=2147483647)(hl:aL s+4<=140737488355328):Qw 274 #[V pb,.int .i32 r] (.tuple #[J ((aL (Fl r):Nat):Int),.nilIface]) w0 B pb 200 [] (s++Fl r):=by
 unfold Qw;have hrl:=Ir r;refine Wb func274 ntmps274 O O ?_;obtain⟨v,hO0,hv,hC⟩:=Xj hB;have hle:=hB.le;have hBw:=hB.base;have hlt:=hB.lt;have hws:=gQ w0.heap.size;have hvl:∀g,v.ownBlock=some g->g<w0.heap.size:=λg hg=>(Gn hO0 hg).1;obtain⟨A1,c1,rfl⟩:=Qf hO0;have hF:=FR.start w0<|Wk w0 B pb;refine rn 9<|Ed hC (Ij Yz O O) ?_;rintro _ w ⟨rfl,hE,hh,hO⟩;have hws:=fQ hws hE.size;have hBw:=fQ hBw hE.size;have hF:FR w0 (Wk w0 B pb) [(pb,.cells #[V pb,.slice A1 (aL s) c1] 200)] w:=(hF.touch hE (λb hb=>by obtain rfl:=pQ.1 hb;exact⟨λ_=>Ue.2<|.inl rfl,Ca⟩)).addD hh (.inr<|Ue.2<|.inl rfl) Ca;clear hE hh;refine rn 20<|Yb (Zx hO hr0 hr1 fX hBw) ?_;rintro v2 w2 ⟨hO2,o,hg⟩;have hF:=(hF.ext<|Same.alloc _ o).grown hg (λb hb=>⟨λ_=>(hv b hb).1,by have h1:=(hv b hb).2;have h2:=hvl b hb;intro p hp;simp only[oQ,List.not_mem_nil,or_false]at hp;rcases hp with rfl <;> grind⟩);have hsz:=fQ (Same.alloc _ o).size hg.size;clear hO hg;revert hsz hF hO2;generalize w2=w;intro hO hF hsz;have hws:=fQ hws hsz;have hBw:=fQ hBw hsz;have hne2:∀g,v2.ownBlock=some g->g≠pb:=λg hg=>Fs hO hg (hF.heap (i:=0) rfl) rfl;obtain⟨A2,c2,rfl⟩:=Qf hO;clear hsz;refine rn 3 ?_;intro w hF hE;have hws:=fQ hws hE.size;have hBw:=fQ hBw hE.size;have hO:=Oh hO hE (λg hg=>by simpa using hne2 g hg);refine rn 10<|Tc (W4<|(aL (Fl r):Nat)) ?_;refine rn 5 ?_;exact⟨O,⟨.inl ⟨O,O⟩,hle,_,_,hF.heap (i:=0) O,by simpa[Qn,Lib.byteCells,Eh]using hO,.inr O⟩,hF.same⟩
theorem LI(w0:World)(B pb:Nat)(m:Bool)(i:Int)(s:Str)(hB:Bd w0 B pb 269 [.bool (m),J i] s)(c:UInt8)(hl:aL s+1<=140737488355328):Qw 267 #[V pb,.int .u8 ((c.toNat:Nat):Int)] .nilIface w0 B pb 269 [.bool (m),J i] (s++[c]):=by
 unfold Qw;refine Wb func267 ntmps267 O O ?_;obtain⟨v,hO0,hv,hC⟩:=Xj hB;have hle:=hB.le;have hBw:=hB.base;have hlt:=hB.lt;have hws:=gQ w0.heap.size;have hvl:∀g,v.ownBlock=some g->g<w0.heap.size:=λg hg=>(Gn hO0 hg).1;obtain⟨A1,c1,rfl⟩:=Qf hO0;have hF:=FR.start w0<|Wk w0 B pb;refine rn 8<|Ed hC (Ij Yz O O) ?_;rintro _ w ⟨rfl,hE,hh,hO⟩;have hws:=fQ hws hE.size;have hBw:=fQ hBw hE.size;have hF:FR w0 (Wk w0 B pb) [(pb,.cells #[V pb,.slice A1 (aL s) c1,.bool m,J i] 269)] w:=(hF.touch hE (λb hb=>by obtain rfl:=pQ.1 hb;exact⟨λ_=>Ue.2<|.inl rfl,Ca⟩)).addD hh (.inr<|Ue.2<|.inl rfl) Ca;clear hE hh;refine rn 11 ?_;intro b1 w hb1 hF hE;have nb1:w0.heap.size<=b1:=by rw[hb1];exact hws
 have hws:=fQ hws hE.size;have hBw:=fQ hBw hE.size;have hO:=Oh hO hE Ca;refine JZ (news:=[.int .u8 ((c.toNat:Nat):Int)]) UC hF hO hBw rfl rfl rfl (Ce<|hF.cellsAll 0 rfl) jH fX (λb hb=>⟨λ_=>(hv b hb).1,by have h1:=(hv b hb).2;have h2:=hvl b hb;intro p hp;simp only[oQ,List.not_mem_nil,or_false]at hp;rcases hp with rfl|rfl <;> grind⟩) ?_;clear hF hO;intro v2 w hO hF hsz;have hws:=fQ hws hsz;have hBw:=fQ hBw hsz;have hne2:∀g,v2.ownBlock=some g->g≠pb:=λg hg=>Fs hO hg (hF.heap (i:=1) rfl) rfl;obtain⟨A2,c2,rfl⟩:=Qf hO;clear hsz;refine rn 3 ?_;intro w hF hE;have hws:=fQ hws hE.size;have hBw:=fQ hBw hE.size;have hO:=Oh hO hE (λg hg=>by simpa using hne2 g hg);refine rn 8 ?_;exact⟨O,⟨.inr ⟨O,m,i,O⟩,hle,_,_,hF.heap (i:=1) O,by simpa[Qn,Lib.byteCells,Eh]using hO,.inr O⟩,hF.same⟩
theorem Z9(w0:World)(B pb:Nat)(m:Bool)(i:Int)(s:Str)(hB:Bd w0 B pb 269 [.bool (m),J i] s)(t:Str)(hl:aL s+aL t<=140737488355328):Qw 153 #[V pb,I t] (.tuple #[J ((aL t:Nat):Int),.nilIface]) w0 B pb 269 [.bool (m),J i] (s++t):=by
 unfold Qw;refine Wb func153 ntmps153 O O ?_;obtain⟨v,hO0,hv,hC⟩:=Xj hB;have hle:=hB.le;have hBw:=hB.base;have hlt:=hB.lt;have hws:=gQ w0.heap.size;have hvl:∀g,v.ownBlock=some g->g<w0.heap.size:=λg hg=>(Gn hO0 hg).1;obtain⟨A1,c1,rfl⟩:=Qf hO0;have hF:=FR.start w0<|Wk w0 B pb;refine rn 9<|Ed hC (Ij Yz O O) ?_;rintro _ w ⟨rfl,hE,hh,hO⟩;have hws:=fQ hws hE.size;have hBw:=fQ hBw hE.size;have hF:FR w0 (Wk w0 B pb) [(pb,.cells #[V pb,.slice A1 (aL s) c1,.bool m,J i] 269)] w:=(hF.touch hE (λb hb=>by obtain rfl:=pQ.1 hb;exact⟨λ_=>Ue.2<|.inl rfl,Ca⟩)).addD hh (.inr<|Ue.2<|.inl rfl) Ca;clear hE hh;refine rn 10 ?_;refine o_appS (str:=t) UC RB bX hF hO hBw rfl rfl fX (λb hb=>⟨λ_=>(hv b hb).1,by have h1:=(hv b hb).2;have h2:=hvl b hb;intro p hp;simp only[oQ,List.not_mem_nil,or_false]at hp;rcases hp with rfl <;> grind⟩) ?_;clear hF hO;intro v2 w hO hF hsz;have hws:=fQ hws hsz;have hBw:=fQ hBw hsz;have hne2:∀g,v2.ownBlock=some g->g≠pb:=λg hg=>Fs hO hg (hF.heap (i:=0) rfl) rfl;obtain⟨A2,c2,rfl⟩:=Qf hO;clear hsz;refine rn 3 ?_;intro w hF hE;have hws:=fQ hws hE.size;have hBw:=fQ hBw hE.size;have hO:=Oh hO hE (λg hg=>by simpa using hne2 g hg);refine rn 11 ?_;exact⟨O,⟨.inr ⟨O,m,i,O⟩,hle,_,_,hF.heap (i:=0) O,by simpa[Qn,Lib.byteCells,Eh]using hO,.inr O⟩,hF.same⟩
theorem XF(w0:World)(B pb:Nat)(m:Bool)(i:Int)(s:Str)(hB:Bd w0 B pb 269 [.bool (m),J i] s)(r:Int)(hr0:-2147483648<=r)(hr1:r<=2147483647)(hl:aL s+4<=140737488355328):Qw 274 #[V pb,.int .i32 r] (.tuple #[J ((aL (Fl r):Nat):Int),.nilIface]) w0 B pb 269 [.bool (m),J i] (s++Fl r):=by
 unfold Qw;have hrl:=Ir r;refine Wb func274 ntmps274 O O ?_;obtain⟨v,hO0,hv,hC⟩:=Xj hB;have hle:=hB.le;have hBw:=hB.base;have hlt:=hB.lt;have hws:=gQ w0.heap.size;have hvl:∀g,v.ownBlock=some g->g<w0.heap.size:=λg hg=>(Gn hO0 hg).1;obtain⟨A1,c1,rfl⟩:=Qf hO0;have hF:=FR.start w0<|Wk w0 B pb;refine rn 9<|Ed hC (Ij Yz O O) ?_;rintro _ w ⟨rfl,hE,hh,hO⟩;have hws:=fQ hws hE.size;have hBw:=fQ hBw hE.size;have hF:FR w0 (Wk w0 B pb) [(pb,.cells #[V pb,.slice A1 (aL s) c1,.bool m,J i] 269)] w:=(hF.touch hE (λb hb=>by obtain rfl:=pQ.1 hb;exact⟨λ_=>Ue.2<|.inl rfl,Ca⟩)).addD hh (.inr<|Ue.2<|.inl rfl) Ca;clear hE hh;refine rn 20<|Yb (Zx hO hr0 hr1 fX hBw) ?_;rintro v2 w2 ⟨hO2,o,hg⟩;have hF:=(hF.ext<|Same.alloc _ o).grown hg (λb hb=>⟨λ_=>(hv b hb).1,by have h1:=(hv b hb).2;have h2:=hvl b hb;intro p hp;simp only[oQ,List.not_mem_nil,or_false]at hp;rcases hp with rfl <;> grind⟩);have hsz:=fQ (Same.alloc _ o).size hg.size;clear hO hg;revert hsz hF hO2;generalize w2=w;intro hO hF hsz;have hws:=fQ hws hsz;have hBw:=fQ hBw hsz;have hne2:∀g,v2.ownBlock=some g->g≠pb:=λg hg=>Fs hO hg (hF.heap (i:=0) rfl) rfl;obtain⟨A2,c2,rfl⟩:=Qf hO;clear hsz;refine rn 3 ?_;intro w hF hE;have hws:=fQ hws hE.size;have hBw:=fQ hBw hE.size;have hO:=Oh hO hE (λg hg=>by simpa using hne2 g hg);refine rn 10<|Tc (W4<|(aL (Fl r):Nat)) ?_;refine rn 5 ?_;exact⟨O,⟨.inr ⟨O,m,i,O⟩,hle,_,_,hF.heap (i:=0) O,by simpa[Qn,Lib.byteCells,Eh]using hO,.inr O⟩,hF.same⟩
def N5:prog.cellsOf 5=1:=by kernel_rfl
theorem Same.freeze(w:World)(a:Addr)(n:Nat):Same [a.block] w (w.freeze a n):=by
  have h:=Lib.below_freeze (B:=a.block) (Below.refl a.block w) (p:=a) (gQ _) n;refine⟨h.os,h.tape,h.output,h.size,λb hb hn=>?_⟩;have hn':b≠a.block:=qJ
  unfold World.freeze;grind
theorem string_a(w0:World)(B pb:Nat)(s:Str)(hB:Bd w0 B pb 200 [] s)(h0:s≠[]):Calls prog 155 #[V pb] w0 (Qb λv w'=>v=I s/\Same (Wk w0 B pb) w0 w'):=by
 refine Wb func155 ntmps155 O O ?_;obtain⟨-,hle,ap,v,hh,hO,-⟩:=hB;have hsl:aL s≠0:=aS h0
 obtain⟨g,c1,cur,rfl,hbg,hg,hnc,hcm,hcs,htake⟩:∃g cap cur,v=W g (aL s) cap/\B<=g/\w0.heap[g]? = some (.cells cur 5 (0,0))/\aL s<=cap/\cap<=maxLen/\cur.size=cap*1/\cur.toList.take (aL s*1)=Lib.byteCells s:=by
   rcases hO.2 with ⟨_,hz⟩|⟨g,cap,cur,hv,r⟩
   ·exact absurd hz hsl
   exact⟨g,cap,cur,hv,r⟩
 have hgm:g∈Wk w0 B pb:=ME hO rfl;have hgn:g≠pb:=Fs hO rfl hh (by rfl);have hF:FR w0 (Wk w0 B pb) [(pb,.cells #[ap,W g (aL s) c1] 200)] w0:=(FR.start w0<|Wk w0 B pb).addD hh (.inr<|Ue.2<|.inl rfl) Ca;refine rn 6<|Vb (.of []) (bQ [0,1,2,3,5,6,7,8,9]<|.act 4<|.act 10<|.free 11 .nil) hF ?_;intro w hF hE;have hg:=(hE.block g (Ga hg) Ca).trans hg;have hO:=Oh hO hE Ca;refine⟨λwq=>FR w0 (Wk w0 B pb) _ wq,hF,?_⟩;refine rn 9<|Hm O (x_usd O fX) hF ?_;have hu:(Builtin.unsafeString_ #[231,3] 9 #[V g,J (aL s)]).run prog w=.ok (I s) (w.freeze ⟨g,0,none⟩ (aL s)):=Lib.run_unsafeString_row w 231 3 9 5 underlying231 N5 g cur.size (by simp[World.shape?,hg]) s h0 fX (by simp only[maxLen]at hcm;omega) λj x hx=>hO.cells (g:=g) rfl j (.int .u8 x.toNat) (by simp[Lib.byteCells,hx]);have hEf:FR w0 (Wk w0 B pb) _ (w.freeze ⟨g,0,none⟩ (aL s)):=hF.touch (Same.freeze w ⟨g,0,none⟩ (aL s)) (λb hb=>by obtain rfl:=pQ.1 hb;exact⟨λ_=>hgm,by simpa using hgn.symm⟩);refine Hm O (x_uss O O hu) hEf ?_;have hF:=hEf;refine rn 4 ?_;exact⟨O,hF.same⟩
theorem string_b(w0:World)(B pb:Nat)(m:Bool)(i:Int)(s:Str)(hB:Bd w0 B pb 269 [.bool (m),J i] s)(h0:s≠[]):Calls prog 155 #[V pb] w0 (Qb λv w'=>v=I s/\Same (Wk w0 B pb) w0 w'):=by
 refine Wb func155 ntmps155 O O ?_;obtain⟨-,hle,ap,v,hh,hO,-⟩:=hB;have hsl:aL s≠0:=aS h0
 obtain⟨g,c1,cur,rfl,hbg,hg,hnc,hcm,hcs,htake⟩:∃g cap cur,v=W g (aL s) cap/\B<=g/\w0.heap[g]? = some (.cells cur 5 (0,0))/\aL s<=cap/\cap<=maxLen/\cur.size=cap*1/\cur.toList.take (aL s*1)=Lib.byteCells s:=by
   rcases hO.2 with ⟨_,hz⟩|⟨g,cap,cur,hv,r⟩
   ·exact absurd hz hsl
   exact⟨g,cap,cur,hv,r⟩
 have hgm:g∈Wk w0 B pb:=ME hO rfl;have hgn:g≠pb:=Fs hO rfl hh (by rfl);have hF:FR w0 (Wk w0 B pb) [(pb,.cells #[ap,W g (aL s) c1,.bool m,J i] 269)] w0:=(FR.start w0<|Wk w0 B pb).addD hh (.inr<|Ue.2<|.inl rfl) Ca;refine rn 6<|Vb (.of []) (bQ [0,1,2,3,5,6,7,8,9]<|.act 4<|.act 10<|.free 11 .nil) hF ?_;intro w hF hE;have hg:=(hE.block g (Ga hg) Ca).trans hg;have hO:=Oh hO hE Ca;refine⟨λwq=>FR w0 (Wk w0 B pb) _ wq,hF,?_⟩;refine rn 9<|Hm O (x_usd O fX) hF ?_;have hu:(Builtin.unsafeString_ #[231,3] 9 #[V g,J (aL s)]).run prog w=.ok (I s) (w.freeze ⟨g,0,none⟩ (aL s)):=Lib.run_unsafeString_row w 231 3 9 5 underlying231 N5 g cur.size (by simp[World.shape?,hg]) s h0 fX (by simp only[maxLen]at hcm;omega) λj x hx=>hO.cells (g:=g) rfl j (.int .u8 x.toNat) (by simp[Lib.byteCells,hx]);have hEf:FR w0 (Wk w0 B pb) _ (w.freeze ⟨g,0,none⟩ (aL s)):=hF.touch (Same.freeze w ⟨g,0,none⟩ (aL s)) (λb hb=>by obtain rfl:=pQ.1 hb;exact⟨λ_=>hgm,by simpa using hgn.symm⟩);refine Hm O (x_uss O O hu) hEf ?_;have hF:=hEf;refine rn 4 ?_;exact⟨O,hF.same⟩
theorem Pp{w0:World}{B pb T:Nat}{rest:List Value}{s:Str}(hB:Bd w0 B pb T rest s)(c:UInt8)(hl:aL s+1<=140737488355328):Qw 267 #[V pb,.int .u8 ((c.toNat:Nat):Int)] .nilIface w0 B pb T rest (s++[c]):=by
  rcases hB.shp with ⟨rfl,rfl⟩|⟨rfl,m,i,rfl⟩
  all_goals grind [EI,LI]
theorem Dj{w0:World}{B pb T:Nat}{rest:List Value}{s:Str}(hB:Bd w0 B pb T rest s)(t:Str)(hl:aL s+aL t<=140737488355328):Qw 153 #[V pb,I t] (.tuple #[J ((aL t:Nat):Int),.nilIface]) w0 B pb T rest (s++t):=by
  rcases hB.shp with ⟨rfl,rfl⟩|⟨rfl,m,i,rfl⟩
  all_goals grind [Y9,Z9]
theorem DI{w0:World}{B pb T:Nat}{rest:List Value}{s:Str}(hB:Bd w0 B pb T rest s)(r:Int)(h0:-2147483648<=r)(h1:r<=2147483647)(hl:aL s+4<=140737488355328):Qw 274 #[V pb,.int .i32 r] (.tuple #[J ((aL (Fl r):Nat):Int),.nilIface]) w0 B pb T rest (s++Fl r):=by
  rcases hB.shp with ⟨rfl,rfl⟩|⟨rfl,m,i,rfl⟩
  all_goals grind [XK,XF]
theorem TG{w0:World}{B pb T:Nat}{rest:List Value}{s:Str}(hB:Bd w0 B pb T rest s)(h0:s≠[]):Calls prog 155 #[V pb] w0 (Qb λv w'=>v=I s/\Same (Wk w0 B pb) w0 w'):=by
  rcases hB.shp with ⟨rfl,rfl⟩|⟨rfl,m,i,rfl⟩
  all_goals grind [string_a,string_b]
structure BW (w0:World) (Ds:List Nat) (w:World) (B pb T:Nat) (rest:List Value) (s:Str):Prop where
  bd:Bd w B pb T rest s
  sub:∀x∈Wk w B pb,x<w0.heap.size->x∈Ds
  ge:w0.heap.size<=w.heap.size
section
variable {w0 w w':World}{Ds E:List Nat}{bs_:List (Nat × Obj)}{B pb T:Nat}{rest:List Value}{s t:Str}
theorem BW.start(h:Bd w0 B pb T rest s):BW w0 (Wk w0 B pb) w0 B pb T rest s:=⟨h,λx hx _=>hx,gQ _⟩
def BW.own(h:Bd w B pb T rest s)(hb:w0.heap.size<=B)(hg:w0.heap.size<=w.heap.size):BW w0 Ds w B pb T rest s :=
  ⟨h,λx hx hl=>by
    have:=h.le;rcases Ue.1 hx with rfl|⟨-,h2,-⟩ <;> omega,hg⟩
def BW.lt(h:BW w0 Ds w B pb T rest s):pb<w.heap.size:=h.bd.lt
def BW.wrote(h:BW w0 Ds w B pb T rest s)(hb:Bd w' B pb T rest t)(hs:Same (Wk w B pb) w w'):BW w0 Ds w' B pb T rest t :=
  ⟨hb,λx hx hl=>by
    rcases Wk.step hs hx with h1|h1
    ·exact h.sub x h1 hl
    have:=h.ge;omega,fQ h.ge hs.size⟩
theorem FR.wrote(hF:FR w0 Ds bs_ w)(h:BW w0 Ds w B pb T rest s)(hs:Same (Wk w B pb) w w')(hb:∀p∈bs_,Xi p.2=false/\p.1≠pb):FR w0 Ds bs_ w' :=
  hF.touch hs λx hx=>⟨h.sub x hx,λp hp e=>by
    have h1:=hb p hp;rcases Ue.1 hx with h2|⟨-,-,h3⟩
    ·exact h1.2<|e.trans h2
    rw[<-e,Yt<|hF.memHeap hp,h1.1]at h3;cases h3⟩
theorem Bd.same(h:Bd w B pb T rest s)(hs:Same E w w')(hp:pb∉E)(he:∀x∈E,Zt w x=false):Bd w' B pb T rest s:=by
  obtain⟨h1,h2,ap,v,h3,h4,h5⟩:=h;refine⟨h1,h2,ap,v,(hs.block pb (Ga h3) hp).trans h3,Oh h4 hs λg hg hm=>?_,h5⟩;have:=(Gn h4 hg).2.2;grind
def Bd.ext(h:Bd w B pb T rest s)(hs:Same [] w w'):Bd w' B pb T rest s:=h.same hs Ca Ca
def BW.step(h:BW w0 Ds w B pb T rest s)(hs:Same E w w')(hp:pb∉E)(he:∀x∈E,Zt w x=false)(he':∀x∈E,Zt w' x=false):BW w0 Ds w' B pb T rest s :=
  ⟨h.bd.same hs hp he,λx hx hl=>by
    refine h.sub x (Ue.2 ?_) hl;have hl2:=Nat.lt_of_lt_of_le hl h.ge;rcases Ue.1 hx with rfl|⟨-,h2,h3⟩
    ·exact .inl O
    refine .inr ⟨hl2, h2, ?_⟩;have hn:x∉E:=λhm=>by rw[he' x hm]at h3;cases h3
    rw[Zt,<-hs.block x hl2 hn];exact h3,fQ h.ge hs.size⟩
def BW.ext(h:BW w0 Ds w B pb T rest s)(hs:Same [] w w'):BW w0 Ds w' B pb T rest s:=h.step hs Ca Ca Ca
def Rep.off{d:D}(h:Rep (λx=>x∉Wk w B pb) w d cs)(hs:Same (Wk w B pb) w w'):Rep (λx=>x∉Wk w' B pb) w' d cs :=
  ((h.old).same hs (λb hb hn=>hn.1 hb)).weaken λx hx _ hm=>by
    rcases Wk.step hs hm with h1|h1
    ·exact hx.1 h1
    have:=hx.2;omega
def Rep.off_ext{d:D}(h:Rep (λx=>x∉Wk w B pb) w d cs)(hp:pb<w.heap.size)(hs:Same [] w w'):Rep (λx=>x∉Wk w' B pb) w' d cs:=h.off (hs.mono Ca)
end
section
variable {P:Program}{w:World}{ρ:Operand->Value}{dst:Option Nat}{ty:TypeId}{pos:String}{aft:Array Edge}{g:Option (Nat × Bool)}
def LS{t t':TypeId}{k:IntKind}{a b c:Int}(hx:ρ x=.int k a)(hy:ρ y=.int k b)(h:bits .and k a b=c) :
    (execOp ρ ⟨dst,.binOp .and t x y t',ty,pos,aft,g⟩).run P w=.ok (.value (.int k c)) w:=by simp[execOp,hx,hy,Yc,binOp,intBits_and,h]
def x_shr{t t':TypeId}{k k2:IntKind}{a c:Int}(m:Nat)(hx:ρ x=.int k a)(hy:ρ y=.int k2 m)(hm:m<=k.bits)(h:a.fdiv (2 ^ m)=c) :
    (execOp ρ ⟨dst,.binOp .shr t x y t',ty,pos,aft,g⟩).run P w=.ok (.value (.int k c)) w:=by
  have hg:(eqGuard .shr t x y (.int k a)<|.int k2 m).run P w=.ok () w:=by unfold eqGuard;simp
  have h0:¬((m:Int)<0):=by_Om
  simp[execOp,hx,hy,hg,binOp,Op.shift,h0,Nat.min_eq_left hm,h]
theorem Kw{t:Nat}(i:Nat)(ht:P.underlying t=some (.array N e))(hs:∀w,(sizeOf e).run P w=.ok 1 w)(hx:ρ x=V b)(hy:ρ y=.int kk (i:Int))(h1:i<N) :
    (execOp ρ ⟨dst,.indexAddr t x y,ty,pos,aft,g⟩).run P w=.ok (.value (.pointer (some ⟨b,i,none⟩))) w:=by
  have h2:(0:Int)<=(i:Int)/\(i:Int)<(N:Int):=by_Om
  have e1:(⟨b,0,none⟩:Addr).add i=⟨b,i,none⟩:=by grind [Qe]
  simp[execOp,hx,hy,Instr.indexAt,run_underlying ht,Instr.sureAddr,asIntOf,h2,hs,e1];grind
theorem YO{t:Nat}(i:Nat)(ht:P.underlying t=some (.array N e))(hs:∀w,(sizeOf e).run P w=.ok 1 w)(hx:ρ x=V b)(hy:ρ y=.int kk (i:Int))(h1:i<N) :
    (execOp ρ ⟨dst,.slice t x (some y) none none,ty,pos,aft,g⟩).run P w=.ok (.value (.slice (some ⟨b,i,none⟩) (N-i) (N-i))) w:=by
  have h0:¬N=i:=by_Om
  have e1:(⟨b,0,none⟩:Addr).add i=⟨b,i,none⟩:=by grind [Qe]
  have e2:(0:Int)<=(i:Int)/\(i:Int)<=(N:Int):=by_Om
  simp[execOp,hx,hy,Instr.sliceAt,run_underlying ht,Instr.sureAddr,Instr.sliceBounds,run_sliceBound,hs,e1,h0,e2]
theorem x_convBs{t:Nat}{n c:Nat}(s:Str)(ht:P.underlying t=some (.slice e))(he:P.underlying e=some (.int .u8))(hd:P.underlying t'=some .string)(hx:ρ x=.slice (some a) n c)(hn:aL s=n)
    (h:∀j (hj:j<aL s),w.cell? (a.add j)=some (.int .u8 (s[j].toNat:Int))) :
    (execOp ρ ⟨dst,.convert t t' x,ty,pos,aft,g⟩).run P w=.ok (.value (I s)) w:=by
  have hl:=Xp (P:=P) a w ((s.map λu=>(u.toNat:Int)).map (Value.int .u8)) (m:=n) (by simp[hn]) (λj hj=>by simp at hj ⊢;exact h j hj);have hb:=run_bytesToString w a n c (s.map λu=>(u.toNat:Int)) hl;have e1:∀(l:Str)(acc:ByteArray),(l.map λu=>(u.toNat:Int)).foldl (λr n=>r.push<|UInt8.ofNat n.toNat) acc=⟨acc.data++l.toArray⟩:=by
    intro l
    induction l with
    | nil =>
      intro acc;simp
    | cons u l ih=>simp_all
  rw[e1]at hb;simp[execOp,hx,run_convert_bytes_string w t t' e _ _ _ ht he hd,hb]
end
def AM:List Value:=List.replicate 65 (.int .u8 0)
def Hx:Str:=[48,49,50,51,52,53,54,55,56,57,97,98,99,100,101,102,103,104,105,106,107,108,109,110,111,112,113,114,115,116,117,118,119,120,121,122]
def dg(k:Nat):UInt8:=Hx.getD k 0
def Hn(r:Nat):Str:=if r<16 then [dg r] else [dg (r/16),dg (r%16)]
def U1(h:k<aL Hx):Hx[k]=dg k:=by simp[dg,h]
def wrap64:∀r<32,IntKind.u64.wrap ((r:Nat):Int)=r:=Pa
def and15:∀u<32,bits .and .u64 ((u:Nat):Int) 15=((u%16:Nat):Int):=Pa
def tz64_c(w0:World)(hG:Gl w0):Calls prog 221 #[.int .u64 16] w0 (Qb λv w'=>v=J 4/\Same [] w0 w'):=by
 obtain⟨e,fz,hbr⟩:=hG.bru;refine Ha func221 ntmps221 ?_;intro hF;refine rn 9<|Da (v:=.bool false) (Gd Vk Pa) ?_;refine rn 9<|Da (v:=.int .u64 18446744073709551600) (U_ O Pa)<|Da (v:=.int .u64 16) (LS O O Pa)<|Da (v:=.int .u64 4573923408821661840) (F8 O O Pa)<|Da (v:=.int .u64 15) (x_shr 58 O O Pa Pa)<|Da (v:=.pointer<|some<|⟨7,15,none⟩) (Kw 15 underlying293 sizeOf5 O O Pa) ?_;refine Da (v:=.int .u8 4) (Ma isAgg5 (hx:=O) (by rw[Ra<|hF.heap0 hbr];rfl)) ?_;refine Da (v:=J 4) (Ng underlying5 yZ O Pa)<|rn 4 ?_;exact⟨O,hF.same⟩
def tz_c(w0:World)(hG:Gl w0):Calls prog 194 #[.int .u64 16] w0 (Qb λv w'=>v=J 4/\Same [] w0 w'):=by
 refine Ha func194 ntmps194 ?_;intro hF;refine rn 12<|Ta (tz64_c _<|hG.ext hF.same) ?_;rintro w hF -;refine rn 4 ?_;exact⟨O,hF.same⟩
def pow2_c(w0:World):Calls prog 193 #[J 16] w0 (Qb λv w'=>v=.bool true/\Same [] w0 w'):=by
 refine Ha func193 ntmps193 ?_;intro hF;refine rn 9<|Da (v:=J 15) (N3 O O Pa)<|Da (v:=J 0) (LS O O Pa)<|Da (v:=.bool true) (Ah Vk Pa) ?_;refine rn 4 ?_;exact⟨O,hF.same⟩
def NE(w0:World)(hG:Gl w0)(r:Nat)(hr:r<32):Calls prog 161 #[aQ,.int .u64 (r:Int),J 16,.bool false,.bool false] w0 (Qb λv w'=>v=.tuple #[aQ,I (Hn r)]/\Same [] w0 w'):=by
 refine Ha func161 ntmps161 ?_;intro hF;refine rn 10<|Da (v:=.bool false) (Gd (CQ O O) Pa) ?_;refine rn 2<|Da (v:=.bool false) (Gd Vk Pa) ?_;refine rn 3<|Da (v:=.bool false) (Gd (NQ O O) Pa) ?_;refine rn 8<|KE (cs:=(List.toArray AM)) hF zeroValue241 Ib ?_;rintro b1 w hb1 hF -;refine rn 20<|Ta (pow2_c _) ?_;rintro w hF -;refine rn 6<|Da (v:=.int .u64 16) (Ng yZ underlying164 O Pa) ?_;refine Ta (tz_c _<|hG.ext hF.same) ?_;rintro w hF -;refine Da (v:=.int .u64 4) (Ng yZ underlying164 O Pa)<|rn 6 ?_;refine Da (v:=.int .u64 16) (Ng yZ underlying207 O Pa)<|rn 6 ?_;refine Da (v:=.int .u64 16) (Ng yZ underlying164 O Pa)<|Da (v:=.int .u64 15) (N3 O O Pa) ?_;refine rn 5<|Za (λμ σ w=>∃(u:Nat),∃(i:Nat),∃(cs:List Value),μ=2*u/\((u=r/\i=65/\cs=AM)\/(16<=r/\u=r/16/\i=64/\cs=AM.set 64 (.int .u8 ((dg<|r%16).toNat:Int))))/\AllEq σ [(0,aQ),(1,.int .u64<|(u:Int)),(3,.bool false),(4,.bool false),(10,aQ),(11,I []),(12,V b1),(13,J<|(i:Int)),(14,.int .u64 4),(15,.int .u64 16),(16,.int .u64 15)]/\FR w0 [] [(b1,.cells (List.toArray cs) 241)] w) _ ⟨r,65,AM,O,.inl ⟨O,O,O⟩,Gc,hF⟩ ?_;rintro μ σ w ⟨u,i,cs,rfl,hI,hzz,hF⟩;have hcl:aL cs=65:=by rcases hI with ⟨-,-,rfl⟩|⟨-,-,-,rfl⟩ <;> simp[AM]
 have hu32:u<32:=by_Om
 refine Gh hzz 9 ⟨λhc3=>?_,λhc3=>?_⟩
 ·
  refine rn 6<|Tc (W4<|((64:Nat):Int)) ?_;refine rn 8<|Da (v:=.int .u64<|((u%16:Nat):Int)) (LS O O<|and15 u fX) ?_;refine Da (v:=.int .u8<|((dg<|u%16).toNat:Int)) (by rw[<-U1 (show u%16<aL Hx by show u%16<36;omega)];exact En (u%16) bX O O _) ?_;refine Da (v:=.pointer<|some ⟨b1,64,none⟩) (Kw 64 underlying241 sizeOf5 O O Pa) ?_;refine Cd 0 (l:=[.int .u8 (((dg<|u%16).toNat:Nat):Int)]) (cs':=(List.toArray<|cs.set 64<|.int .u8 (((dg<|u%16).toNat:Nat):Int))) hF sizeOf5 O (v:=.int .u8 (((dg<|u%16).toNat:Nat):Int)) O O Cm O (by simp[hcl] <;> omega) (by simp[putA]) ?_;rintro w hF -;have hF:FR w0 [] [(b1,.cells (List.toArray<|cs.set 64<|.int .u8 (((dg<|u%16).toNat:Nat):Int)) 241)] w:=hF;refine rn 5 ?_;refine Da (v:=.int .u64<|((u/16:Nat):Int)) (x_shr 4 O O Pa (by rw[Int.fdiv_eq_ediv_of_nonneg _ Pa];omega)) ?_;refine rn 3 ?_;refine Va ⟨_,?_,u/16,64,cs.set 64<|.int .u8 (((dg<|u%16).toNat:Nat):Int),rfl,(.inr (by rcases hI with ⟨rfl,rfl,rfl⟩|⟨h16,rfl,rfl,rfl⟩ <;> first|omega|exact⟨by_Om,rfl,rfl,rfl⟩)),Gc,hF⟩;omega
 refine rn 5<|Tc (W4<|((i-1:Nat):Int)) ?_;refine rn 6 ?_;refine Da (v:=.int .u8<|((dg u).toNat:Int)) (by rw[<-U1 (show u<aL Hx by show u<36;omega)];exact En u bX O O _) ?_;refine Da (v:=.pointer<|some ⟨b1,i-1,none⟩) (Kw (i-1) underlying241 sizeOf5 O O fX) ?_;refine Cd 0 (l:=[.int .u8 (((dg u).toNat:Nat):Int)]) (cs':=(List.toArray<|cs.set (i-1)<|.int .u8 (((dg u).toNat:Nat):Int))) hF sizeOf5 O (v:=.int .u8 (((dg u).toNat:Nat):Int)) O O Cm O (by simp[hcl] <;> omega) (by simp[putA]) ?_;rintro w hF -;have hF:FR w0 [] [(b1,.cells (List.toArray<|cs.set (i-1)<|.int .u8 (((dg u).toNat:Nat):Int)) 241)] w:=hF;refine rn 23<|Da (v:=.slice (some ⟨b1,i-1,none⟩) (65-(i-1))<|65-(i-1)) (YO (i-1) underlying241 sizeOf5 O O fX) ?_;have hfin:aL (Hn r)=65-(i-1)/\∀j (hj:j<aL (Hn r)),w.cell? ((⟨b1,i-1,none⟩:Addr).add j)=some (.int .u8 ((Hn r)[j].toNat:Int)):=by
   have hh:=hF.heap (i:=0) rfl;rcases hI with ⟨rfl,rfl,rfl⟩|⟨h16,rfl,rfl,rfl⟩
   ·have h1 : Hn u = [dg u] := by rw[Hn, uQ fX]
    refine⟨by rw[h1];rfl,λj hj=>?_⟩;have hj0:j=0:=by rw[h1]at hj;simpa using hj
    subst hj0;rw[Qe,Ra hh];simp[h1,AM]
   have h1 : Hn r = [dg<|r/16, dg (r%16)] := by rw[Hn, tQ fX]
   refine⟨by rw[h1];rfl,λj hj=>?_⟩;have hj2:j=0\/j=1:=by rw[h1]at hj;simp at hj;omega
   rw[Qe,Ra hh];rcases hj2 with rfl|rfl <;> simp[h1,AM]
 refine Da (v:=I<|Hn r) (x_convBs (Hn r) underlying198 underlying5 bX O hfin.1 hfin.2)<|rn 4 ?_;exact⟨O,hF.same⟩
def ZZ(w0:World)(hG:Gl w0)(r:Nat)(hr:r<32):Calls prog 117 #[J (r:Int),J 16] w0 (Qb λv w'=>v=I (Hn r)/\Same [] w0 w'):=by
 refine Ha func117 ntmps117 ?_;intro hF;refine rn 9<|Da (v:=.bool false) (Gd Vk Pa) ?_;refine rn 8<|Da (v:=.int .u64<|(r:Int)) (Ng underlying2 underlying207 O<|wrap64 r hr) ?_;refine rn 2<|Da (v:=.bool false) (Gd (CQ O O) fX) ?_;refine Ta (NE _ (hG.ext hF.same) r hr) ?_;rintro w hF -;refine rn 14 ?_;exact⟨O,hF.same⟩
def hex_c(w0:World)(hG:Gl w0)(r:Nat)(hr:r<32):Calls prog 275 #[J (r:Int),J 16] w0 (Qb λv w'=>v=I (Hn r)/\Same [] w0 w'):=by
 refine Ha func275 ntmps275 ?_;intro hF;refine rn 9<|Ta (ZZ _ (hG.ext hF.same) r hr) ?_;rintro w hF -;refine rn 4 ?_;exact⟨O,hF.same⟩
def If(r:Int):Int:=if r=34 then 34 else if r=92 then 92 else if r=8 then 98 else if r=12 then 102 else if r=10 then 110 else if r=13 then 114 else if r=9 then 116 else 0
theorem letter_c(w0:World)(r:Int):Calls prog 273 #[.int .i32 r] w0 (Qb λv w'=>v=.int .u8 (If r)/\Same [] w0 w'):=by
 refine Ha func273 ntmps273 ?_;intro hF;refine rn 20 ⟨λhc0=>?_,λhc0=>?_⟩;refine rn 6 ?_;refine Da (v:=.int .u8<|If r) (Ng underlying21 underlying5 rfl bR) ?_;refine rn 4 ?_;refine⟨?_,hF.same⟩;simp_all[If];refine rn 6 ⟨λhc1=>?_,λhc1=>?_⟩;refine rn 3 ?_;refine Da (v:=.int .u8<|If r) (Ng underlying21 underlying5 rfl bR) ?_;refine rn 4 ?_;refine⟨?_,hF.same⟩;simp_all[If];refine rn 7 ⟨λhc2=>?_,λhc2=>?_⟩;refine rn 6 ?_;refine⟨?_,hF.same⟩;simp_all[If];refine rn 7 ⟨λhc3=>?_,λhc3=>?_⟩;refine rn 6 ?_;refine⟨?_,hF.same⟩;simp_all[If];refine rn 7 ⟨λhc4=>?_,λhc4=>?_⟩;refine rn 6 ?_;refine⟨?_,hF.same⟩;simp_all[If];refine rn 7 ⟨λhc5=>?_,λhc5=>?_⟩;refine rn 6 ?_;refine⟨?_,hF.same⟩;simp_all[If];refine rn 7 ⟨λhc6=>?_,λhc6=>?_⟩;refine rn 6 ?_;refine⟨?_,hF.same⟩;simp_all[If];refine rn 9 ?_;refine⟨?_,hF.same⟩;simp_all[If]
def Tz(r:Nat):Str:=if If r≠0 then [92,UInt8.ofNat (If r).toNat] else if 32<=r then Fl r else [92,117]++Lib.repeatL [48] (4-aL (Hn r))++Hn r
def E4:Nat->Str->Nat->Str
  | 0,_,_=>[]
  | f+1,s,p=>if p<aL s then Tz (Utf8.decode (bs s) p).1++E4 f s (p+(Utf8.decode (bs s) p).2) else []
theorem QS:∀(f g:Nat)(s:Str)(p:Nat),aL s-p<=f->aL s-p<=g->E4 f s p=E4 g s p
  | 0,0,_,_,_,_=>rfl
  | 0,g+1,s,p,h,_=>by rw[E4,E4,tQ fX]
  | f+1,0,s,p,_,h=>by rw[E4,E4,tQ fX]
  | f + 1, g + 1, s, p, h1, h2 => by
    rw[E4,E4];split
    ·have h3 := Ff s p
     rw[QS f g s _ fX fX]
    rfl
def Iv(s:Str)(p:Nat):Str:=E4 (aL s-p) s p
def Zr{s:Str}{p:Nat}(h:p<aL s):Iv s p=Tz (Utf8.decode (bs s) p).1++Iv s (p+(Utf8.decode (bs s) p).2):=by
  have h3:=Ff s p;obtain⟨f,hf⟩:∃f,aL s-p=f+1:=⟨aL s-p-1,by_Om⟩;rw[Iv,hf,E4,uQ h,Iv,QS f (aL s-(p+(Utf8.decode (bs s) p).2)) s _ fX fX]
theorem JA{s:Str}{p:Nat}(h:¬p<aL s):Iv s p=[]:=by
  have e:aL s-p=0:=by_Om
  rw[Iv,e,E4]
def Z8(s:Str):Str:=[34]++Iv s 0++[34]
theorem Nv(r:Int):0<=If r/\If r<256:=by grind [If]
theorem Em(r:Nat):1<=aL (Hn r)/\aL (Hn r)<=2:=by grind [Hn]
theorem Rr(n:Nat):aL (Lib.repeatL [48] n)=n:=by
  induction n with
  | zero=>rfl
  | succ n ih =>
    simp[Lib.repeatL,ih]
    try omega
theorem Cp(r:Nat):aL (Tz r)<=6:=by grind [Tz,Ir,Em,Rr]
theorem Gg{w0:World}{B pb T:Nat}{rest:List Value}{s:Str}(hB:Bd w0 B pb T rest s)(z:Int)(h0:0<=z)(h1:z<256)(hl:aL s+1<=140737488355328):Qw 267 #[V pb,.int .u8 z] .nilIface w0 B pb T rest (s++[UInt8.ofNat z.toNat]):=by
  have h:=Pp hB (UInt8.ofNat z.toNat) hl;have e:(((UInt8.ofNat z.toNat).toNat:Nat):Int)=z:=by simp only[UInt8.toNat_ofNat'];omega
  grind
theorem quote_c(w0:World)(hG:Gl w0)(s:Str)(hl:aL s<=17592186044416):Calls prog 266 #[I s] w0 (Qb λv w'=>v=(if Lib.validD s=true then .tuple #[I (Z8 s),J 0] else .tuple #[I [],J 2])/\Same [] w0 w'):=by
 refine Ha func266 ntmps266 ?_;intro hF;refine rn 10<|Ed (M4 s fX _<|hG.ext hF.same) (Ij en_70 O O) ?_;rintro _ w ⟨n0,rfl,hE⟩;have hF:=hF.ext hE;refine rn 14 ⟨λhc0=>?_,λhc0=>?_⟩;refine rn 6<|Bo<|Ej λ_ hr=>Ug (res_2 (v:=I []) (x:=J 2) hr O O) ?_;exact⟨by rw[tQ (aS hc0)],hF.same⟩;refine rn 4<|KE (cs:=#[.pointer none,aQ]) hF zeroValue200 O ?_;rintro b1 w hb1 hF -;refine rn 4 ?_;have hBn:BW w0 [] w b1 b1 200 [] []:=BW.own ⟨.inl ⟨rfl,rfl⟩,gQ _,_,_,hF.heap (i:=0) rfl,World.ownsRow_nil _ _ _ _,.inl rfl⟩ (hF.ge (i:=0) rfl) hF.same.size;have hB:=hBn;have hF:=hF.drop 1;have hF:FR w0 [] [] w:=hF;have ho:(0:Nat)<=0/\aL ([]:Str)<=0:=Ca
 refine Ed (Gg hB.bd (34) fX fX Ca) (Yh Xy O O O) ?_;rintro _ w ⟨rfl,hBd,hE⟩;have hF:=hF.wrote hB hE Ca;have hB:=hB.wrote hBd hE;clear hBd hE;refine rn 6<|Dy (str:=s) hF bX O ?_;intro b2 w hb2 hF hE;have nb2:b2≠b1:=by have:=hB.lt;omega
 have hB:=hB.ext hE;refine rn 3<|Za (λμ σ w=>∃(q:Nat),∃(o:Str),μ=aL s-q/\(o++Iv s q=[34]++Iv s 0)/\(aL o<=1+6*q/\aL o<=1+6*aL s)/\(BW w0 [] w b1 b1 200 [] o)/\AllEq σ [(6,V b1),(20,V b2)]/\FR w0 [] [(b2,.stringIter (bs s) q)] w) _ ⟨0,[34],O,O,Ca,hB,ae2,hF⟩ ?_;rintro μ σ w ⟨q,o,rfl,hq,ho,hB,hzz,hF⟩;have hr2:Zt w b2=false:=by rw[Yt<|hF.heap (i:=0) rfl];rfl
 refine Gh hzz 2 ?_;by_cases hn0:(q)<aL (s:Str);refine K4 0 (p:=q) (str:=s) hF O O hn0 ?_;intro w hF hE;have hB:=hB.step hE (aS nb2.symm) (aS hr2) (by simp[Yt<|hF.heap (i:=0) rfl,Xi]);refine rn 18<|Ed (letter_c _ (((Utf8.decode (bs s) q).1:Nat):Int)) (Ij en_273 O O) ?_;rintro _ w ⟨rfl,hE⟩;have hF:=hF.ext hE;have hB:=hB.ext hE;refine rn 10 ⟨λhc2=>?_,λhc2=>?_⟩;refine rn 2 ?_;refine Ed (Gg hB.bd (92) fX fX jR) (Yh Xy O O O) ?_;rintro _ w ⟨rfl,hBd,hE⟩;have hF:=hF.wrote hB hE bU;have hB:=hB.wrote hBd hE;clear hBd hE;refine rn 5 ?_;refine Ed (Gg hB.bd (If (((Utf8.decode (bs s) q).1:Nat):Int)) (Nv _).1 (Nv _).2 jR) (Yh Xy O O O) ?_;rintro _ w ⟨rfl,hBd,hE⟩;have hF:=hF.wrote hB hE bU;have hB:=hB.wrote hBd hE;have e1:o++[UInt8.ofNat (92:Int).toNat]++[UInt8.ofNat (If (((Utf8.decode (bs s) q).1:Nat):Int)).toNat]=o++Tz (Utf8.decode (bs s) q).1:=by rw[Tz,uQ (aS hc2)];simp
 rw[e1]at hB;clear hBd hE;refine rn 3 ?_;have h1:=Ff s q;refine Va ⟨_,?_,q+(Utf8.decode (bs s) q).2,o++Tz (Utf8.decode (bs s) q).1,O,by rw[sQ,<-Zr fX];exact hq,jX,hB,ae2,hF⟩;omega;refine rn 10 ⟨λhc3=>?_,λhc3=>?_⟩;refine rn 3 ?_;refine Ed (DI hB.bd (((Utf8.decode (bs s) q).1:Nat):Int) fX (by have:=Lib.rune_le (bs s) q;omega) jR) (Yh en_274 O O O) ?_;rintro _ w ⟨rfl,hBd,hE⟩;have hF:=hF.wrote hB hE bU;have hB:=hB.wrote hBd hE;have e1:o++Fl (((Utf8.decode (bs s) q).1:Nat):Int)=o++Tz (Utf8.decode (bs s) q).1:=by rw[Tz,tQ (aS hc2),uQ fX]
 rw[e1]at hB;clear hBd hE;refine rn 3 ?_;have h1:=Ff s q;refine Va ⟨_,?_,q+(Utf8.decode (bs s) q).2,o++Tz (Utf8.decode (bs s) q).1,O,by rw[sQ,<-Zr fX];exact hq,jX,hB,ae2,hF⟩;omega;refine rn 5<|Da (v:=J<|(((Utf8.decode (bs s) q).1:Nat):Int)) (Ng underlying21 underlying2 O<|Lk fX fX) ?_;refine Ed (hex_c _ (hG.ext hF.same) (Utf8.decode (bs s) q).1 fX) (Yh en_275 O O O) ?_;rintro _ w ⟨rfl,hE⟩;have hF:=hF.ext hE;have hB:=hB.ext hE;refine rn 6 ?_;refine Da (v:=J<|((4-aL (Hn (Utf8.decode (bs s) q).1):Nat):Int)) (N3 O O (have:=Em (Utf8.decode (bs s) q).1;Yf fX fX fX)) ?_;refine Ed (J_ ((4-aL (Hn (Utf8.decode (bs s) q).1):Nat):Int) fX fX _) (Yh EL O O O) ?_;rintro _ w ⟨rfl,hE⟩;have hF:=hF.ext hE;have hB:=hB.ext hE;refine Da (v:=I<|([92,117])++(Lib.repeatL [48]<|4-aL (Hn (Utf8.decode (bs s) q).1))) (Xq O O (by have:=Em (Utf8.decode (bs s) q).1;simp[Rr];omega)) ?_;refine rn 1 ?_;refine Da (v:=I<|(([92,117])++(Lib.repeatL [48]<|4-aL (Hn (Utf8.decode (bs s) q).1)))++(Hn (Utf8.decode (bs s) q).1)) (Xq O O (by have:=Em (Utf8.decode (bs s) q).1;simp[Rr];omega)) ?_;refine Ed (Dj hB.bd _ (by have:=Em (Utf8.decode (bs s) q).1;have h1:=ho.1;have h2:=ho.2;simp[Rr];omega)) (Yh TO O O O) ?_;rintro _ w ⟨rfl,hBd,hE⟩;have hF:=hF.wrote hB hE bU;have hB:=hB.wrote hBd hE;have e1:o++((([92,117])++(Lib.repeatL [48]<|4-aL (Hn (Utf8.decode (bs s) q).1)))++(Hn (Utf8.decode (bs s) q).1))=o++Tz (Utf8.decode (bs s) q).1:=by rw[Tz,tQ (aS hc2),tQ fX]
 rw[e1]at hB;clear hBd hE;refine rn 2 ?_;have h1:=Ff s q;refine Va ⟨_,?_,q+(Utf8.decode (bs s) q).2,o++Tz (Utf8.decode (bs s) q).1,O,by rw[sQ,<-Zr fX];exact hq,jX,hB,ae2,hF⟩;omega;refine Cs 0 (p:=q) (str:=s) hF O O hn0<|rn 9 ?_;refine Ed (Gg hB.bd (34) fX fX jR) (Yh Xy O O O) ?_;rintro _ w ⟨rfl,hBd,hE⟩;have hF:=hF.wrote hB hE bU;have hB:=hB.wrote hBd hE;clear hBd hE;refine rn 4<|Ed (TG hB.bd Ca) (Ij en_155 O O) ?_;rintro _ w ⟨rfl,hE⟩;have hF:=hF.wrote hB hE bU;refine rn 4<|Bo<|Ej λ_ hr=>Ug (res_2 (v:=I<|o++[34]) (x:=J 0) hr O O) ?_;refine⟨?_,hF.same⟩;rw[uQ (aS hc0),Z8,<-hq,JA fX,qQ]
def Co(m:Bool)(ind d:Nat):Str:=if m then [10]++Lib.repeatL [32] (ind*d) else []
def qS(t:Str):Str:=if Lib.validD t=true then Z8 t else []
theorem Jt(c:UInt8)(n:Nat):aL (Lib.repeatL [c] n)=n:=by
  induction n with
  | zero=>rfl
  | succ n ih =>
    simp[Lib.repeatL,ih]
    try omega
theorem Gx(m:Bool)(ind d:Nat):aL (Co m ind d)<=1+ind*d:=by grind [Co,Jt]
theorem DD(s:Str)(p:Nat):aL (Iv s p)<=6*(aL s-p):=by
  induction h:aL s-p using Nat.strongRecOn generalizing p with
  | ind n ih =>
    by_cases hp:p<aL s
    ·rw[Zr hp, dQ]
     have h1:=Cp (Utf8.decode (bs s) p).1;have h2:=Ff s p;grind
    grind [JA]
theorem IB(s:Str):aL (qS s)<=6*aL s+2:=by grind [qS,DD,Z8]
def repeat_c(t:Str)(c:Nat)(h1:c<=9223372036854775807)(h2:aL t*c<=140737488355328)(w:World):Calls prog 115 #[I t,J (c:Int)] w (Qb λv w'=>v=I (Lib.repeatL t c)/\Same [] w w'):=by
  have h:=strings_Repeat (bs t) c w h1 (by rw[Ep];exact h2);exact Iu h
theorem JY(t:Str)(hl:aL t<=17592186044416)(w0:World)(hG:Gl w0):Calls prog 266 #[I t] w0 (Qb λv w'=>v=.tuple #[I (qS t),J (if Lib.validD t=true then 0 else 2)]/\Same [] w0 w'):=by grind [Zi,quote_c,qS]
def Bd.mul{w:World}{B pb T:Nat}{ind:Int}{s:Str}(h:Bd w B pb T [.bool m,J ind] s):w.cell? ⟨pb,2,none⟩=some (.bool m):=by
  obtain⟨ap,v,hh,-⟩:=h.ex;rw[Ra hh];rfl
def Bd.ind{w:World}{B pb T:Nat}{ind:Int}{s:Str}(h:Bd w B pb T [.bool m,J ind] s):w.cell? ⟨pb,3,none⟩=some (J ind):=by
  obtain⟨ap,v,hh,-⟩:=h.ex;rw[Ra hh];rfl
def Gl.wrote{w0 w:World}{B pb:Nat}(h:Gl w0)(hs:Same (Wk w0 B pb) w0 w)(hb:8<=B)(hp:B<=pb):Gl w:=h.same hs λx hx=>by
  rcases Ue.1 hx with rfl|⟨-,h1,-⟩ <;> omega
def JP(w0:World)(B pb:Nat)(m:Bool)(ind:Nat)(s:Str)(hBd:Bd w0 B pb 269 [.bool m,J (ind:Int)] s)(d:Nat)(hd:ind*d<=1000000000)(hl:aL s+aL (Co m ind d)<=140737488355328):Qw 268 #[V pb,J (d:Int)] (.tuple #[]) w0 B pb 269 [.bool m,J (ind:Int)] (s++Co m ind d):=by
 unfold Qw;refine Wb func268 ntmps268 O O ?_;have hB:=BW.start hBd;have hF:=FR.start w0<|Wk w0 B pb;refine rn 5<|Da (v:=.bool m) (Ma isAgg4 hB.bd.mul) ?_;refine rn 3 ⟨λhc0=>?_,λhc0=>?_⟩;rw[Co,uQ hc0]at hl;simp only[dQ,kQ,aZ,Jt]at hl;refine rn 5<|Ed (Gg hB.bd 10 Pa Pa fX) (Yh Xy O O O) ?_;rintro _ w ⟨rfl,hBd,hE⟩;have hF:=hF.wrote hB hE Ca;have hB:=hB.wrote hBd hE;clear hBd hE;refine rn 2<|Vb (.of []) (bQ [0,1,2,3,4,5,6,7,8]<|.act 9<|.act 10 .nil) hF ?_;intro w hF hE;have hB:=hB.ext hE;refine⟨λwq=>FR w0 (Wk w0 B pb) _ wq/\∃s',Bd wq B pb 269 [.bool m,J (ind:Int)] s',⟨hF,⟨_,hB.bd⟩⟩,?_⟩;refine rn 6 ?_;refine Fa rfl (v:=J<|(ind:Int)) (λw hC=>Ma oZ (hx:=rfl) (by obtain⟨-,s_,hs_⟩:=hC;exact hs_.ind)) ?_;refine rn 1<|Fa O (v:=J<|((ind*d:Nat):Int)) (λw hC=>F8 O O<|Yf (by rw[Int.natCast_mul]) fX fX) ?_;refine Fq O (repeat_c [32] (ind*d) fX zS _) (Yh EL O O O) ?_;rintro _ w ⟨rfl,hE⟩;have hF:=hF.ext hE;have hB:=hB.ext hE;refine⟨⟨hF,⟨_,hB.bd⟩⟩,?_⟩;refine Fq O (Dj hB.bd (Lib.repeatL [32]<|ind*d) (by simp[Jt];omega)) (Yh TO O O O) ?_;rintro _ w ⟨rfl,hBd,hE⟩;have hF:=hF.wrote hB hE Ca;have hB:=hB.wrote hBd hE;clear hBd hE;refine⟨⟨hF,⟨_,hB.bd⟩⟩,?_⟩;refine rn 2 ?_;exact⟨O,by simpa[Co,hc0]using hB.bd,hF.same⟩;refine rn 2 ?_;exact⟨O,by simpa[Co,hc0]using hB.bd,hF.same⟩
def FB(w0:World)(B pb:Nat)(m:Bool)(ind:Nat)(s:Str)(hBd:Bd w0 B pb 269 [.bool m,J (ind:Int)] s)(hG:Gl w0)(h8:8<=B)(t:Str)(ht:aL t<=17592186044416)(hl:aL s+aL (qS t)<=140737488355328):Qw 250 #[V pb,I t] (.tuple #[]) w0 B pb 269 [.bool m,J (ind:Int)] (s++qS t):=by
 unfold Qw;refine Wb func250 ntmps250 O O ?_;have hB:=BW.start hBd;have hF:=FR.start w0<|Wk w0 B pb;refine rn 3<|Ta (JY t ht _<|(hG.wrote hF.same h8 hBd.le)) ?_;intro w hF hE;have hB:=hB.ext hE;refine rn 12<|Yb (Dj hB.bd (qS t) fX) ?_;rintro _ w ⟨rfl,hBd,hE⟩;have hF:=hF.wrote hB hE Ca;have hB:=hB.wrote hBd hE;clear hBd hE;refine rn 2 ?_;exact⟨O,hB.bd,hF.same⟩
def Vp(m:Bool)(ind d:Nat):Bool->List Str->Str
  | _,[]=>[]
  | first,p::ps=>(if first then [] else [44])++(Co m ind (d+1)++(p++Vp m ind d false ps))
def Dq(m:Bool)(ind d:Nat)(o c:UInt8)(ps:List Str):Str:=[o]++(Vp m ind d true ps++((if ps=[] then [] else Co m ind d)++[c]))
mutual
def Zj(m:Bool)(ind:Nat):Tree->Nat->Str
  | .node k t ks xs,d=>if k=1 then [110,117,108,108] else if k=4 then qS t else if k=5 then Dq m ind d 91 93 (Xt m ind xs (d+1)) else if k=6 then Dq m ind d 123 125 (Yn m ind xs ks (d+1)) else t
def Xt(m:Bool)(ind:Nat):List Tree->Nat->List Str
  | [],_=>[]
  | x::xs,d=>Zj m ind x d::Xt m ind xs d
def Yn(m:Bool)(ind:Nat):List Tree->List Str->Nat->List Str
  | [],_,_=>[]
  | x::xs,ks,d=>(qS (ks.headD [])++([58]++((if m then [32] else [])++Zj m ind x d)))::Yn m ind xs ks.tail d
end
theorem Xe:∀{xs:List Tree}{x:Tree},x∈xs->Db x<=Ya xs
  | y :: ys, x, h => by
    rw[Ya];rcases oQ.1 h with rfl|h
    ·omega
    have:=Xe h;omega
theorem Ww(m:Bool)(ind d:Nat):∀xs,Xt m ind xs d=xs.map (λx=>Zj m ind x d)
  | []=>by simp[Xt]
  | x::xs=>by simp[Xt,Ww m ind d xs]
def VM(m:Bool)(ind d:Nat)(k:Str)(x:Tree):Str:=qS k++([58]++((if m then [32] else [])++Zj m ind x d))
theorem Vr(m:Bool)(ind d:Nat):∀xs ks,aL (Yn m ind xs ks d)=aL xs
  | [],ks=>by simp[Yn]
  | x::xs,ks=>by simp[Yn,Vr m ind d xs ks.tail]
theorem Y_(m:Bool)(ind d:Nat):∀(xs:List Tree)(ks:List Str)(j:Nat)(h:j<aL xs)(hk:j<aL ks)(h':j<aL (Yn m ind xs ks d)),(Yn m ind xs ks d)[j]=VM m ind d ks[j] xs[j]
  | x::xs,k::ks,0,_,_,_=>by simp[Yn,VM]
  | x :: xs, k :: ks, j + 1, h, hk, h' => by
    simp only[Yn,List.tail_cons,List.getElem_cons_succ];exact Y_ m ind d xs ks j (aS h) (aS hk) (by simpa[Yn]using h')
def EW(m:Bool)(ind d:Nat){ps:List Str}{j:Nat}(h:j<aL ps):Vp m ind d (decide (j=0)) (ps.drop j)=(if j=0 then [] else [44])++(Co m ind (d+1)++(ps[j]++Vp m ind d (decide (j+1=0)) (ps.drop (j+1)))):=by
  rw[List.drop_eq_getElem_cons h,Vp];simp
mutual
def FQ:Tree->Prop|.node _ t ks xs=>aL t<=17592186044416/\(∀k∈ks,aL k<=17592186044416)/\PP xs
def PP:List Tree->Prop|[]=>True|x::xs=>FQ x/\PP xs
end
theorem Ey:∀{xs:List Tree},PP xs->∀x∈xs,FQ x
  | [],_,_,h=>absurd h Ca
  | y :: ys, h, x, hx => by
    rw[PP]at h;rcases oQ.1 hx with rfl|hx
    ·exact h.1
    exact Ey h.2 x hx
def RY(x:Tree):Prop:=∀(m:Bool)(ind d:Nat)(w0:World)(B pb:Nat)(s:Str)(cs:List Value),Bd w0 B pb 269 [.bool m,J (ind:Int)] s->Gl w0->8<=B->Rep (λb=>b∉Wk w0 B pb) w0 (Sa x) cs->FQ x->Zb nodeB x=true ->
  ind*(d+Db x)<=1000000000->d+Db x<=1000000000->aL s+aL (Zj m ind x d)<=140737488355328->Qw 226 #[V pb,.agg cs.toArray,J (d:Int)] (.tuple #[]) w0 B pb 269 [.bool m,J (ind:Int)] (s++Zj m ind x d)
def ItemC(f:Nat)(k:Int)(t:Str)(ks:List Str)(xs:List Tree)(m:Bool)(ind d:Nat)(ps:List Str):Prop:=∀(j:Nat)(hj:j<aL ps)(w0:World)(B pb:Nat)(s:Str)(A B':Option Addr)(c e:Nat),Bd w0 B pb 269 [.bool m,J (ind:Int)] s->Gl w0->8<=B ->
  Rep (λb=>b∉Wk w0 B pb) w0 (Sa (.node k t ks xs)) [J k,I t,.slice A (aL ks) c,.slice B' (aL xs) e]->aL s+aL ps[j]<=140737488355328 ->
  Qw f #[V pb,.agg #[J k,I t,.slice A (aL ks) c,.slice B' (aL xs) e],J (j:Int),J (d:Int)] (.tuple #[]) w0 B pb 269 [.bool m,J (ind:Int)] (s++ps[j])
def item_c(k:Int)(t:Str)(ks:List Str)(xs:List Tree)(m:Bool)(ind d:Nat)(j:Nat)(hj:j<aL xs)(w0:World)(B pb:Nat)(s:Str)(A B_:Option Addr)(c e:Nat)(hBd:Bd w0 B pb 269 [.bool m,J (ind:Int)] s)(hG:Gl w0)(h8:8<=B)(hX:Rep (λb=>b∉Wk w0 B pb) w0 (Sa (.node k t ks xs)) [J k,I t,.slice A (aL ks) c,.slice B_ (aL xs) e])(hv:∀x∈xs,RY x)(hok:FQ (.node k t ks xs))(hn:Zb nodeB (.node k t ks xs)=true)(hd:ind*(d+Ya xs)<=1000000000)(hd2:d+Ya xs<=1000000000)(hl:aL s+aL (Zj m ind xs[j] d)<=140737488355328):Qw 252 #[V pb,.agg #[J k,I t,.slice A (aL ks) c,.slice B_ (aL xs) e],J (j:Int),J (d:Int)] (.tuple #[]) w0 B pb 269 [.bool m,J (ind:Int)] (s++Zj m ind xs[j] d):=by
 unfold Qw;rw[FQ]at hok;refine Wb func252 ntmps252 O O ?_;have hB:=BW.start hBd;have hF:=FR.start w0<|Wk w0 B pb;refine rn 3 ?_;intro b1 w hb1 hF hE;have nb1:b1≠pb:=by have:=hB.lt;omega
 have hX:=hX.off_ext hB.lt hE;have hB:=hB.ext hE;refine rn 7 ?_;obtain⟨A_,c_,B__,e_,heq_,-,-,hK_,hXs_⟩:=hX.tree_inv;simp only[List.cons.injEq,Value.slice.injEq,true_and,and_true]at heq_;obtain⟨⟨rfl,rfl⟩,rfl,rfl⟩:=heq_;obtain⟨ad0,cs0,hA0,hl0,hk0,hx0⟩:=hXs_.tree_elem (i:=j) fX;have ho0:=hx0.one_;refine Da (v:=.pointer<|some<|ad0.add<|j*4) (Ea (i:=(j:Int)) Wc hA0)<|Da (v:=.agg<|List.toArray cs0) (Qa (l:=cs0) nZ rZ O hl0 hk0) ?_;refine rn 1 ?_;refine Yb (hv xs[j] (eQ hj) m ind d _ B pb s _ hB.bd (hG.wrote hF.same h8 hBd.le) h8 hx0 (Ey hok.2.2 _<|eQ hj) ((Sc hn).2 _ (eQ hj)) jM (by have h1:=Xe<|eQ hj;omega) hl) ?_;rintro _ w ⟨rfl,hBd2,hE⟩;have hF:=hF.wrote hB hE qM;have hX:=hX.off hE;have hB:=hB.wrote hBd2 hE;clear hBd2 hE;refine rn 2 ?_;exact⟨O,hB.bd,hF.same⟩
def member_c(k:Int)(t:Str)(ks:List Str)(xs:List Tree)(m:Bool)(ind d:Nat)(j:Nat)(hj:j<aL xs)(hjk:j<aL ks)(w0:World)(B pb:Nat)(s:Str)(A B_:Option Addr)(c e:Nat)(hBd:Bd w0 B pb 269 [.bool m,J (ind:Int)] s)(hG:Gl w0)(h8:8<=B)(hX:Rep (λb=>b∉Wk w0 B pb) w0 (Sa (.node k t ks xs)) [J k,I t,.slice A (aL ks) c,.slice B_ (aL xs) e])(hv:∀x∈xs,RY x)(hok:FQ (.node k t ks xs))(hn:Zb nodeB (.node k t ks xs)=true)(hd:ind*(d+Ya xs)<=1000000000)(hd2:d+Ya xs<=1000000000)(hl:aL s+aL (VM m ind d ks[j] xs[j])<=140737488355328):Qw 253 #[V pb,.agg #[J k,I t,.slice A (aL ks) c,.slice B_ (aL xs) e],J (j:Int),J (d:Int)] (.tuple #[]) w0 B pb 269 [.bool m,J (ind:Int)] (s++VM m ind d ks[j] xs[j]):=by
 unfold Qw;rw[FQ]at hok;rw[VM]at hl;simp only[dQ,kQ,aZ]at hl;refine Wb func253 ntmps253 O O ?_;have hB:=BW.start hBd;have hF:=FR.start w0<|Wk w0 B pb;refine rn 3 ?_;intro b1 w hb1 hF hE;have nb1:b1≠pb:=by have:=hB.lt;omega
 have hX:=hX.off_ext hB.lt hE;have hB:=hB.ext hE;refine rn 8 ?_;obtain⟨A_,c_,B__,e_,heq_,-,-,hK_,hXs_⟩:=hX.tree_inv;simp only[List.cons.injEq,Value.slice.injEq,true_and,and_true]at heq_;obtain⟨⟨rfl,rfl⟩,rfl,rfl⟩:=heq_;obtain⟨ad0,hA0,hk0,hx0⟩:=hK_.str_elem (i:=j) fX;refine Da (v:=.pointer<|some<|ad0.add<|j*1) (Ea (i:=(j:Int)) Hd hA0)<|Da (v:=I<|ks[j]) (Ma qZ hk0) ?_;refine Yb (FB _ B pb m ind s hB.bd (hG.wrote hF.same h8 hBd.le) h8 ks[j] (hok.2.1 _<|eQ hjk) fX) ?_;rintro _ w ⟨rfl,hBd2,hE⟩;have hF:=hF.wrote hB hE qM;have hX:=hX.off hE;have hB:=hB.wrote hBd2 hE;clear hBd2 hE;refine rn 7 ?_;refine Yb (Gg hB.bd 58 Pa Pa bN) ?_;rintro _ w ⟨rfl,hBd2,hE⟩;have hF:=hF.wrote hB hE qM;have hX:=hX.off hE;have hB:=hB.wrote hBd2 hE;clear hBd2 hE;refine rn 8<|Da (v:=.bool m) (Ma isAgg4 hB.bd.mul) ?_;refine rn 3 ⟨λhc0=>?_,λhc0=>?_⟩;refine rn 4 ?_;refine Yb (Gg hB.bd 32 Pa Pa zK) ?_;rintro _ w ⟨rfl,hBd2,hE⟩;have hF:=hF.wrote hB hE qM;have hX:=hX.off hE;have hB:=hB.wrote hBd2 hE;clear hBd2 hE;refine rn 7 ?_;obtain⟨A_,c_,B__,e_,heq_,-,-,hK_,hXs_⟩:=hX.tree_inv;simp only[List.cons.injEq,Value.slice.injEq,true_and,and_true]at heq_;obtain⟨⟨rfl,rfl⟩,rfl,rfl⟩:=heq_;obtain⟨ad1,cs1,hA1,hl1,hk1,hx1⟩:=hXs_.tree_elem (i:=j) fX;have ho1:=hx1.one_;refine Da (v:=.pointer<|some<|ad1.add<|j*4) (Ea (i:=(j:Int)) Wc hA1)<|Da (v:=.agg<|List.toArray cs1) (Qa (l:=cs1) nZ rZ O hl1 hk1) ?_;refine rn 1 ?_;refine Yb (hv xs[j] (eQ hj) m ind d _ B pb _ _ hB.bd (hG.wrote hF.same h8 hBd.le) h8 hx1 (Ey hok.2.2 _<|eQ hj) ((Sc hn).2 _ (eQ hj)) jM (by have h1:=Xe<|eQ hj;omega) zK) ?_
 rintro _ w ⟨rfl,hBd2,hE⟩;have hF:=hF.wrote hB hE qM;have hX:=hX.off hE;have hB:=hB.wrote hBd2 hE;clear hBd2 hE;refine rn 2 ?_;exact⟨O,by simpa[VM,hc0]using hB.bd,hF.same⟩;refine rn 7 ?_;obtain⟨A_,c_,B__,e_,heq_,-,-,hK_,hXs_⟩:=hX.tree_inv;simp only[List.cons.injEq,Value.slice.injEq,true_and,and_true]at heq_;obtain⟨⟨rfl,rfl⟩,rfl,rfl⟩:=heq_;obtain⟨ad2,cs2,hA2,hl2,hk2,hx2⟩:=hXs_.tree_elem (i:=j) fX;have ho2:=hx2.one_;refine Da (v:=.pointer<|some<|ad2.add<|j*4) (Ea (i:=(j:Int)) Wc hA2)<|Da (v:=.agg<|List.toArray cs2) (Qa (l:=cs2) nZ rZ O hl2 hk2) ?_;refine rn 1 ?_;refine Yb (hv xs[j] (eQ hj) m ind d _ B pb _ _ hB.bd (hG.wrote hF.same h8 hBd.le) h8 hx2 (Ey hok.2.2 _<|eQ hj) ((Sc hn).2 _ (eQ hj)) jM (by have h1:=Xe<|eQ hj;omega) zK) ?_;rintro _ w ⟨rfl,hBd2,hE⟩;have hF:=hF.wrote hB hE qM;have hX:=hX.off hE;have hB:=hB.wrote hBd2 hE;clear hBd2 hE;refine rn 2 ?_;exact⟨O,by simpa[VM,hc0]using hB.bd,hF.same⟩
def ZU(m:Bool)(ind d:Nat)(b:Bool):Vp m ind d b []=[]:=by cases b <;> rfl
def VR(f:Nat)(hen:Ia prog f)(k:Int)(t:Str)(ks:List Str)(xs:List Tree)(m:Bool)(ind d:Nat)(bo bc:UInt8)(ps:List Str)(hps:aL ps=aL xs)(hI:ItemC f k t ks xs m ind (d+1) ps)(w0:World)(B pb:Nat)(s:Str)(A B_:Option Addr)(c e:Nat)(hBd:Bd w0 B pb 269 [.bool m,J (ind:Int)] s)(hG:Gl w0)(h8:8<=B)(hX:Rep (λb=>b∉Wk w0 B pb) w0 (Sa (.node k t ks xs)) [J k,I t,.slice A (aL ks) c,.slice B_ (aL xs) e])(hd1:ind*(d+1)<=1000000000)(hd2:d+1<=1000000000)(hxl:aL xs<=9223372036854775807)(hlim:aL s+aL (Dq m ind d bo bc ps)<=140737488355328):Qw 251 #[V pb,.agg #[J k,I t,.slice A (aL ks) c,.slice B_ (aL xs) e],J (d:Int),I [bo,bc],.func (.func f) #[V pb] #[]] (.tuple #[]) w0 B pb 269 [.bool m,J (ind:Int)] (s++Dq m ind d bo bc ps):=by
 unfold Qw;rw[Dq]at hlim;simp only[dQ,kQ,aZ]at hlim;refine Wb func251 ntmps251 O O ?_;have hB:=BW.start hBd;have hF:=FR.start w0<|Wk w0 B pb;refine rn 3 ?_;intro b1 w hb1 hF hE;have nb1:b1≠pb:=by have:=hB.lt;omega
 have hX:=hX.off_ext hB.lt hE;have hB:=hB.ext hE;refine rn 3<|Vb (.of []) (bQ [0,1,2,3,4]<|.act 5 .nil) hF ?_;intro w hF hE;have hX:=hX.off_ext hB.lt hE;have hB:=hB.ext hE;refine⟨λwq=>FR w0 (Wk w0 B pb) _ wq,hF,?_⟩;refine rn 4<|Fa O (v:=.int .u8<|((bo.toNat:Nat):Int)) (λw hC=>En (s:=[bo,bc]) 0 bX O O Ca) ?_;refine Me (Pp hB.bd bo fX) ?_;rintro _ w ⟨rfl,hBd2,hE⟩;have hF:=hF.wrote hB hE qM;have hX:=hX.off hE;have hB:=hB.wrote hBd2 hE;clear hBd2 hE;refine⟨hF,?_⟩;refine rn 12<|Za (λμ σ w=>∃(j:Nat),∃(o:Str),μ=aL xs-j/\(j<=aL xs)/\(o++Vp m ind d (decide (j=0)) (ps.drop j)=s++([bo]++Vp m ind d true ps))/\(BW w0 (Wk w0 B pb) w B pb 269 [.bool m,J (ind:Int)] o)/\(Rep (λb=>b∉Wk w B pb) w (Sa<|.node k t ks xs) [J k,I t,.slice A (aL ks) c,.slice B_ (aL xs) e])/\AllEq σ [(0,V pb),(2,J<|(d:Int)),(3,I<|[bo,bc]),(4,.func (.func f) #[V pb] #[]),(6,V b1),(19,J<|(aL xs:Nat)),(20,J<|(j:Int))]/\FR w0 (Wk w0 B pb) [(b1,.cells #[J k,I t,.slice A (aL ks) c,.slice B_ (aL xs) e] 25)] w) _ ⟨0,s++[bo],O,bZ _,Ca,hB,hX,Gc,hF⟩ ?_;rintro μ σ w ⟨j,o,rfl,hj,hq,hB,hX,hzz,hF⟩;refine Gh hzz 7 ⟨λhc0=>?_,λhc0=>?_⟩;have hjp:j<aL ps:=by_Om
 have hjd:=EW m ind d hjp;have hL:=xQ List.length hq;rw[hjd]at hL;have hif:aL (if j=0 then ([]:Str) else [44])=if j=0 then 0 else 1:=by split <;> rfl
 simp only[dQ,kQ,aZ,hif]at hL;refine rn 18 ⟨λhc1=>?_,λhc1=>?_⟩;refine rn 4 ?_;refine Yb (Gg hB.bd 44 Pa Pa (by rw[tQ fX]at hL;omega)) ?_;rintro _ w ⟨rfl,hBd2,hE⟩;have hF:=hF.wrote hB hE qM;have hX:=hX.off hE;have hB:=hB.wrote hBd2 hE;clear hBd2 hE;refine rn 6<|Tc (Le<|((d+1:Nat):Int)) ?_;refine Yb (JP _ B pb m ind _ hB.bd (d+1) hd1 qF) ?_;rintro _ w ⟨rfl,hBd2,hE⟩;have hF:=hF.wrote hB hE qM;have hX:=hX.off hE;have hB:=hB.wrote hBd2 hE;clear hBd2 hE;refine rn 7<|Tc (Le<|((d+1:Nat):Int)) ?_;refine Ed (hI j hjp _ B pb _ A B_ c e hB.bd (hG.wrote hF.same h8 hBd.le) h8 hX qF) (SH rfl hen rfl rfl rfl rfl) ?_;rintro _ w ⟨rfl,hBd2,hE⟩;have hF:=hF.wrote hB hE qM;have hX:=hX.off hE;have hB:=hB.wrote hBd2 hE;clear hBd2 hE;have hB:BW w0 (Wk w0 B pb) w B pb 269 [.bool m,J (ind:Int)] (o++((if j=0 then [] else [44])++(Co m ind (d+1)++ps[j]))):=by first|(have h0:¬j=0:=fX;rw[tQ h0];simpa using hB)|(have h0:j=0:=fX;rw[uQ h0];simpa using hB)
 refine rn 4<|Tc Fj ?_;refine rn 2 ?_;refine Va ⟨_,?_,j+1,o++((if j=0 then [] else [44])++(Co m ind (d+1)++ps[j])),O,fX,(by have h:=hq;rw[hjd]at h;simpa[sQ]using h),hB,hX,Gc,hF⟩;omega;refine rn 6<|Tc (Le<|((d+1:Nat):Int)) ?_;refine Yb (JP _ B pb m ind _ hB.bd (d+1) hd1 qF) ?_;rintro _ w ⟨rfl,hBd2,hE⟩;have hF:=hF.wrote hB hE qM;have hX:=hX.off hE;have hB:=hB.wrote hBd2 hE;clear hBd2 hE;refine rn 7<|Tc (Le<|((d+1:Nat):Int)) ?_;refine Ed (hI j hjp _ B pb _ A B_ c e hB.bd (hG.wrote hF.same h8 hBd.le) h8 hX qF) (SH rfl hen rfl rfl rfl rfl) ?_;rintro _ w ⟨rfl,hBd2,hE⟩;have hF:=hF.wrote hB hE qM;have hX:=hX.off hE;have hB:=hB.wrote hBd2 hE;clear hBd2 hE;have hB:BW w0 (Wk w0 B pb) w B pb 269 [.bool m,J (ind:Int)] (o++((if j=0 then [] else [44])++(Co m ind (d+1)++ps[j]))):=by first|(have h0:¬j=0:=fX;rw[tQ h0];simpa using hB)|(have h0:j=0:=fX;rw[uQ h0];simpa using hB)
 refine rn 4<|Tc Fj ?_;refine rn 2 ?_;refine Va ⟨_,?_,j+1,o++((if j=0 then [] else [44])++(Co m ind (d+1)++ps[j])),O,fX,(by have h:=hq;rw[hjd]at h;simpa[sQ]using h),hB,hX,Gc,hF⟩;omega;have hq2:o=s++([bo]++Vp m ind d true ps):=by have h:=hq;rw[List.drop_eq_nil_of_le fX,ZU,qQ]at h;exact h
 refine rn 12 ⟨λhc2=>?_,λhc2=>?_⟩;have hpn:ps≠[]:=by intro hp;rw[hp]at hps;simp at hps;omega
 refine rn 3 ?_;refine Yb (JP _ B pb m ind _ hB.bd d (fQ (Nat.mul_le_mul_left ind fX) hd1) (by have hp:ps≠[]:=(by intro hp;rw[hp]at hps;simp at hps;omega);rw[tQ hp]at hlim;rw[hq2];(try simp only[dQ,kQ,aZ]);omega)) ?_;rintro _ w ⟨rfl,hBd2,hE⟩;have hF:=hF.wrote hB hE qM;have hX:=hX.off hE;have hB:=hB.wrote hBd2 hE;clear hBd2 hE;refine rn 2<|Vb (.of []) (bQ [0,1,2,3,4]<|.act 5 .nil) hF ?_;intro w hF hE;have hX:=hX.off_ext hB.lt hE;have hB:=hB.ext hE;refine⟨λwq=>FR w0 (Wk w0 B pb) _ wq,hF,?_⟩;refine rn 4<|Fa O (v:=.int .u8<|((bc.toNat:Nat):Int)) (λw hC=>En (s:=[bo,bc]) 1 bX O O Ca) ?_;refine Me (Pp hB.bd bc bH) ?_;rintro _ w ⟨rfl,hBd2,hE⟩;have hF:=hF.wrote hB hE qM;have hX:=hX.off hE;have hB:=hB.wrote hBd2 hE;clear hBd2 hE;refine⟨hF,?_⟩;refine rn 2 ⟨O,?_,hF.same⟩;have hb:=hB.bd;rw[hq2]at hb;rw[Dq,tQ hpn];simpa[sQ]using hb;have hpz:ps=[]:=List.eq_nil_of_length_eq_zero fX;refine rn 2<|Vb (.of []) (bQ [0,1,2,3,4]<|.act 5 .nil) hF ?_;intro w hF hE;have hX:=hX.off_ext hB.lt hE;have hB:=hB.ext hE;refine⟨λwq=>FR w0 (Wk w0 B pb) _ wq,hF,?_⟩;refine rn 4<|Fa O (v:=.int .u8<|((bc.toNat:Nat):Int)) (λw hC=>En (s:=[bo,bc]) 1 bX O O Ca) ?_;refine Me (Pp hB.bd bc bH) ?_;rintro _ w ⟨rfl,hBd2,hE⟩;have hF:=hF.wrote hB hE qM;have hX:=hX.off hE;have hB:=hB.wrote hBd2 hE;clear hBd2 hE;refine⟨hF,?_⟩;refine rn 2 ⟨O,?_,hF.same⟩;have hb:=hB.bd;rw[hq2]at hb;rw[Dq,uQ hpz];simpa[sQ]using hb
def ML(k:Int)(t:Str)(ks:List Str)(xs:List Tree)(ih:∀x∈xs,RY x)(m:Bool)(ind d:Nat)(w0:World)(B pb:Nat)(s:Str)(A B_:Option Addr)(c e:Nat)(hBd:Bd w0 B pb 269 [.bool m,J (ind:Int)] s)(hG:Gl w0)(h8:8<=B)(hX:Rep (λb=>b∉Wk w0 B pb) w0 (Sa (.node k t ks xs)) [J k,I t,.slice A (aL ks) c,.slice B_ (aL xs) e])(hok:FQ (.node k t ks xs))(hn:Zb nodeB (.node k t ks xs)=true)(hd:ind*(d+Db (.node k t ks xs))<=1000000000)(hd2:d+Db (.node k t ks xs)<=1000000000)(hxl:aL xs<=9223372036854775807)(hl:aL s+aL (Zj m ind (.node k t ks xs) d)<=140737488355328):Qw 226 #[V pb,.agg #[J k,I t,.slice A (aL ks) c,.slice B_ (aL xs) e],J (d:Int)] (.tuple #[]) w0 B pb 269 [.bool m,J (ind:Int)] (s++Zj m ind (.node k t ks xs) d):=by
 unfold Qw;refine Wb func226 ntmps226 O O ?_;have hB:=BW.start hBd;have hF:=FR.start w0<|Wk w0 B pb;refine rn 3 ?_;intro b1 w hb1 hF hE;have nb1:b1≠pb:=by have:=hB.lt;omega
 have hX:=hX.off_ext hB.lt hE;have hB:=hB.ext hE;refine rn 16 ⟨λhc0=>?_,λhc0=>?_⟩;refine rn 4 ?_;have hkk_:k=1:=by_Om
 refine Yb (Dj hB.bd [110,117,108,108] (by rw[Zj,uQ hkk_]at hl;exact hl)) ?_;rintro _ w ⟨rfl,hBd2,hE⟩;have hF:=hF.wrote hB hE qM;have hX:=hX.off hE;have hB:=hB.wrote hBd2 hE;clear hBd2 hE;refine rn 3 ⟨O,?_,hF.same⟩;rw[Zj]
 first|(rw[uQ hkk_];exact hB.bd)|(rw[tQ fX,uQ hkk_];exact hB.bd)|(rw[tQ fX,tQ fX,uQ hkk_];exact hB.bd)|(rw[tQ fX,tQ fX,tQ fX,uQ hkk_];exact hB.bd)|(rw[tQ fX,tQ fX,tQ fX,tQ fX];exact hB.bd)
 refine rn 7 ⟨λhc1=>?_,λhc1=>?_⟩;refine rn 4 ?_;have hkk_:k=4:=by_Om
 refine Yb (FB _ B pb m ind s hB.bd (hG.wrote hF.same h8 hBd.le) h8 t (by rw[FQ]at hok;exact hok.1) (by rw[Zj,tQ fX,uQ hkk_]at hl;exact hl)) ?_;rintro _ w ⟨rfl,hBd2,hE⟩;have hF:=hF.wrote hB hE qM;have hX:=hX.off hE;have hB:=hB.wrote hBd2 hE;clear hBd2 hE;refine rn 3 ⟨O,?_,hF.same⟩;rw[Zj]
 first|(rw[uQ hkk_];exact hB.bd)|(rw[tQ fX,uQ hkk_];exact hB.bd)|(rw[tQ fX,tQ fX,uQ hkk_];exact hB.bd)|(rw[tQ fX,tQ fX,tQ fX,uQ hkk_];exact hB.bd)|(rw[tQ fX,tQ fX,tQ fX,tQ fX];exact hB.bd)
 refine rn 7 ⟨λhc2=>?_,λhc2=>?_⟩;refine rn 5<|Da (v:=.func (.func 252) #[V pb] #[]) (Cn O) ?_;have hkk_:k=5:=by_Om
 refine Yb (VR 252 en_252 k t ks xs m ind d 91 93 (Xt m ind xs<|d+1) (by rw[Ww,rQ]) (λj hj w1 B1 p1 s1 A1 B1_ c1 e1 hb1_ hg1 h81 hx1 hl1=>by have hj2:j<aL xs:=(by rw[Ww,rQ]at hj;exact hj);have hg:(Xt m ind xs<|d+1)[j]=Zj m ind xs[j] (d+1):=(by simp only[Ww,List.getElem_map]);rw[hg]at hl1 ⊢;exact item_c k t ks xs m ind (d+1) j hj2 w1 B1 p1 s1 A1 B1_ c1 e1 hb1_ hg1 h81 hx1 ih hok hn (by rw[Db]at hd;exact fQ (Nat.mul_le_mul_left ind fX) hd) wV hl1) _ B pb s A B_ c e hB.bd (hG.wrote hF.same h8 hBd.le) h8 hX wJ wV hxl (by rw[Zj]at hl;simpa[hkk_]using hl)) ?_;rintro _ w ⟨rfl,hBd2,hE⟩;have hF:=hF.wrote hB hE qM;have hX:=hX.off hE;have hB:=hB.wrote hBd2 hE;clear hBd2 hE;refine rn 3 ⟨O,?_,hF.same⟩;rw[Zj]
 first|(rw[uQ hkk_];exact hB.bd)|(rw[tQ fX,uQ hkk_];exact hB.bd)|(rw[tQ fX,tQ fX,uQ hkk_];exact hB.bd)|(rw[tQ fX,tQ fX,tQ fX,uQ hkk_];exact hB.bd)|(rw[tQ fX,tQ fX,tQ fX,tQ fX];exact hB.bd)
 refine rn 7 ⟨λhc3=>?_,λhc3=>?_⟩;refine rn 5<|Da (v:=.func (.func 253) #[V pb] #[]) (Cn O) ?_;have hkk_:k=6:=by_Om
 have hkl:aL ks=aL xs:=(Hk<|hkk_▸(Sc hn).1).2;refine Yb (VR 253 en_253 k t ks xs m ind d 123 125 (Yn m ind xs ks<|d+1) (by rw[Vr]) (λj hj w1 B1 p1 s1 A1 B1_ c1 e1 hb1_ hg1 h81 hx1 hl1=>by have hj2:j<aL xs:=(by rw[Vr]at hj;exact hj);have hg:=Y_ m ind (d+1) xs ks j hj2 fX hj;rw[hg]at hl1 ⊢;exact member_c k t ks xs m ind (d+1) j hj2 fX w1 B1 p1 s1 A1 B1_ c1 e1 hb1_ hg1 h81 hx1 ih hok hn (by rw[Db]at hd;exact fQ (Nat.mul_le_mul_left ind fX) hd) wV hl1) _ B pb s A B_ c e hB.bd (hG.wrote hF.same h8 hBd.le) h8 hX wJ wV hxl (by rw[Zj]at hl;simpa[hkk_]using hl)) ?_;rintro _ w ⟨rfl,hBd2,hE⟩;have hF:=hF.wrote hB hE qM;have hX:=hX.off hE;have hB:=hB.wrote hBd2 hE;clear hBd2 hE;refine rn 3 ⟨O,?_,hF.same⟩;rw[Zj]
 first|(rw[uQ hkk_];exact hB.bd)|(rw[tQ fX,uQ hkk_];exact hB.bd)|(rw[tQ fX,tQ fX,uQ hkk_];exact hB.bd)|(rw[tQ fX,tQ fX,tQ fX,uQ hkk_];exact hB.bd)|(rw[tQ fX,tQ fX,tQ fX,tQ fX];exact hB.bd)
 refine Vb (.of []) (bQ [0,1,2,3,4]<|.act 5 .nil) hF ?_;intro w hF hE;have hX:=hX.off_ext hB.lt hE;have hB:=hB.ext hE;refine⟨λwq=>FR w0 (Wk w0 B pb) _ wq,hF,?_⟩;refine rn 5 ?_;refine Me (Dj hB.bd t (by rw[Zj,tQ fX,tQ fX,tQ fX,tQ fX]at hl;exact hl)) ?_;rintro _ w ⟨rfl,hBd2,hE⟩;have hF:=hF.wrote hB hE qM;have hX:=hX.off hE;have hB:=hB.wrote hBd2 hE;clear hBd2 hE;refine⟨hF,?_⟩;refine rn 3 ⟨O,?_,hF.same⟩;rw[Zj]
 first|(rw[uQ hkk_];exact hB.bd)|(rw[tQ fX,uQ hkk_];exact hB.bd)|(rw[tQ fX,tQ fX,uQ hkk_];exact hB.bd)|(rw[tQ fX,tQ fX,tQ fX,uQ hkk_];exact hB.bd)|(rw[tQ fX,tQ fX,tQ fX,tQ fX];exact hB.bd)
def value_c(x:Tree):RY x:=Tree.ind (Q:=RY) (λk t ks xs ih m ind d w0 B pb s cs hBd hG h8 hX hok hn hd hd2 hl=>by
  obtain⟨A,c,B_,e,rfl,-,-,-,hXs⟩:=hX.tree_inv;have h1:=hXs.slice_len;exact ML k t ks xs ih m ind d w0 B pb s A B_ c e hBd hG h8 hX hok hn hd hd2 fX hl) x
theorem CN{t:Str}(h:Wq t=true):t≠[]:=by
  rintro rfl
  revert h
  decide
theorem valS_ne(m:Bool)(ind:Nat)(x:Tree)(d:Nat)(h:Eb x=true):Zj m ind x d≠[]:=by
  obtain⟨k,t,ks,xs⟩:=x;unfold Eb at h;rw[vQ]at h;have h1:=(Sc h.2).1;unfold rnodeB at h1;rw[vQ,wQ]at h1;obtain⟨h7,h1⟩:=h1;have h7':k≠7:=h7;grind [Zj,nodeB,qS,Z8,Dq,CN]
theorem Pn{x:Tree}(h:Eb x=true):Zb nodeB x=true:=by
  unfold Eb at h;rw[vQ]at h;refine Tree.ind (Q:=λx=>Zb rnodeB x=true->Zb nodeB x=true) (λk t ks xs ih h=>?_) x h.2;rw[Zb,vQ]at h ⊢;have h1:=h.1;unfold rnodeB at h1;rw[vQ]at h1;refine⟨h1.2,?_⟩;have key:∀ys:List Tree,(∀y∈ys,y∈xs)->Er rnodeB ys=true->Er nodeB ys=true:=by
    intro ys
    induction ys with
    | nil =>
      intro _ _;rfl
    | cons y ys ihy=>grind [Er]
  grind
theorem Ve{x:Tree}(h:Eb x=true):Db x<=32:=by grind [Eb,Um]
def LV(x:Tree)(S:Nat->Prop)(w0:World)(cs:List Value)(rx:Rep S w0 (Sa x) cs)(hG:Gl w0)(hk:Rw x)(hq:FQ x)(hsz:Ja x<=1000000000)(hlim:Eb x=true->aL (Zj false 0 x 0)<=140737488355328):Calls prog 198 #[.agg cs.toArray] w0 (Qb λv w'=>v=(if Eb x=true then .tuple #[I (Zj false 0 x 0),J 0] else .tuple #[I [],J 1])/\Same [] w0 w'):=by
 have hl:aL cs=4:=rx.length.trans<|Cb x;have ho:=rx.one_;refine Ha func198 ntmps198 ?_;intro hF;refine rn 2<|Cj (v:=.agg<|List.toArray cs) (cs:=(List.toArray cs)) hF O O ?_;rintro b1 w hb1 hF -;refine rn 7<|Da (v:=.agg<|List.toArray cs) (Qa (l:=cs) nZ rZ O hl<|hF.cellsAll 0 O) ?_;refine Ta (Up x fX _ _ _ (hF.rep rx) hk<|hG.ext hF.same) ?_;rintro w hF -;refine rn 4 ⟨λhc0=>?_,λhc0=>?_⟩;refine rn 7 ?_;exact⟨by rw[tQ (aS hc0)],hF.same⟩;refine rn 5 ?_;rintro b2 w hb2 hF -;refine rn 4<|Da (v:=.agg<|List.toArray cs) (Qa (l:=cs) nZ rZ O hl<|hF.cellsAll 1 O) ?_;have hB:BW w0 [] w b2 b2 269 [.bool false,J ((0:Nat):Int)] []:=BW.own ⟨.inr ⟨rfl,_,_,rfl⟩,gQ _,_,_,hF.heap (i:=0) rfl,World.ownsRow_nil _ _ _ _,.inl rfl⟩ (hF.ge (i:=0) rfl) hF.same.size;have nb1:b1≠b2:=Qr hF.desc (i:=1) (j:=0) rfl rfl Pa;have hge:=hF.ge (i:=0) rfl;have hF:FR w0 [] [(b1,.cells cs.toArray 25)] w:=hF.drop 1;have hXo:Rep (λb=>b∉Wk w b2 b2) w (Sa x) cs:=(rx.old.same hF.same Ca).weaken λb hb _ hm=>by have h1:=hb.2;rcases Ue.1 hm with rfl|⟨-,h2,-⟩ <;> omega
 refine Yb (value_c x false 0 0 _ b2 b2 [] cs hB.bd (hG.ext hF.same) (by have:=hG.size;omega) hXo hq (Pn (aS hc0)) fX (by have:=Ve (x:=x) (aS hc0);omega) (by simpa using hlim (aS hc0))) ?_;rintro _ w ⟨rfl,hBd2,hE⟩;have hF:=hF.wrote hB hE qM;have hB:=hB.wrote hBd2 hE;clear hBd2 hE;refine rn 5<|Yb (TG hB.bd (by simpa using valS_ne false 0 x 0 (aS hc0))) ?_;rintro _ w ⟨rfl,hE⟩;have hF:=hF.wrote hB hE qM;refine rn 5 ?_;exact⟨by rw[uQ (aS hc0)];rfl,hF.same⟩
end Go.Scarf
