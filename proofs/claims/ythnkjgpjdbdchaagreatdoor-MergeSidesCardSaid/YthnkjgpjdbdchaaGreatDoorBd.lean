/- A part of the proof. -/
import Derived.Lib.AppendStr
import Derived.Lib.Builder
import Derived.Lib.UnsafeStr
import Derived.Lib.RuneBytes
import Derived.Test.YthnkjgpjdbdchaaGreatDoorW19
import Derived.Laws.BytesString
import Derived.Lib.TrimU
set_option linter.all false
set_option maxHeartbeats 8000000
set_option maxRecDepth 10000
namespace Go.Scarf
open Go.RowKit Go.Proofs Go.Proofs.Tryz
section
variable {P:Program}{w w' w0:World}{Ds E:List Nat}{bs_:List (Nat × Obj)}
def Mm:Obj->Bool
  | .cells _ e _=>e==5
  | _=>false
def Xw(w:World)(b:Nat):Bool:=match w.heap[b]? with|some o=>Mm o|none=>false
def Wk(w:World)(B pb:Nat):List Nat:=pb::(List.range w.heap.size).filter λb=>decide (B<=b)&&Xw w b
theorem Yh{B pb x:Nat}:x∈Wk w B pb↔x=pb\/(x<w.heap.size/\B<=x/\Xw w x=true):=by simp[Wk]
theorem Kw{b:Nat}{o:Obj}(h:w.heap[b]? = some o):Xw w b=Mm o:=by simp[Xw,h]
def Shp(T:Nat)(rest:List Value):Prop:=(T=218/\rest=[])\/(T=288/\∃m i,rest=[.bool m,J i])
theorem Shp.ne{T:Nat}{rest:List Value}(h:Shp T rest):(T==5)=false:=by rcases h with ⟨rfl,-⟩|⟨rfl,-⟩ <;> rfl
structure Bd (w:World) (B pb T:Nat) (rest:List Value) (s:Str):Prop where
  shp:Shp T rest
  le:B<=pb
  ex:∃ap v,w.heap[pb]? = some (.cells (ap::v::rest).toArray T)/\w.ownsRow B 5 1 v s.length (Lib.byteCells s)/\(ap=.pointer none\/ap=V pb)
theorem Bd.lt{B pb T:Nat}{rest:List Value}{s:Str}(h:Bd w B pb T rest s):pb<w.heap.size:=by
  obtain⟨ap,v,hh,-⟩:=h.ex;exact Ma hh
theorem Bd.base{B pb T:Nat}{rest:List Value}{s:Str}(h:Bd w B pb T rest s):B<=w.heap.size:=fQ h.le (Nat.le_of_lt h.lt)
theorem Uq{B n g:Nat}{v:Value}{xs:List Value}(h:w.ownsRow B 5 1 v n xs)(hg:v.ownBlock=some g):g<w.heap.size/\B<=g/\Xw w g=true:=by
  rcases h.2 with ⟨rfl,-⟩|⟨g',cap,cur,rfl,h1,h2,-⟩
  ·cases hg
  cases hg;exact⟨Ma h2,h1,by rw[Kw h2];rfl⟩
theorem HF{B n g pb:Nat}{v:Value}{xs:List Value}(h:w.ownsRow B 5 1 v n xs)(hg:v.ownBlock=some g):g∈Wk w B pb:=Yh.2 (.inr (Uq h hg))
theorem Nu{B n g pb:Nat}{v:Value}{xs:List Value}{o:Obj}(h:w.ownsRow B 5 1 v n xs)(hg:v.ownBlock=some g)(hh:w.heap[pb]? = some o)(ho:Mm o=false):g≠pb:=by
  rintro rfl;have h1:=(Uq h hg).2.2;rw[Kw hh,ho]at h1;cases h1
theorem Jk{B n:Nat}{v:Value}{xs:List Value}(h:w.ownsRow B 5 1 v n xs)(hs:Same E w w')(he:∀g,v.ownBlock=some g->g∉E):w'.ownsRow B 5 1 v n xs:=by
  refine⟨h.1,?_⟩;rcases h.2 with h2|⟨g,cap,cur,rfl,h1,h2,h3⟩
  ·exact .inl h2
  exact .inr ⟨g,cap,cur,O,h1,(hs.block g (Ma h2) (he g O)).trans h2,h3⟩
theorem Si{B n:Nat}{v:Value}{xs:List Value}(h:w.ownsRow B 5 1 v n xs):∃A c,v=.slice A n c:=by
  rcases h.2 with ⟨rfl,rfl⟩|⟨g,cap,cur,rfl,-⟩
  ·exact⟨_,_,O⟩
  exact⟨_,_,O⟩
theorem Wk.step{B pb x:Nat}(hs:Same (Wk w B pb) w w')(hx:x∈Wk w' B pb):x∈Wk w B pb\/w.heap.size<=x:=by
  by_cases h:x<w.heap.size
  ·by_cases hm : x ∈ Wk w B pb
   ·exact .inl hm
   rcases Yh.1 hx with rfl|⟨h1, h2, h3⟩
   ·exact .inl (Yh.2 (.inl O))
   refine absurd (Yh.2 (.inr ⟨h, h2, ?_⟩)) hm;rw[Xw,<-hs.block x h hm];exact h3
  exact .inr sX
theorem FR.grown{g:Option Nat}(h:FR w0 Ds bs_ w)(hg:w.grownBy w' g)(hr:∀b,g=some b->(b<w0.heap.size->b∈Ds)/\∀p∈bs_,p.1≠b):FR w0 Ds bs_ w':=by
  have hs:Same g.toList w w':=⟨hg.os,hg.tape,hg.output,hg.size,λb hb hn=>hg.block b hb (λe=>hn (by simp[<-e]))⟩;exact h.touch hs (λb hb=>hr b (by simpa using hb))
theorem Zq(s t:Str):Lib.byteCells (s++t)=Lib.byteCells s++Lib.byteCells t:=Lib.byteCells_append s t
end
section
variable {P:Program}{w:World}{ρ:Operand->Value}{dst:Option Nat}{ty:TypeId}{pos:String}{aft:Array Edge}{g:Option (Nat × Bool)}
theorem PQ{t t' te:Nat}{x y:Operand}(ht:P.underlying t=some (.pointer te))(hx:ρ x=.pointer none)(hy:ρ y=.pointer none) :
    (execOp ρ ⟨dst,.binOp .eql t x y t',ty,pos,aft,g⟩).run P w=.ok (.value (.bool true)) w:=by
  have h:∀d:Nat,(Op.equalIn (d+1) t (.pointer none) (.pointer none)).run P w=.ok true w:=λd=>by
    simp[Op.equalIn,run_underlying ht]
  have hg:(eqGuard .eql t x y (.pointer none) (.pointer none)).run P w=.ok () w:=by unfold eqGuard;split <;> simp
  simp only[execOp,hx,hy,Sem.run_bind,hg,Result.andThen_ok,binOp];simp[Op.equal,Op.maxDepth,h 9999]
theorem NR{t t' te:Nat}{x y:Operand}{a:Addr}(ht:P.underlying t=some (.pointer te))(hx:ρ x=.pointer (some a))(hy:ρ y=.pointer none) :
    (execOp ρ ⟨dst,.binOp .eql t x y t',ty,pos,aft,g⟩).run P w=.ok (.value (.bool false)) w:=by
  have h:∀d:Nat,(Op.equalIn (d+1) t (.pointer (some a)) (.pointer none)).run P w=.ok false w:=λd=>by
    simp[Op.equalIn,run_underlying ht]
  have hg:(eqGuard .eql t x y (.pointer (some a)) (.pointer none)).run P w=.ok () w:=by unfold eqGuard;split <;> simp
  simp only[execOp,hx,hy,Sem.run_bind,hg,Result.andThen_ok,binOp];simp[Op.equal,Op.maxDepth,h 9999]
theorem DY{t t' te:Nat}{x y:Operand}{a:Addr}{j:TypeInfo}(ht:P.underlying t=some (.pointer te))(hte:P.info? te=some j)(hx:ρ x=.pointer (some a))(hy:ρ y=.pointer (some a)) :
    (execOp ρ ⟨dst,.binOp .neq t x y t',ty,pos,aft,g⟩).run P w=.ok (.value (.bool false)) w:=by
  have h:=Lib.run_neq_ptr_same w a ht hte;have hg:(eqGuard .neq t x y (.pointer (some a)) (.pointer (some a))).run P w=.ok () w:=by unfold eqGuard;split <;> simp
  simp only[execOp,hx,hy,Sem.run_bind,hg,Result.andThen_ok,h,Sem.run_pure]
theorem F7{t t':Nat}{x:Operand}{v:Value}(hx:ρ x=v)(h:(convert t t' v).run P w=.ok v w):(execOp ρ ⟨dst,.convert t t' x,ty,pos,aft,g⟩).run P w=.ok (.value v) w:=by
  simp[execOp,hx,h]
theorem PY {f:FuncId} {fn:Func} {e:Array Value->Sem Value} {x1:Operand} {ats:Array TypeId} {v1 v:Value} (hf:P.funcs[f]? = some fn) (hname:(fn.name == "runtime.NumGoroutine")=false)
    (hb:fn.body.isNone=true) (hn:Extern.findNext fn=none) (he:Extern.find fn=some e) (h0:ρ (.func f)=.func (.func f) #[] #[]) (h1:ρ x1=v1) (hr:(e #[v1]).run P w=.ok v w) :
    (execOp ρ ⟨dst,.call ⟨.value (.func f),#[x1],ats⟩,ty,pos,aft,g⟩).run P w=.ok (.value v) w:=by
  simp[execOp,resolve,Deferred.ofValue,h0,h1,invoke,run_callFunc_extern hf hname hb hn he,hr]
theorem x_usd{x:Operand}{ats:Array TypeId}{a:Addr}{n c:Nat}(hx:ρ x=.slice (some a) n c)(hc:c≠0):(execOp ρ ⟨dst,.call ⟨.builtin .unsafeSliceData,#[x],ats⟩,ty,pos,aft,g⟩).run P w=.ok (.value (.pointer (some a))) w:=by
  simp[execOp,resolve,invoke,builtin,hx,Lib.run_unsafeSliceData_row w ats ty a n c hc]
theorem x_uss{x y:Operand}{t1 t2:Nat}{u v r:Value}{w':World}(hx:ρ x=u)(hy:ρ y=v)(h:(Builtin.unsafeString_ #[t1,t2] ty #[u,v]).run P w=.ok r w'):(execOp ρ ⟨dst,.call ⟨.builtin .unsafeString,#[x,y],#[t1,t2]⟩,ty,pos,aft,g⟩).run P w=.ok (.value r) w':=by
  simp[execOp,resolve,invoke,builtin,hx,hy,h]
theorem IS{x y:Operand}{t1 t2:TypeId}{u v:Value}{r:Value}{w':World}(hx:ρ x=u)(hy:ρ y=v)(h:(Builtin.append_ #[t1,t2] ty #[u,v]).run P w=.ok r w') :
    (execOp ρ ⟨dst,.call ⟨.builtin .append,#[x,y],#[t1,t2]⟩,ty,pos,aft,g⟩).run P w=.ok (.value r) w':=by
  simp[execOp,resolve,invoke,builtin,hx,hy,h]
end
section
variable {P:Program}{R:Exit->Act->World->Prop}{n:Nat}{kt:Kt}{s:Nat->Value}{w:World}{ops rest:List Oper}
variable {d:Nat}{ty:TypeId}{pos:String}{aft:Array Edge}{g:Option (Nat × Bool)}
variable {w0:World}{Ds:List Nat}{bs_:List (Nat × Obj)}
theorem PX{x y:Operand}{t B len c2 k:Nat}{v:Value}{xs news:List Value}{a:Addr}(hE:Elems P t 5 1 1)
    (hF:FR w0 Ds bs_ w) (hO:w.ownsRow B 5 1 v len xs) (hB:B<=w.heap.size) (hx:ev n s x=v) (hy:ev n s y=.slice (some a) k c2)
    (hl:news.length=k*1) (hnews:∀j u,news[j]? = some u->w.cell? (a.add j)=some u) (h1:∀u∈news,u.oneCell'=true) (hb:len+k<=140737488355328)
    (hr:∀b,v.ownBlock=some b->(b<w0.heap.size->b∈Ds)/\∀p∈bs_,p.1≠b)
    (h:∀v' w',w'.ownsRow B 5 1 v' (len+k) (xs++news)->FR w0 Ds bs_ w'->w.heap.size<=w'.heap.size->Og P R n ops kt rest (Nh s d v') w')
    (hw:Ub ops n s ⟨some d,.call ⟨.builtin .append,#[x,y],#[t,t]⟩,ty,pos,aft,g⟩=true:=by rfl):Og P R n ops kt (⟨some d,.call ⟨.builtin .append,#[x,y],#[t,t]⟩,ty,pos,aft,g⟩::rest) s w:=by
  obtain⟨i,z,hi,hz,h2,h3,h4⟩:=hE.info;obtain⟨v',w',hr',hO',hg,-⟩:=run_append_own (P:=P) w B t ty 5 i z 1 1 hE.ht hi hz h2 h3 h4 Oa v len xs hO a k c2 news hl hnews h1 (by unfold maxLen;omega) sX hB;exact Ka (E9 hx hy hr') (h v' w' hO' (hF.grown hg hr) hg.size) hw
theorem UW{x y:Operand}{t u B len:Nat}{v:Value}{xs:List Value}{str:Str}(hE:Elems P t 5 1 1)(hz0:(P.info? 5).map (·.zero)=some (some (.int .u8 0)))(hu:P.underlying u=some .string)
    (hF:FR w0 Ds bs_ w) (hO:w.ownsRow B 5 1 v len xs) (hB:B<=w.heap.size) (hx:ev n s x=v) (hy:ev n s y=I str) (hb:len+str.length<=140737488355328)
    (hr:∀b,v.ownBlock=some b->(b<w0.heap.size->b∈Ds)/\∀p∈bs_,p.1≠b)
    (h:∀v' w',w'.ownsRow B 5 1 v' (len+str.length) (xs++Lib.byteCells str)->FR w0 Ds bs_ w'->w.heap.size<=w'.heap.size->Og P R n ops kt rest (Nh s d v') w')
    (hw:Ub ops n s ⟨some d,.call ⟨.builtin .append,#[x,y],#[t,u]⟩,ty,pos,aft,g⟩=true:=by rfl):Og P R n ops kt (⟨some d,.call ⟨.builtin .append,#[x,y],#[t,u]⟩,ty,pos,aft,g⟩::rest) s w:=by
  obtain⟨i,z,hi,hz,h2,h3,h4⟩:=hE.info;rw[hi]at hz0;have hz1:i.zero=some (.int .u8 0):=by simpa using hz0
  have e:(bs str).size=str.length:=Ks str;obtain⟨v',w',hr',hO',hg,-⟩:=Lib.run_append_own_string (P:=P) w B t u ty 5 i hE.ht hu hi hz1 h2 h3 v len xs hO (bs str) (by rw[e];unfold maxLen;omega) (by rw[e];omega) hB;rw[e]at hO';exact Ka (IS hx hy hr') (h v' w' (by simpa[Lib.strCells_eq,Dm,bs]using hO') (hF.grown hg hr) hg.size) hw
end
theorem MX:liesAt prog prog.depth 218 (2/prog.cellsOf 218) 0 218 1=true:=by kernel_rfl
theorem DZ:liesAt prog prog.depth 288 (4/prog.cellsOf 288) 0 218 1=true:=by kernel_rfl
theorem H1:(prog.info? 218).map (·.size)=some 2:=by kernel_rfl
theorem DE(w0:World)(pb:Nat)(v:Value)(hh:w0.heap[pb]? = some (.cells #[.pointer none,v] 218)):Calls prog 209 #[V pb] w0 (Wd λv_ w'=>v_=.tuple #[]/\Same [pb] w0 w'/\w'.heap[pb]? = some (.cells #[V pb,v] 218)):=by
 obtain⟨j,hj,hjs⟩:=Option.map_eq_some_iff.1 H1;have hne:pb<w0.heap.size:=Ma hh;refine Fa func209 O ntmps209 Ib (Zc _) ?_;have hF:FR w0 [pb] [(pb,.cells #[.pointer none,v] 218)] w0:=FR.open_ (by simpa using hh) Da;refine Ha (Ca (We O) (Ca (Uh O) (Ca (Zb Aq O) (Rc (NV isAgg215 O hF.F 0 O O) (Ka (v:=.bool true) (PQ zZ O O) (Ea (Le O (Ga (Ca (We O) (Ca (We O) ?_))))))))));refine Ka (v:=V pb) (F7 O (Lib.run_to_unsafe _ ⟨pb,0,none⟩ zZ underlying278 hj (by rw[hjs];decide) (e:=218) (cells:=2) (by simp[World.shape?,hF.heap (i:=0) O]) (Nat.zero_lt_succ _))) ?_;refine Ka (v:=V pb) (PY func236 Mb Mb Mb (e:=Extern.AbiNoEscape.same) Mb O O (Lib.run_noEscape _ _)) (Ka (v:=V pb) (F7 O (Lib.run_from_unsafe _ ⟨pb,0,none⟩ underlying278 zZ hj (e:=218) (cells:=2) (by simp[World.shape?,hF.heap (i:=0) O]) MX)) ?_);refine Ca (Uh O) (Ca (Zb Aq O) ?_);refine Uo (.pointer _) hF sizeOf215 O O Ih Ih ?_;rintro w hF -;refine Gb (Jf (Od (Jh O) ?_));exact⟨O,hF.same,hF.heap (i:=0) O⟩
theorem NF(w0:World)(pb:Nat)(v:Value)(m:Bool)(i:Int)(hh:w0.heap[pb]? = some (.cells #[.pointer none,v,.bool (m),J i] 288)):Calls prog 209 #[V pb] w0 (Wd λv_ w'=>v_=.tuple #[]/\Same [pb] w0 w'/\w'.heap[pb]? = some (.cells #[V pb,v,.bool (m),J i] 288)):=by
 obtain⟨j,hj,hjs⟩:=Option.map_eq_some_iff.1 H1;have hne:pb<w0.heap.size:=Ma hh;refine Fa func209 O ntmps209 Ib (Zc _) ?_;have hF:FR w0 [pb] [(pb,.cells #[.pointer none,v,.bool (m),J i] 288)] w0:=FR.open_ (by simpa using hh) Da;refine Ha (Ca (We O) (Ca (Uh O) (Ca (Zb Aq O) (Rc (NV isAgg215 O hF.F 0 O O) (Ka (v:=.bool true) (PQ zZ O O) (Ea (Le O (Ga (Ca (We O) (Ca (We O) ?_))))))))));refine Ka (v:=V pb) (F7 O (Lib.run_to_unsafe _ ⟨pb,0,none⟩ zZ underlying278 hj (by rw[hjs];decide) (e:=288) (cells:=4) (by simp[World.shape?,hF.heap (i:=0) O]) (Nat.zero_lt_succ _))) ?_;refine Ka (v:=V pb) (PY func236 Mb Mb Mb (e:=Extern.AbiNoEscape.same) Mb O O (Lib.run_noEscape _ _)) (Ka (v:=V pb) (F7 O (Lib.run_from_unsafe _ ⟨pb,0,none⟩ underlying278 zZ hj (e:=288) (cells:=4) (by simp[World.shape?,hF.heap (i:=0) O]) DZ)) ?_);refine Ca (Uh O) (Ca (Zb Aq O) ?_);refine Uo (.pointer _) hF sizeOf215 O O Ih Ih ?_;rintro w hF -;refine Gb (Jf (Od (Jh O) ?_));exact⟨O,hF.same,hF.heap (i:=0) O⟩
theorem UG(w0:World)(pb:Nat)(v:Value)(hh:w0.heap[pb]? = some (.cells #[V pb,v] 218)):Calls prog 209 #[V pb] w0 (Wd λv_ w'=>v_=.tuple #[]/\Same [pb] w0 w'/\w'.heap[pb]? = some (.cells #[V pb,v] 218)):=by
 obtain⟨j,hj,hjs⟩:=Option.map_eq_some_iff.1 H1;have hne:pb<w0.heap.size:=Ma hh;refine Fa func209 O ntmps209 Ib (Zc _) ?_;have hF:FR w0 [pb] [(pb,.cells #[V pb,v] 218)] w0:=FR.open_ (by simpa using hh) Da;refine Ha (Ca (We O) (Ca (Uh O) (Ca (Zb Aq O) (Rc (NV isAgg215 O hF.F 0 O O) (Ka (v:=.bool false) (NR zZ O O) (Ea (Bg O (Ha (Ca (We O) (Ca (Uh O) ?_))))))))));refine Ca (Zb Aq O) (Rc (NV isAgg215 O hF.F 0 O O) (Ca (We O) (Ka (v:=.bool false) (DY zZ hj O O) (Ea (Bg O (Wa ?_))))));refine Jf (Od (Jh O) ?_);exact⟨O,hF.same,hF.heap (i:=0) O⟩
theorem TE(w0:World)(pb:Nat)(v:Value)(m:Bool)(i:Int)(hh:w0.heap[pb]? = some (.cells #[V pb,v,.bool (m),J i] 288)):Calls prog 209 #[V pb] w0 (Wd λv_ w'=>v_=.tuple #[]/\Same [pb] w0 w'/\w'.heap[pb]? = some (.cells #[V pb,v,.bool (m),J i] 288)):=by
 obtain⟨j,hj,hjs⟩:=Option.map_eq_some_iff.1 H1;have hne:pb<w0.heap.size:=Ma hh;refine Fa func209 O ntmps209 Ib (Zc _) ?_;have hF:FR w0 [pb] [(pb,.cells #[V pb,v,.bool (m),J i] 288)] w0:=FR.open_ (by simpa using hh) Da;refine Ha (Ca (We O) (Ca (Uh O) (Ca (Zb Aq O) (Rc (NV isAgg215 O hF.F 0 O O) (Ka (v:=.bool false) (NR zZ O O) (Ea (Bg O (Ha (Ca (We O) (Ca (Uh O) ?_))))))))));refine Ca (Zb Aq O) (Rc (NV isAgg215 O hF.F 0 O O) (Ca (We O) (Ka (v:=.bool false) (DY zZ hj O O) (Ea (Bg O (Wa ?_))))));refine Jf (Od (Jh O) ?_);exact⟨O,hF.same,hF.heap (i:=0) O⟩
theorem Nn{w0:World}{B pb T:Nat}{rest:List Value}{s:Str}(h:Bd w0 B pb T rest s) :
    ∃v, w0.ownsRow B 5 1 v s.length (Lib.byteCells s) /\ (∀g, v.ownBlock = some g -> g ∈ Wk w0 B pb /\ g ≠ pb) /\
      Calls prog 209 #[V pb] w0 (Wd λu w'=>u=.tuple #[]/\Same [pb] w0 w'/\w'.heap[pb]? = some (.cells (V pb::v::rest).toArray T)/\w'.ownsRow B 5 1 v s.length (Lib.byteCells s)):=by
  obtain⟨hs,hle,ap,v,hh,hO,ha⟩:=h;have hne:∀g,v.ownBlock=some g->g≠pb:=λg hg=>Nu hO hg hh (by exact hs.ne);refine⟨v,hO,λg hg=>⟨HF hO hg,hne g hg⟩,?_⟩;have fin:∀{u:Value}{w':World},(u=.tuple #[]/\Same [pb] w0 w'/\w'.heap[pb]? = some (.cells (V pb::v::rest).toArray T))->(u=.tuple #[]/\Same [pb] w0 w'/\w'.heap[pb]? = some (.cells (V pb::v::rest).toArray T)/\w'.ownsRow B 5 1 v s.length (Lib.byteCells s)) :=
    λ⟨h1,h2,h3⟩=>⟨h1,h2,h3,Jk hO h2 (λg hg=>by simpa using hne g hg)⟩
  rcases hs with ⟨rfl,rfl⟩|⟨rfl,m,i,rfl⟩ <;> rcases ha with rfl|rfl
  ·exact Oo (DE w0 pb v hh) λ_ _=>fin
  ·exact Oo (UG w0 pb v hh) λ_ _=>fin
  ·exact Oo (NF w0 pb v m i hh) λ_ _=>fin
  exact Oo (TE w0 pb v m i hh) λ_ _=>fin
theorem OB:(prog.info? 5).map (·.zero)=some (some (.int .u8 0)):=by kernel_rfl
theorem FR.addD{w0 w:World}{Ds:List Nat}{bs_:List (Nat × Obj)}{b:Nat}{o:Obj}(h:FR w0 Ds bs_ w)(hh:w.heap[b]? = some o)(hd:w0.heap.size<=b\/b∈Ds)(hn:∀p∈bs_,p.1≠b):FR w0 Ds ((b,o)::bs_) w :=
  ⟨h.same,λp hp=>by
    rcases oQ.1 hp with rfl|hp
    ·exact⟨hh,hd⟩
    exact h.own p hp,List.pairwise_cons.2 ⟨λq hq=>hn q hq,h.desc⟩⟩
def Pn(r:Int):Str:=(Lib.encodeRuneZ r).map λx=>UInt8.ofNat x.toNat
theorem Ru(r:Int):1<=(Pn r).length/\(Pn r).length<=4:=by rw[Pn,rQ];exact Lib.encodeRuneZ_length r
theorem Wj(r:Int):Lib.byteCells (Pn r)=Lib.runeCells r:=by
  rw[Pn,Lib.byteCells,Lib.runeCells,List.map_map];refine List.map_congr_left λx hx=>?_;have:=Lib.encodeRuneZ_byte r x hx;simp only[Function.comp_apply,Value.int.injEq,true_and,UInt8.toNat_ofNat'];omega
theorem Y1{w:World}{B n:Nat}{v:Value}{xs:List Value}{r:Int}(hO:w.ownsRow B 5 1 v n xs)(h0:-2147483648<=r)(h1:r<=2147483647)(hn:n+4<=140737488355328)(hB:B<=w.heap.size) :
    Calls prog 279 #[v,.int .i32 r] w (Wd λv' w'=>w'.ownsRow B 5 1 v' (n+(Pn r).length) (xs++Lib.byteCells (Pn r))/\∃o,(w.alloc o).grownBy w' v.ownBlock):=by
  refine (utf8_AppendRune_plain B v n xs r h0 h1 w hO hn hB).mono λe w' ⟨v',he,h2,h3⟩=>⟨v',he,?_,h3⟩;have e1:(Pn r).length=(Lib.runeCells r).length:=by rw[<-Wj,Lib.byteCells_length]
  rw[e1,Wj];exact h2
def Wz(f:Nat)(args:Array Value)(u:Value)(w0:World)(B pb T:Nat)(rest:List Value)(s:Str):Prop :=
  Calls prog f args w0 (Wd λv w'=>v=u/\Bd w' B pb T rest s/\Same (Wk w0 B pb) w0 w')
theorem RH(w0:World)(B pb:Nat)(s:Str)(hB:Bd w0 B pb 218 [] s)(c:UInt8)(hl:s.length+1<=140737488355328):Wz 271 #[V pb,.int .u8 ((c.toNat:Nat):Int)] .nilIface w0 B pb 218 [] (s++[c]):=by
 unfold Wz;refine Fa func271 O ntmps271 Ib (Hd _ _) ?_;obtain⟨v,hO0,hv,hC⟩:=Nn hB;have hle:=hB.le;have hBw:=hB.base;have hlt:=hB.lt;have hws:=gQ w0.heap.size;have hvl:∀g,v.ownBlock=some g->g<w0.heap.size:=λg hg=>(Uq hO0 hg).1;obtain⟨A1,c1,rfl⟩:=Si hO0;have hF:=FR.start w0 (Wk w0 B pb);refine Ha (Ca (C3) (Jc (Ca (We O) ?_)));refine Fb hC (Ra V4 O O) ?_;rintro _ w ⟨rfl,hE,hh,hO⟩;have hws:=fQ hws hE.size;have hBw:=fQ hBw hE.size;have hF:FR w0 (Wk w0 B pb) [(pb,.cells #[V pb,.slice A1 s.length c1] 218)] w:=(hF.touch hE (λb hb=>by obtain rfl:=pQ.1 hb;exact⟨λ_=>Yh.2 (.inl rfl),by simp⟩)).addD hh (.inr (Yh.2 (.inl rfl))) Da;clear hE hh;refine Jc (Ca (We O) (Ca (We O) (Ca (Uh O) (Ca (Zb Vf O) (Rc (Tf vQ O hF.F 0 O O) (Ca (Qb O) ?_))))));refine Vh 1 hF (Sa (cs:=#[.int .u8 ((c.toNat:Nat))]) aX sizeOf5 zeroValue5 Oa Oa Mb) ?_;intro b1 w hb1 hF hE;have nb1:w0.heap.size<=b1:=by rw[hb1];exact hws
 have hws:=fQ hws hE.size;have hBw:=fQ hBw hE.size;have hO:=Jk hO hE Da;refine PX (news:=[.int .u8 ((c.toNat:Nat):Int)]) PG hF hO hBw rfl rfl rfl (Vb (hF.cellsAll 0 rfl)) (by simp[Value.oneCell']) sX (λb hb=>⟨λ_=>(hv b hb).1,by have h1:=(hv b hb).2;have h2:=hvl b hb;intro p hp;simp only[oQ,List.not_mem_nil,or_false]at hp;rcases hp with rfl|rfl <;> grind⟩) ?_;clear hF hO;intro v2 w hO hF hsz;have hws:=fQ hws hsz;have hBw:=fQ hBw hsz;have hne2:∀g,v2.ownBlock=some g->g≠pb:=λg hg=>Nu hO hg (hF.heap (i:=1) rfl) rfl;obtain⟨A2,c2,rfl⟩:=Si hO;clear hsz;refine Ca (Uh O) (Ca (Zb Vf O) ?_);refine Uo (.slice _ _ _) hF sizeOf216 O O Ct Ct ?_;intro w hF hE;have hws:=fQ hws hE.size;have hBw:=fQ hBw hE.size;have hO:=Jk hO hE (λg hg=>by simpa using hne2 g hg);refine Jc (Ca (C3) (Ea ?_));refine Pd (v:=.nilIface) O O ?_;exact⟨O,⟨.inl ⟨O,O⟩,hle,_,_,hF.heap (i:=1) O,by simpa[Zq,Lib.byteCells,Wj]using hO,.inr O⟩,hF.same⟩
theorem YA(w0:World)(B pb:Nat)(s:Str)(hB:Bd w0 B pb 218 [] s)(t:Str)(hl:s.length+t.length<=140737488355328):Wz 175 #[V pb,I t] (.tuple #[J ((t.length:Nat):Int),.nilIface]) w0 B pb 218 [] (s++t):=by
 unfold Wz;refine Fa func175 O ntmps175 Ib (Hd _ _) ?_;obtain⟨v,hO0,hv,hC⟩:=Nn hB;have hle:=hB.le;have hBw:=hB.base;have hlt:=hB.lt;have hws:=gQ w0.heap.size;have hvl:∀g,v.ownBlock=some g->g<w0.heap.size:=λg hg=>(Uq hO0 hg).1;obtain⟨A1,c1,rfl⟩:=Si hO0;have hF:=FR.start w0 (Wk w0 B pb);refine Ha (Ca (Uc O) (Ca (C3) (Jc (Ca (We O) ?_))));refine Fb hC (Ra V4 O O) ?_;rintro _ w ⟨rfl,hE,hh,hO⟩;have hws:=fQ hws hE.size;have hBw:=fQ hBw hE.size;have hF:FR w0 (Wk w0 B pb) [(pb,.cells #[V pb,.slice A1 s.length c1] 218)] w:=(hF.touch hE (λb hb=>by obtain rfl:=pQ.1 hb;exact⟨λ_=>Yh.2 (.inl rfl),by simp⟩)).addD hh (.inr (Yh.2 (.inl rfl))) Da;clear hE hh;refine Jc (Ca (We O) (Ca (We O) (Ca (Uh O) (Ca (Zb Vf O) (Rc (Tf vQ O hF.F 0 O O) (Ca (Hh O) ?_))))));refine UW (str:=t) PG OB kX hF hO hBw rfl rfl sX (λb hb=>⟨λ_=>(hv b hb).1,by have h1:=(hv b hb).2;have h2:=hvl b hb;intro p hp;simp only[oQ,List.not_mem_nil,or_false]at hp;rcases hp with rfl <;> grind⟩) ?_;clear hF hO;intro v2 w hO hF hsz;have hws:=fQ hws hsz;have hBw:=fQ hBw hsz;have hne2:∀g,v2.ownBlock=some g->g≠pb:=λg hg=>Nu hO hg (hF.heap (i:=0) rfl) rfl;obtain⟨A2,c2,rfl⟩:=Si hO;clear hsz;refine Ca (Uh O) (Ca (Zb Vf O) ?_);refine Uo (.slice _ _ _) hF sizeOf216 O O Ih Ct ?_;intro w hF hE;have hws:=fQ hws hE.size;have hBw:=fQ hBw hE.size;have hO:=Jk hO hE (λg hg=>by simpa using hne2 g hg);refine Jc (Ca (Hh O) (Ca (WG kX O) (Ca (Uc O) (Ca (C3) (Ea ?_)))));refine Cc (Bc (Ua (Th (v:=J ((((t):Str).length:Int))) (x:=.nilIface) O O O) ?_));exact⟨O,⟨.inl ⟨O,O⟩,hle,_,_,hF.heap (i:=0) O,by simpa[Zq,Lib.byteCells,Wj]using hO,.inr O⟩,hF.same⟩
theorem QH(w0:World)(B pb:Nat)(s:Str)(hB:Bd w0 B pb 218 [] s)(r:Int)(hr0:-2147483648<=r)(hr1:r<=2147483647)(hl:s.length+4<=140737488355328):Wz 276 #[V pb,.int .i32 r] (.tuple #[J (((Pn r).length:Nat):Int),.nilIface]) w0 B pb 218 [] (s++Pn r):=by
 unfold Wz;have hrl:=Ru r;refine Fa func276 O ntmps276 Ib (Hd _ _) ?_;obtain⟨v,hO0,hv,hC⟩:=Nn hB;have hle:=hB.le;have hBw:=hB.base;have hlt:=hB.lt;have hws:=gQ w0.heap.size;have hvl:∀g,v.ownBlock=some g->g<w0.heap.size:=λg hg=>(Uq hO0 hg).1;obtain⟨A1,c1,rfl⟩:=Si hO0;have hF:=FR.start w0 (Wk w0 B pb);refine Ha (Ca (Uc O) (Ca (C3) (Jc (Ca (We O) ?_))));refine Fb hC (Ra V4 O O) ?_;rintro _ w ⟨rfl,hE,hh,hO⟩;have hws:=fQ hws hE.size;have hBw:=fQ hBw hE.size;have hF:FR w0 (Wk w0 B pb) [(pb,.cells #[V pb,.slice A1 s.length c1] 218)] w:=(hF.touch hE (λb hb=>by obtain rfl:=pQ.1 hb;exact⟨λ_=>Yh.2 (.inl rfl),by simp⟩)).addD hh (.inr (Yh.2 (.inl rfl))) Da;clear hE hh;refine Jc (Ca (We O) (Ca (Uh O) (Ca (Zb Vf O) (Rc (Tf vQ O hF.F 0 O O) (Ca (Mf aX O) (Ca (Uc O) (Jc ?_)))))));refine Ca (We O) (Ca (We O) (Ca (Uh O) (Ca (Zb Vf O) (Rc (Tf vQ O hF.F 0 O O) (Ca (Qb O) ?_)))));refine Fb (Y1 hO hr0 hr1 sX hBw) (Ya IY O O O) ?_;rintro v2 w2 ⟨hO2,o,hg⟩;have hF:=(hF.ext (Same.alloc _ o)).grown hg (λb hb=>⟨λ_=>(hv b hb).1,by have h1:=(hv b hb).2;have h2:=hvl b hb;intro p hp;simp only[oQ,List.not_mem_nil,or_false]at hp;rcases hp with rfl <;> grind⟩);have hsz:=fQ (Same.alloc _ o).size hg.size;clear hO hg;revert hsz hF hO2;generalize w2=w;intro hO hF hsz;have hws:=fQ hws hsz;have hBw:=fQ hBw hsz;have hne2:∀g,v2.ownBlock=some g->g≠pb:=λg hg=>Nu hO hg (hF.heap (i:=0) rfl) rfl;obtain⟨A2,c2,rfl⟩:=Si hO;clear hsz;refine Ca (Uh O) (Ca (Zb Vf O) ?_);refine Uo (.slice _ _ _) hF sizeOf216 O O Ih Ct ?_;intro w hF hE;have hws:=fQ hws hE.size;have hBw:=fQ hBw hE.size;have hO:=Jk hO hE (λg hg=>by simpa using hne2 g hg);refine Jc (Ca (We O) (Ca (Uh O) (Ca (Zb Vf O) (Rc (Tf vQ O hF.F 0 O O) (Ca (Mf aX O) (Ca (Qb O) (Ca (F_ (((Pn r).length:Nat)) O O) (Ca (Uc O) (Ca (C3) (Gb ?_))))))))))
 refine Ia (Cc (Bc (Ua (Th (v:=J (((Pn r).length:Nat))) (x:=.nilIface) O O O) ?_)));exact⟨O,⟨.inl ⟨O,O⟩,hle,_,_,hF.heap (i:=0) O,by simpa[Zq,Lib.byteCells,Wj]using hO,.inr O⟩,hF.same⟩
theorem ZI(w0:World)(B pb:Nat)(m:Bool)(i:Int)(s:Str)(hB:Bd w0 B pb 288 [.bool (m),J i] s)(c:UInt8)(hl:s.length+1<=140737488355328):Wz 271 #[V pb,.int .u8 ((c.toNat:Nat):Int)] .nilIface w0 B pb 288 [.bool (m),J i] (s++[c]):=by
 unfold Wz;refine Fa func271 O ntmps271 Ib (Hd _ _) ?_;obtain⟨v,hO0,hv,hC⟩:=Nn hB;have hle:=hB.le;have hBw:=hB.base;have hlt:=hB.lt;have hws:=gQ w0.heap.size;have hvl:∀g,v.ownBlock=some g->g<w0.heap.size:=λg hg=>(Uq hO0 hg).1;obtain⟨A1,c1,rfl⟩:=Si hO0;have hF:=FR.start w0 (Wk w0 B pb);refine Ha (Ca (C3) (Jc (Ca (We O) ?_)));refine Fb hC (Ra V4 O O) ?_;rintro _ w ⟨rfl,hE,hh,hO⟩;have hws:=fQ hws hE.size;have hBw:=fQ hBw hE.size;have hF:FR w0 (Wk w0 B pb) [(pb,.cells #[V pb,.slice A1 s.length c1,.bool (m),J i] 288)] w:=(hF.touch hE (λb hb=>by obtain rfl:=pQ.1 hb;exact⟨λ_=>Yh.2 (.inl rfl),by simp⟩)).addD hh (.inr (Yh.2 (.inl rfl))) Da;clear hE hh;refine Jc (Ca (We O) (Ca (We O) (Ca (Uh O) (Ca (Zb Vf O) (Rc (Tf vQ O hF.F 0 O O) (Ca (Qb O) ?_))))));refine Vh 1 hF (Sa (cs:=#[.int .u8 ((c.toNat:Nat))]) aX sizeOf5 zeroValue5 Oa Oa Mb) ?_;intro b1 w hb1 hF hE;have nb1:w0.heap.size<=b1:=by rw[hb1];exact hws
 have hws:=fQ hws hE.size;have hBw:=fQ hBw hE.size;have hO:=Jk hO hE Da;refine PX (news:=[.int .u8 ((c.toNat:Nat):Int)]) PG hF hO hBw rfl rfl rfl (Vb (hF.cellsAll 0 rfl)) (by simp[Value.oneCell']) sX (λb hb=>⟨λ_=>(hv b hb).1,by have h1:=(hv b hb).2;have h2:=hvl b hb;intro p hp;simp only[oQ,List.not_mem_nil,or_false]at hp;rcases hp with rfl|rfl <;> grind⟩) ?_;clear hF hO;intro v2 w hO hF hsz;have hws:=fQ hws hsz;have hBw:=fQ hBw hsz;have hne2:∀g,v2.ownBlock=some g->g≠pb:=λg hg=>Nu hO hg (hF.heap (i:=1) rfl) rfl;obtain⟨A2,c2,rfl⟩:=Si hO;clear hsz;refine Ca (Uh O) (Ca (Zb Vf O) ?_);refine Uo (.slice _ _ _) hF sizeOf216 O O Ct Ct ?_;intro w hF hE;have hws:=fQ hws hE.size;have hBw:=fQ hBw hE.size;have hO:=Jk hO hE (λg hg=>by simpa using hne2 g hg);refine Jc (Ca (C3) (Ea ?_));refine Pd (v:=.nilIface) O O ?_;exact⟨O,⟨.inr ⟨O,m,i,O⟩,hle,_,_,hF.heap (i:=1) O,by simpa[Zq,Lib.byteCells,Wj]using hO,.inr O⟩,hF.same⟩
theorem NA(w0:World)(B pb:Nat)(m:Bool)(i:Int)(s:Str)(hB:Bd w0 B pb 288 [.bool (m),J i] s)(t:Str)(hl:s.length+t.length<=140737488355328):Wz 175 #[V pb,I t] (.tuple #[J ((t.length:Nat):Int),.nilIface]) w0 B pb 288 [.bool (m),J i] (s++t):=by
 unfold Wz;refine Fa func175 O ntmps175 Ib (Hd _ _) ?_;obtain⟨v,hO0,hv,hC⟩:=Nn hB;have hle:=hB.le;have hBw:=hB.base;have hlt:=hB.lt;have hws:=gQ w0.heap.size;have hvl:∀g,v.ownBlock=some g->g<w0.heap.size:=λg hg=>(Uq hO0 hg).1;obtain⟨A1,c1,rfl⟩:=Si hO0;have hF:=FR.start w0 (Wk w0 B pb);refine Ha (Ca (Uc O) (Ca (C3) (Jc (Ca (We O) ?_))));refine Fb hC (Ra V4 O O) ?_;rintro _ w ⟨rfl,hE,hh,hO⟩;have hws:=fQ hws hE.size;have hBw:=fQ hBw hE.size;have hF:FR w0 (Wk w0 B pb) [(pb,.cells #[V pb,.slice A1 s.length c1,.bool (m),J i] 288)] w:=(hF.touch hE (λb hb=>by obtain rfl:=pQ.1 hb;exact⟨λ_=>Yh.2 (.inl rfl),by simp⟩)).addD hh (.inr (Yh.2 (.inl rfl))) Da;clear hE hh;refine Jc (Ca (We O) (Ca (We O) (Ca (Uh O) (Ca (Zb Vf O) (Rc (Tf vQ O hF.F 0 O O) (Ca (Hh O) ?_))))));refine UW (str:=t) PG OB kX hF hO hBw rfl rfl sX (λb hb=>⟨λ_=>(hv b hb).1,by have h1:=(hv b hb).2;have h2:=hvl b hb;intro p hp;simp only[oQ,List.not_mem_nil,or_false]at hp;rcases hp with rfl <;> grind⟩) ?_;clear hF hO;intro v2 w hO hF hsz;have hws:=fQ hws hsz;have hBw:=fQ hBw hsz;have hne2:∀g,v2.ownBlock=some g->g≠pb:=λg hg=>Nu hO hg (hF.heap (i:=0) rfl) rfl;obtain⟨A2,c2,rfl⟩:=Si hO;clear hsz;refine Ca (Uh O) (Ca (Zb Vf O) ?_);refine Uo (.slice _ _ _) hF sizeOf216 O O Ih Ct ?_;intro w hF hE;have hws:=fQ hws hE.size;have hBw:=fQ hBw hE.size;have hO:=Jk hO hE (λg hg=>by simpa using hne2 g hg);refine Jc (Ca (Hh O) (Ca (WG kX O) (Ca (Uc O) (Ca (C3) (Ea ?_)))));refine Cc (Bc (Ua (Th (v:=J ((((t):Str).length:Int))) (x:=.nilIface) O O O) ?_));exact⟨O,⟨.inr ⟨O,m,i,O⟩,hle,_,_,hF.heap (i:=0) O,by simpa[Zq,Lib.byteCells,Wj]using hO,.inr O⟩,hF.same⟩
theorem YG(w0:World)(B pb:Nat)(m:Bool)(i:Int)(s:Str)(hB:Bd w0 B pb 288 [.bool (m),J i] s)(r:Int)(hr0:-2147483648<=r)(hr1:r<=2147483647)(hl:s.length+4<=140737488355328):Wz 276 #[V pb,.int .i32 r] (.tuple #[J (((Pn r).length:Nat):Int),.nilIface]) w0 B pb 288 [.bool (m),J i] (s++Pn r):=by
 unfold Wz;have hrl:=Ru r;refine Fa func276 O ntmps276 Ib (Hd _ _) ?_;obtain⟨v,hO0,hv,hC⟩:=Nn hB;have hle:=hB.le;have hBw:=hB.base;have hlt:=hB.lt;have hws:=gQ w0.heap.size;have hvl:∀g,v.ownBlock=some g->g<w0.heap.size:=λg hg=>(Uq hO0 hg).1;obtain⟨A1,c1,rfl⟩:=Si hO0;have hF:=FR.start w0 (Wk w0 B pb);refine Ha (Ca (Uc O) (Ca (C3) (Jc (Ca (We O) ?_))));refine Fb hC (Ra V4 O O) ?_;rintro _ w ⟨rfl,hE,hh,hO⟩;have hws:=fQ hws hE.size;have hBw:=fQ hBw hE.size;have hF:FR w0 (Wk w0 B pb) [(pb,.cells #[V pb,.slice A1 s.length c1,.bool (m),J i] 288)] w:=(hF.touch hE (λb hb=>by obtain rfl:=pQ.1 hb;exact⟨λ_=>Yh.2 (.inl rfl),by simp⟩)).addD hh (.inr (Yh.2 (.inl rfl))) Da;clear hE hh;refine Jc (Ca (We O) (Ca (Uh O) (Ca (Zb Vf O) (Rc (Tf vQ O hF.F 0 O O) (Ca (Mf aX O) (Ca (Uc O) (Jc ?_)))))));refine Ca (We O) (Ca (We O) (Ca (Uh O) (Ca (Zb Vf O) (Rc (Tf vQ O hF.F 0 O O) (Ca (Qb O) ?_)))));refine Fb (Y1 hO hr0 hr1 sX hBw) (Ya IY O O O) ?_;rintro v2 w2 ⟨hO2,o,hg⟩;have hF:=(hF.ext (Same.alloc _ o)).grown hg (λb hb=>⟨λ_=>(hv b hb).1,by have h1:=(hv b hb).2;have h2:=hvl b hb;intro p hp;simp only[oQ,List.not_mem_nil,or_false]at hp;rcases hp with rfl <;> grind⟩);have hsz:=fQ (Same.alloc _ o).size hg.size;clear hO hg;revert hsz hF hO2;generalize w2=w;intro hO hF hsz;have hws:=fQ hws hsz;have hBw:=fQ hBw hsz;have hne2:∀g,v2.ownBlock=some g->g≠pb:=λg hg=>Nu hO hg (hF.heap (i:=0) rfl) rfl;obtain⟨A2,c2,rfl⟩:=Si hO;clear hsz;refine Ca (Uh O) (Ca (Zb Vf O) ?_);refine Uo (.slice _ _ _) hF sizeOf216 O O Ih Ct ?_;intro w hF hE;have hws:=fQ hws hE.size;have hBw:=fQ hBw hE.size;have hO:=Jk hO hE (λg hg=>by simpa using hne2 g hg);refine Jc (Ca (We O) (Ca (Uh O) (Ca (Zb Vf O) (Rc (Tf vQ O hF.F 0 O O) (Ca (Mf aX O) (Ca (Qb O) (Ca (F_ (((Pn r).length:Nat)) O O) (Ca (Uc O) (Ca (C3) (Gb ?_))))))))))
 refine Ia (Cc (Bc (Ua (Th (v:=J (((Pn r).length:Nat))) (x:=.nilIface) O O O) ?_)));exact⟨O,⟨.inr ⟨O,m,i,O⟩,hle,_,_,hF.heap (i:=0) O,by simpa[Zq,Lib.byteCells,Wj]using hO,.inr O⟩,hF.same⟩
theorem J8:prog.cellsOf 5=1:=by kernel_rfl
theorem Same.freeze(w:World)(a:Addr)(n:Nat):Same [a.block] w (w.freeze a n):=by
  have h:=Lib.below_freeze (B:=a.block) (Below.refl a.block w) (p:=a) (gQ _) n;refine⟨h.os,h.tape,h.output,h.size,λb hb hn=>?_⟩;have hn':b≠a.block:=by simpa using hn
  unfold World.freeze;split
  ·rfl
  simp[Array.getElem?_modify,hn'.symm]
theorem VV(w0:World)(B pb:Nat)(s:Str)(hB:Bd w0 B pb 218 [] s)(h0:s≠[]):Calls prog 177 #[V pb] w0 (Wd λv w'=>v=I s/\Same (Wk w0 B pb) w0 w'):=by
  refine Fa func177 O ntmps177 Ib (Zc _) ?_;obtain⟨-,hle,ap,v,hh,hO,-⟩:=hB;have hsl:s.length≠0:=by simpa using h0
  obtain⟨g,c1,cur,rfl,hbg,hg,hnc,hcm,hcs,htake⟩:∃g cap cur,v=W g s.length cap/\B<=g/\w0.heap[g]? = some (.cells cur 5 (0,0))/\s.length<=cap/\cap<=maxLen/\cur.size=cap*1/\cur.toList.take (s.length*1)=Lib.byteCells s:=by
    rcases hO.2 with ⟨_,hz⟩|⟨g,cap,cur,hv,r⟩
    ·exact absurd hz hsl
    exact⟨g,cap,cur,hv,r⟩
  have hgm:g∈Wk w0 B pb:=HF hO rfl;have hgn:g≠pb:=Nu hO rfl hh (by rfl);have hF:FR w0 (Wk w0 B pb) [(pb,.cells #[ap,W g s.length c1] 218)] w0:=(FR.start w0 (Wk w0 B pb)).addD hh (.inr (Yh.2 (.inl rfl))) Da;refine Ja (Ga ?_);refine Ca (Dn O) (Gb ?_);refine Ia (Ja ?_);refine Kd (.of []) (bQ [0,1,2,3,5,6,7,8,9] (.act 4 (.act 10 (.free 11 .nil)))) hF ?_;intro w hF hE;have hg:=(hE.block g (Ma hg) Da).trans hg;have hO:=Jk hO hE Da;refine⟨λwq=>FR w0 (Wk w0 B pb) _ wq,hF,?_⟩;refine Cb O (We O) (Cb O (Uh O) ?_);refine Cb O (Zb Vf O) (Vi O (Tf vQ O C0 0 O O) ?_);refine Cb O (We O) (Cb O (Uh O) ?_);refine Cb O (Zb Vf O) (Vi O (Tf vQ O C0 0 O O) ?_);refine Cb O (Mf aX O) (Ke O (x_usd O sX) hF ?_);have hu:(Builtin.unsafeString_ #[251,3] 9 #[V g,J s.length]).run prog w=.ok (I s) (w.freeze ⟨g,0,none⟩ s.length):=Lib.run_unsafeString_row w 251 3 9 5 underlying251 J8 g cur.size (by simp[World.shape?,hg]) s h0 sX (by simp only[maxLen]at hcm;omega) (λj x hx=>hO.cells (g:=g) rfl j (.int .u8 x.toNat) (by simp[Lib.byteCells,hx]));have hEf:FR w0 (Wk w0 B pb) _ (w.freeze ⟨g,0,none⟩ s.length):=hF.touch (Same.freeze w ⟨g,0,none⟩ s.length) (λb hb=>by obtain rfl:=pQ.1 hb;exact⟨λ_=>hgm,by simpa using hgn.symm⟩);refine Ke O (x_uss O O hu) hEf ?_;have hF:=hEf;refine Cb O (Dn O) (Fc ?_);refine Ia (Pd (v:=I s) O O ?_);exact⟨O,hF.same⟩
theorem ZV(w0:World)(B pb:Nat)(m:Bool)(i:Int)(s:Str)(hB:Bd w0 B pb 288 [.bool (m),J i] s)(h0:s≠[]):Calls prog 177 #[V pb] w0 (Wd λv w'=>v=I s/\Same (Wk w0 B pb) w0 w'):=by
  refine Fa func177 O ntmps177 Ib (Zc _) ?_;obtain⟨-,hle,ap,v,hh,hO,-⟩:=hB;have hsl:s.length≠0:=by simpa using h0
  obtain⟨g,c1,cur,rfl,hbg,hg,hnc,hcm,hcs,htake⟩:∃g cap cur,v=W g s.length cap/\B<=g/\w0.heap[g]? = some (.cells cur 5 (0,0))/\s.length<=cap/\cap<=maxLen/\cur.size=cap*1/\cur.toList.take (s.length*1)=Lib.byteCells s:=by
    rcases hO.2 with ⟨_,hz⟩|⟨g,cap,cur,hv,r⟩
    ·exact absurd hz hsl
    exact⟨g,cap,cur,hv,r⟩
  have hgm:g∈Wk w0 B pb:=HF hO rfl;have hgn:g≠pb:=Nu hO rfl hh (by rfl);have hF:FR w0 (Wk w0 B pb) [(pb,.cells #[ap,W g s.length c1,.bool (m),J i] 288)] w0:=(FR.start w0 (Wk w0 B pb)).addD hh (.inr (Yh.2 (.inl rfl))) Da;refine Ja (Ga ?_);refine Ca (Dn O) (Gb ?_);refine Ia (Ja ?_);refine Kd (.of []) (bQ [0,1,2,3,5,6,7,8,9] (.act 4 (.act 10 (.free 11 .nil)))) hF ?_;intro w hF hE;have hg:=(hE.block g (Ma hg) Da).trans hg;have hO:=Jk hO hE Da;refine⟨λwq=>FR w0 (Wk w0 B pb) _ wq,hF,?_⟩;refine Cb O (We O) (Cb O (Uh O) ?_);refine Cb O (Zb Vf O) (Vi O (Tf vQ O C0 0 O O) ?_);refine Cb O (We O) (Cb O (Uh O) ?_);refine Cb O (Zb Vf O) (Vi O (Tf vQ O C0 0 O O) ?_);refine Cb O (Mf aX O) (Ke O (x_usd O sX) hF ?_);have hu:(Builtin.unsafeString_ #[251,3] 9 #[V g,J s.length]).run prog w=.ok (I s) (w.freeze ⟨g,0,none⟩ s.length):=Lib.run_unsafeString_row w 251 3 9 5 underlying251 J8 g cur.size (by simp[World.shape?,hg]) s h0 sX (by simp only[maxLen]at hcm;omega) (λj x hx=>hO.cells (g:=g) rfl j (.int .u8 x.toNat) (by simp[Lib.byteCells,hx]));have hEf:FR w0 (Wk w0 B pb) _ (w.freeze ⟨g,0,none⟩ s.length):=hF.touch (Same.freeze w ⟨g,0,none⟩ s.length) (λb hb=>by obtain rfl:=pQ.1 hb;exact⟨λ_=>hgm,by simpa using hgn.symm⟩);refine Ke O (x_uss O O hu) hEf ?_;have hF:=hEf;refine Cb O (Dn O) (Fc ?_);refine Ia (Pd (v:=I s) O O ?_);exact⟨O,hF.same⟩
theorem Fs{w0:World}{B pb T:Nat}{rest:List Value}{s:Str}(hB:Bd w0 B pb T rest s)(c:UInt8)(hl:s.length+1<=140737488355328):Wz 271 #[V pb,.int .u8 ((c.toNat:Nat):Int)] .nilIface w0 B pb T rest (s++[c]):=by
  rcases hB.shp with ⟨rfl,rfl⟩|⟨rfl,m,i,rfl⟩
  ·exact RH w0 B pb s hB c hl
  exact ZI w0 B pb m i s hB c hl
theorem Om{w0:World}{B pb T:Nat}{rest:List Value}{s:Str}(hB:Bd w0 B pb T rest s)(t:Str)(hl:s.length+t.length<=140737488355328):Wz 175 #[V pb,I t] (.tuple #[J ((t.length:Nat):Int),.nilIface]) w0 B pb T rest (s++t):=by
  rcases hB.shp with ⟨rfl,rfl⟩|⟨rfl,m,i,rfl⟩
  ·exact YA w0 B pb s hB t hl
  exact NA w0 B pb m i s hB t hl
theorem WK{w0:World}{B pb T:Nat}{rest:List Value}{s:Str}(hB:Bd w0 B pb T rest s)(r:Int)(h0:-2147483648<=r)(h1:r<=2147483647)(hl:s.length+4<=140737488355328):Wz 276 #[V pb,.int .i32 r] (.tuple #[J (((Pn r).length:Nat):Int),.nilIface]) w0 B pb T rest (s++Pn r):=by
  rcases hB.shp with ⟨rfl,rfl⟩|⟨rfl,m,i,rfl⟩
  ·exact QH w0 B pb s hB r h0 h1 hl
  exact YG w0 B pb m i s hB r h0 h1 hl
theorem NJ{w0:World}{B pb T:Nat}{rest:List Value}{s:Str}(hB:Bd w0 B pb T rest s)(h0:s≠[]):Calls prog 177 #[V pb] w0 (Wd λv w'=>v=I s/\Same (Wk w0 B pb) w0 w'):=by
  rcases hB.shp with ⟨rfl,rfl⟩|⟨rfl,m,i,rfl⟩
  ·exact VV w0 B pb s hB h0
  exact ZV w0 B pb m i s hB h0
structure BW (w0:World) (Ds:List Nat) (w:World) (B pb T:Nat) (rest:List Value) (s:Str):Prop where
  bd:Bd w B pb T rest s
  sub:∀x∈Wk w B pb,x<w0.heap.size->x∈Ds
  ge:w0.heap.size<=w.heap.size
section
variable {w0 w w':World}{Ds E:List Nat}{bs_:List (Nat × Obj)}{B pb T:Nat}{rest:List Value}{s t:Str}
theorem BW.start(h:Bd w0 B pb T rest s):BW w0 (Wk w0 B pb) w0 B pb T rest s:=⟨h,λx hx _=>hx,gQ _⟩
theorem BW.own(h:Bd w B pb T rest s)(hb:w0.heap.size<=B)(hg:w0.heap.size<=w.heap.size):BW w0 Ds w B pb T rest s :=
  ⟨h,λx hx hl=>by
    have:=h.le;rcases Yh.1 hx with rfl|⟨-,h2,-⟩ <;> omega,hg⟩
theorem BW.lt(h:BW w0 Ds w B pb T rest s):pb<w.heap.size:=h.bd.lt
theorem BW.wrote(h:BW w0 Ds w B pb T rest s)(hb:Bd w' B pb T rest t)(hs:Same (Wk w B pb) w w'):BW w0 Ds w' B pb T rest t :=
  ⟨hb,λx hx hl=>by
    rcases Wk.step hs hx with h1|h1
    ·exact h.sub x h1 hl
    have:=h.ge;omega,fQ h.ge hs.size⟩
theorem FR.wrote(hF:FR w0 Ds bs_ w)(h:BW w0 Ds w B pb T rest s)(hs:Same (Wk w B pb) w w')(hb:∀p∈bs_,Mm p.2=false/\p.1≠pb):FR w0 Ds bs_ w' :=
  hF.touch hs λx hx=>⟨h.sub x hx,λp hp e=>by
    have h1:=hb p hp;rcases Yh.1 hx with h2|⟨-,-,h3⟩
    ·exact h1.2 (e.trans h2)
    rw[<-e,Kw (hF.memHeap hp),h1.1]at h3;cases h3⟩
theorem Bd.same(h:Bd w B pb T rest s)(hs:Same E w w')(hp:pb∉E)(he:∀x∈E,Xw w x=false):Bd w' B pb T rest s:=by
  obtain⟨h1,h2,ap,v,h3,h4,h5⟩:=h;refine⟨h1,h2,ap,v,(hs.block pb (Ma h3) hp).trans h3,Jk h4 hs (λg hg hm=>?_),h5⟩;have:=(Uq h4 hg).2.2;rw[he g hm]at this;cases this
theorem Bd.ext(h:Bd w B pb T rest s)(hs:Same [] w w'):Bd w' B pb T rest s:=h.same hs Da Da
theorem BW.step(h:BW w0 Ds w B pb T rest s)(hs:Same E w w')(hp:pb∉E)(he:∀x∈E,Xw w x=false)(he':∀x∈E,Xw w' x=false):BW w0 Ds w' B pb T rest s :=
  ⟨h.bd.same hs hp he,λx hx hl=>by
    refine h.sub x (Yh.2 ?_) hl;have hl2:=Nat.lt_of_lt_of_le hl h.ge;rcases Yh.1 hx with rfl|⟨-,h2,h3⟩
    ·exact .inl O
    refine .inr ⟨hl2, h2, ?_⟩;have hn:x∉E:=λhm=>by rw[he' x hm]at h3;cases h3
    rw[Xw,<-hs.block x hl2 hn];exact h3,fQ h.ge hs.size⟩
theorem BW.ext(h:BW w0 Ds w B pb T rest s)(hs:Same [] w w'):BW w0 Ds w' B pb T rest s:=h.step hs Da Da Da
theorem Rep.off{d:D}{cs:List Value}(h:Rep (λx=>x∉Wk w B pb) w d cs)(hs:Same (Wk w B pb) w w'):Rep (λx=>x∉Wk w' B pb) w' d cs :=
  ((h.old).same hs (λb hb hn=>hn.1 hb)).weaken λx hx _ hm=>by
    rcases Wk.step hs hm with h1|h1
    ·exact hx.1 h1
    have:=hx.2;omega
theorem Rep.off_ext{d:D}{cs:List Value}(h:Rep (λx=>x∉Wk w B pb) w d cs)(hp:pb<w.heap.size)(hs:Same [] w w'):Rep (λx=>x∉Wk w' B pb) w' d cs:=h.off (hs.mono Da)
end
section
variable {P:Program}{w:World}{ρ:Operand->Value}{dst:Option Nat}{ty:TypeId}{pos:String}{aft:Array Edge}{g:Option (Nat × Bool)}
theorem QV{t t':TypeId}{x y:Operand}{k:IntKind}{a b c:Int}(hx:ρ x=.int k a)(hy:ρ y=.int k b)(h:bits .and k a b=c) :
    (execOp ρ ⟨dst,.binOp .and t x y t',ty,pos,aft,g⟩).run P w=.ok (.value (.int k c)) w:=by
  simp[execOp,hx,hy,Gf,binOp,intBits_and,h]
theorem x_shr{t t':TypeId}{x y:Operand}{k k2:IntKind}{a c:Int}(m:Nat)(hx:ρ x=.int k a)(hy:ρ y=.int k2 m)(hm:m<=k.bits)(h:a.fdiv (2 ^ m)=c) :
    (execOp ρ ⟨dst,.binOp .shr t x y t',ty,pos,aft,g⟩).run P w=.ok (.value (.int k c)) w:=by
  have hg:(eqGuard .shr t x y (.int k a) (.int k2 m)).run P w=.ok () w:=by unfold eqGuard;simp
  have h0:¬((m:Int)<0):=by omega
  simp[execOp,hx,hy,hg,binOp,Op.shift,h0,Nat.min_eq_left hm,h]
theorem Qz{t e N:Nat}{x y:Operand}{kk:IntKind}{b:Nat}(i:Nat)(ht:P.underlying t=some (.array N e))(hs:∀w,(sizeOf e).run P w=.ok 1 w)(hx:ρ x=V b)(hy:ρ y=.int kk (i:Int))(h1:i<N) :
    (execOp ρ ⟨dst,.indexAddr t x y,ty,pos,aft,g⟩).run P w=.ok (.value (.pointer (some ⟨b,i,none⟩))) w:=by
  have h2:(0:Int)<=(i:Int)/\(i:Int)<(N:Int):=by omega
  have e1:(⟨b,0,none⟩:Addr).add i=⟨b,i,none⟩:=by rw[Xl,Nat.zero_add]
  simp[execOp,hx,hy,Instr.indexAt,run_underlying ht,Instr.sureAddr,asIntOf,h2,hs,e1];intro hh;omega
theorem GP{t e N:Nat}{x y:Operand}{kk:IntKind}{b:Nat}(i:Nat)(ht:P.underlying t=some (.array N e))(hs:∀w,(sizeOf e).run P w=.ok 1 w)(hx:ρ x=V b)(hy:ρ y=.int kk (i:Int))(h1:i<N) :
    (execOp ρ ⟨dst,.slice t x (some y) none none,ty,pos,aft,g⟩).run P w=.ok (.value (.slice (some ⟨b,i,none⟩) (N-i) (N-i))) w:=by
  have h0:¬N=i:=by omega
  have e1:(⟨b,0,none⟩:Addr).add i=⟨b,i,none⟩:=by rw[Xl,Nat.zero_add]
  have e2:(0:Int)<=(i:Int)/\(i:Int)<=(N:Int):=by omega
  simp[execOp,hx,hy,Instr.sliceAt,run_underlying ht,Instr.sureAddr,Instr.sliceBounds,run_sliceBound,hs,e1,h0,e2]
theorem GZ{t t' e:Nat}{x:Operand}{a:Addr}{n c:Nat}(s:Str)(ht:P.underlying t=some (.slice e))(he:P.underlying e=some (.int .u8))(hd:P.underlying t'=some .string)(hx:ρ x=.slice (some a) n c)(hn:s.length=n)
    (h:∀j (hj:j<s.length),w.cell? (a.add j)=some (.int .u8 (s[j].toNat:Int))) :
    (execOp ρ ⟨dst,.convert t t' x,ty,pos,aft,g⟩).run P w=.ok (.value (I s)) w:=by
  have hl:=Xs (P:=P) a w ((s.map λu=>(u.toNat:Int)).map (Value.int .u8)) (m:=n) (by simp[hn]) (λj hj=>by simp at hj ⊢;exact h j hj);have hb:=run_bytesToString w a n c (s.map λu=>(u.toNat:Int)) hl;have e1:∀(l:Str)(acc:ByteArray),(l.map λu=>(u.toNat:Int)).foldl (λr n=>r.push (UInt8.ofNat n.toNat)) acc=⟨acc.data++l.toArray⟩:=by
    intro l
    induction l with
    | nil=>intro acc;simp
    | cons u l ih=>intro acc;rw[List.map_cons,List.foldl_cons,ih];simp[ByteArray.push]
  rw[e1]at hb;simp[execOp,hx,run_convert_bytes_string w t t' e _ _ _ ht he hd,hb]
end
def MP:List Value:=List.replicate 65 (.int .u8 0)
def R2:Str:=[48,49,50,51,52,53,54,55,56,57,97,98,99,100,101,102,103,104,105,106,107,108,109,110,111,112,113,114,115,116,117,118,119,120,121,122]
def dg(k:Nat):UInt8:=R2.getD k 0
def Xo(r:Nat):Str:=if r<16 then [dg r] else [dg (r/16),dg (r%16)]
theorem J5{k:Nat}(h:k<R2.length):R2[k]=dg k:=by simp[dg,h]
theorem wrap64:∀r<32,IntKind.u64.wrap ((r:Nat):Int)=r:=by decide
theorem and15:∀u<32,bits .and .u64 ((u:Nat):Int) 15=((u%16:Nat):Int):=by decide
theorem tz64_c(w0:World)(hG:Gl w0):Calls prog 243 #[.int .u64 16] w0 (Wd λv w'=>v=J 4/\Same [] w0 w'):=by
 obtain⟨e,fz,hbr⟩:=hG.bru;refine Fa func243 O ntmps243 Ib (Zc _) ?_;have hF:=FR.start w0 [];refine Ha (Ca (Uc O) (Ea (Ja (Ha (Ca (Qb O) (Ka (v:=.bool false) (Wf (Rh O O) Oa) (Ea (Bg O (Wa ?_)))))))));refine Ia (Ha (Ca (Qb O) (Ca (Qb O) (Ka (v:=.int .u64 18446744073709551600) (x_neg O Oa) (Ka (v:=.int .u64 16) (QV O O Oa) (Ka (v:=.int .u64 4573923408821661840) (SH O O Oa) (Ka (v:=.int .u64 15) (x_shr 58 O O Oa Oa) (Ka (v:=.pointer (some (⟨7,15,none⟩))) (Qz 15 underlying304 sizeOf5 O O Oa) ?_))))))));refine Ka (v:=.int .u8 4) (Ob isAgg5 O (by rw[Xb (hF.heap0 hbr)];rfl)) ?_;refine Ka (v:=J 4) (Ej underlying5 fX O Oa) (Ca (Uc O) (Ea ?_));refine Pd (v:=J 4) O O ?_;exact⟨O,hF.same⟩
theorem tz_c(w0:World)(hG:Gl w0):Calls prog 219 #[.int .u64 16] w0 (Wd λv w'=>v=J 4/\Same [] w0 w'):=by
 refine Fa func219 O ntmps219 Ib (Zc _) ?_;have hF:=FR.start w0 [];refine Ha (Ca (Uc O) (Ea (Ja (D4 O (Ha (Ca (Qb O) ?_))))));refine Hb hF (tz64_c _ (hG.ext hF.same)) (Ra en_243 O O) ?_;intro w hF;refine Ca (Uc O) (Ea ?_);refine Pd (v:=J 4) O O ?_;exact⟨O,hF.same⟩
theorem pow2_c(w0:World):Calls prog 218 #[J 16] w0 (Wd λv w'=>v=.bool true/\Same [] w0 w'):=by
 refine Fa func218 O ntmps218 Ib (Zc _) ?_;have hF:=FR.start w0 [];refine Ha (Ca (Ic O) (Jc (Ca (Qb O) (Ca (Qb O) (Ka (v:=J 15) (Y5 O O Oa) (Ka (v:=J 0) (QV O O Oa) (Ka (v:=.bool true) (Ge (Rh O O) Oa) (Ca (Ic O) (Gb ?_)))))))));refine Ia (Pd (v:=.bool true) O O ?_);exact⟨O,hF.same⟩
theorem UF(w0:World)(hG:Gl w0)(r:Nat)(hr:r<32):Calls prog 183 #[aQ,.int .u64 (r:Int),J 16,.bool false,.bool false] w0 (Wd λv w'=>v=.tuple #[aQ,I (Xo r)]/\Same [] w0 w'):=by
  refine Fa func183 O ntmps183 Ib (H8 _ _ _ _ _) ?_;have hF:=FR.start w0 [];refine Ja (Ga ?_);refine Ca (Sj O) (Ca (Dn O) ?_);refine Gb (Ia ?_);refine Ja (Ja ?_);refine Ga (Ca (Qb O) ?_);refine Ka (v:=.bool false) (Wf (D6 O O) Oa) (Ca (Fe O) ?_);refine Ca (Qb O) (Ka (v:=.bool false) (Wf (Rh O O) Oa) ?_);refine Ca (Ae O O) (Ca (Fe O) ?_);refine Ca (Qb O) (Ka (v:=.bool false) (Wf (DI O O) Oa) ?_);refine Ca (Ae O O) (Gb ?_);refine Ia (Bg O ?_);refine Wa (Ia ?_);refine Ja (Ga ?_);refine Md (cs:=(List.toArray MP)) hF zeroValue261 Mb ?_;intro b1 w hb1 hF hE;refine Gb (Ia ?_);refine Ja (Ga ?_);refine Ca (Uc O) (Gb ?_);refine Ia (Ja ?_);refine Ja (Ga ?_);refine Ca (Fe O) (Gb ?_);refine Ia (Bg O ?_);refine Wa (Ia ?_);refine Ja (Ja ?_);refine Ga (Ca (Qb O) ?_);refine Hb hF (pow2_c _) (Ra en_218 O O) ?_;intro w hF;refine Gb (Ia ?_);refine Le O (Ja ?_);refine Ga (Ca (Qb O) ?_);refine Ka (v:=.int .u64 16) (Ej fX underlying154 O Oa) (Hb hF (tz_c _ (hG.ext hF.same)) (Ra en_219 O O) ?_);intro w hF;refine Ka (v:=.int .u64 4) (Ej fX underlying154 O Oa) (Ca (Uc O) ?_);refine Gb (Ia ?_);refine Ja (Ga ?_);refine Ca (Qb O) (Ka (v:=.int .u64 16) (Ej fX underlying212 O Oa) ?_);refine Ca (Uc O) (Gb ?_);refine Ia (Ja ?_);refine Ga (Ca (Qb O) ?_);refine Ka (v:=.int .u64 16) (Ej fX underlying154 O Oa) (Ka (v:=.int .u64 15) (Y5 O O Oa) ?_);refine Ca (Uc O) (Gb ?_);refine Ia (Ja ?_);refine Za (Ad (λμ σ w=>∃(u:Nat),∃(i:Nat),∃(cs:List Value),μ=2*u/\((u=r/\i=65/\cs=MP)\/(16<=r/\u=r/16/\i=64/\cs=MP.set 64 (.int .u8 ((dg (r%16)).toNat:Int))))/\AllEq σ [(0,aQ),(1,.int .u64 ((u:Int))),(3,.bool false),(4,.bool false),(10,aQ),(11,I []),(12,V b1),(13,J ((i:Int))),(14,.int .u64 4),(15,.int .u64 16),(16,.int .u64 15)]/\FR w0 [] [(b1,.cells (List.toArray cs) 261)] w) _ ⟨r,65,MP,O,(.inl ⟨O,O,O⟩),⟨O,O,O,O,O,O,O,O,O,O,O,trivial⟩,hF⟩ ?_)
  rintro μ σ w ⟨u,i,cs,rfl,hI,hs,hF⟩;refine Cg.slots hs ?_;clear hs;intro σ;have hcl:cs.length=65:=by rcases hI with ⟨-,-,rfl⟩|⟨-,-,-,rfl⟩ <;> simp[MP]
  have hu32:u<32:=by omega
  refine Ja (Ja ?_);refine Ga (Ca (Qb O) ?_);refine Ca (Qb O) (Ca (HL O O) ?_);refine Gb (Ia ?_);refine Nc O O (λhc3=>?_) (λhc3=>?_)
  ·
   refine Wa (Ia ?_);refine Za (Ja ?_);refine Ga (Ca (Qb O) ?_);refine Ca (F_ (((64:Nat):Int)) O O) (Ca (Uc O) ?_);refine Gb (Ia ?_);refine Ja (Ga ?_);refine Ca (Qb O) (Ca (Qb O) ?_);refine Ca (Qb O) (Ka (v:=.int .u64 (((u%16:Nat):Int))) (QV O O (and15 u sX)) ?_);refine Ka (v:=.int .u8 (((dg (u%16)).toNat:Int))) (by rw[<-J5 (show u%16<R2.length by show u%16<36;omega)];exact Dl (u%16) kX O O _) ?_;refine Ka (v:=.pointer (some ⟨b1,64,none⟩)) (Qz 64 underlying261 sizeOf5 O O Oa) ?_;refine Of 0 (l:=[.int .u8 (((dg (u%16)).toNat:Nat):Int)]) (cs':=(List.toArray (cs.set 64 (.int .u8 (((dg (u%16)).toNat:Nat):Int))))) hF sizeOf5 O (v:=.int .u8 (((dg (u%16)).toNat:Nat):Int)) O O Re O (by simp[hcl] <;> omega) (by simp[putA]) ?_;intro w hF hE;have hF:FR w0 [] [(b1,.cells (List.toArray (cs.set 64 (.int .u8 (((dg (u%16)).toNat:Nat):Int)))) 261)] w:=hF;refine Gb (Ia ?_);refine Ga (Ca (Qb O) ?_);refine Ca (Qb O) ?_;refine Ka (v:=.int .u64 (((u/16:Nat):Int))) (x_shr 4 O O Oa (by rw[Int.fdiv_eq_ediv_of_nonneg _ Oa];omega)) ?_;refine Ca (Uc O) (Gb ?_);refine Eb ?_;refine Dc ⟨_,?_,u/16,64,cs.set 64 (.int .u8 (((dg (u%16)).toNat:Nat):Int)),rfl,(.inr (by rcases hI with ⟨rfl,rfl,rfl⟩|⟨h16,rfl,rfl,rfl⟩ <;> first|omega|exact⟨by omega,rfl,rfl,rfl⟩)),⟨rfl,rfl,rfl,rfl,rfl,rfl,rfl,rfl,rfl,rfl,rfl,trivial⟩,hF⟩;omega
  refine Pc (Oc O ?_);refine Ia (Ja ?_);refine Ga (Ca (Qb O) ?_);refine Ca (F_ (((i-1:Nat):Int)) O O) (Ca (Uc O) ?_);refine Gb (Ia ?_);refine Ga (Ca (Qb O) ?_);refine Ca (Qb O) ?_;refine Ka (v:=.int .u8 (((dg u).toNat:Int))) (by rw[<-J5 (show u<R2.length by show u<36;omega)];exact Dl u kX O O _) ?_;refine Ka (v:=.pointer (some ⟨b1,(i-1),none⟩)) (Qz (i-1) underlying261 sizeOf5 O O sX) ?_;refine Of 0 (l:=[.int .u8 (((dg (u)).toNat:Nat):Int)]) (cs':=(List.toArray (cs.set (i-1) (.int .u8 (((dg (u)).toNat:Nat):Int))))) hF sizeOf5 O (v:=.int .u8 (((dg (u)).toNat:Nat):Int)) O O Re O (by simp[hcl] <;> omega) (by simp[putA]) ?_;intro w hF hE;have hF:FR w0 [] [(b1,.cells (List.toArray (cs.set (i-1) (.int .u8 (((dg (u)).toNat:Nat):Int)))) 261)] w:=hF;refine Gb (Ia ?_);refine Ja (Ja ?_);refine Ga (Ca (Fe O) ?_);refine Gb (Ia ?_);refine Bg O (Wa ?_);refine Ia (Ja ?_);refine Ja (Ga ?_);refine Ca (Fe O) (Gb ?_);refine Ia (Bg O ?_);refine Wa (Ia ?_);refine Ja (Ga ?_);refine Ca (Qb O) (Ka (v:=.slice (some ⟨b1,i-1,none⟩) (65-(i-1)) (65-(i-1))) (GP (i-1) underlying261 sizeOf5 O O sX) ?_);have hfin:(Xo r).length=65-(i-1)/\∀j (hj:j<(Xo r).length),w.cell? ((⟨b1,i-1,none⟩:Addr).add j)=some (.int .u8 ((Xo r)[j].toNat:Int)):=by
    have hh:=hF.heap (i:=0) rfl;rcases hI with ⟨rfl,rfl,rfl⟩|⟨h16,rfl,rfl,rfl⟩
    ·have h1 : Xo u = [dg u] := by rw[Xo, if_pos sX]
     refine⟨by rw[h1];rfl,λj hj=>?_⟩;have hj0:j=0:=by rw[h1]at hj;simpa using hj
     subst hj0;rw[Xl,Xb hh];simp[h1,MP]
    have h1 : Xo r = [dg (r/16), dg (r%16)] := by rw[Xo, if_neg sX]
    refine⟨by rw[h1];rfl,λj hj=>?_⟩;have hj2:j=0\/j=1:=by rw[h1]at hj;simp at hj;omega
    rw[Xl,Xb hh];rcases hj2 with rfl|rfl <;> simp[h1,MP]
  refine Ka (v:=I (Xo r)) (GZ (Xo r) aX underlying5 kX O hfin.1 hfin.2) (Ca (Dn O) ?_);refine Gb (Ia ?_);refine Cc (Bc (Ua (Th (v:=.slice _ _ _) (x:=I (Xo r)) O O O) ?_));exact⟨O,hF.same⟩
theorem KW(w0:World)(hG:Gl w0)(r:Nat)(hr:r<32):Calls prog 130 #[J (r:Int),J 16] w0 (Wd λv w'=>v=I (Xo r)/\Same [] w0 w'):=by
 refine Fa func130 O ntmps130 Ib (Hd _ _) ?_;have hF:=FR.start w0 [];refine Ha (Ca (Dn O) (Ea (Ja (Ha (Ca (Qb O) (Ka (v:=.bool false) (Wf (Rh O O) Oa) (Ea (Bg O (Wa ?_)))))))));refine Ia (Ha (Ca (Qb O) (Ka (v:=.int .u64 ((r:Int))) (Ej underlying2 underlying212 O (wrap64 r hr)) (Ca (Qb O) (Ca (Qb O) (Ka (v:=.bool false) (Wf (D6 O O) sX) ?_))))));refine Hb hF (UF _ (hG.ext hF.same) r hr) (Zu en_183 O O O O O O) ?_;intro w hF;refine Ca (Bo O) (Ca (LP O O) (Ca (AM O O) (Ca (Sj O) (Ca (Dn O) (Jc (Ca (Hh O) (Ca (Dn O) (Ea ?_))))))));refine Pd (v:=I (Xo r)) O O ?_;exact⟨O,hF.same⟩
theorem hex_c(w0:World)(hG:Gl w0)(r:Nat)(hr:r<32):Calls prog 277 #[J (r:Int),J 16] w0 (Wd λv w'=>v=I (Xo r)/\Same [] w0 w'):=by
 refine Fa func277 O ntmps277 Ib (Hd _ _) ?_;have hF:=FR.start w0 [];refine Ha (Ca (Dn O) (Jc (Ca (Qb O) (Ca (Qb O) ?_))));refine Hb hF (KW _ (hG.ext hF.same) r hr) (Ya en_130 O O O) ?_;intro w hF;refine Ca (Dn O) (Ea ?_);refine Pd (v:=I (Xo r)) O O ?_;exact⟨O,hF.same⟩
def Mh(r:Int):Int:=if r=34 then 34 else if r=92 then 92 else if r=8 then 98 else if r=12 then 102 else if r=10 then 110 else if r=13 then 114 else if r=9 then 116 else 0
theorem letter_c(w0:World)(r:Int):Calls prog 275 #[.int .i32 r] w0 (Wd λv w'=>v=.int .u8 (Mh r)/\Same [] w0 w'):=by
 refine Fa func275 O ntmps275 Ib (Zc _) ?_;have hF:=FR.start w0 [];refine Ha (Ca (Uc O) (Ea (Ja (Ha (Ca (Qb O) (Ea (Za (Ja (Ja ?_)))))))));refine Ga (Ca (Gq O O) (Ca (Ic O) (Ea ?_)));refine Nc O O (λhc0=>?_) (λhc0=>?_);refine Wa (Ia (Le O (Ha (Ca (Qb O) ?_))));refine Ka (v:=.int .u8 (Mh r)) (Ej underlying21 underlying5 rfl (by rcases (by first|exact .inl (by assumption)|exact .inr (by assumption):r=34\/r=92)with rfl|rfl <;> decide)) ?_;refine Ca (Uc O) (Ea ?_);refine Pd (v:=.int .u8 (Mh r)) O O ?_;refine⟨?_,hF.same⟩;simp_all[Mh];refine Ga (Ca (Gq O O) (Ca (Ic O) (Ea ?_)));refine Nc O O (λhc1=>?_) (λhc1=>?_);refine Ha (Ca (Qb O) ?_);refine Ka (v:=.int .u8 (Mh r)) (Ej underlying21 underlying5 rfl (by rcases (by first|exact .inl (by assumption)|exact .inr (by assumption):r=34\/r=92)with rfl|rfl <;> decide)) ?_;refine Ca (Uc O) (Ea ?_);refine Pd (v:=.int .u8 (Mh r)) O O ?_;refine⟨?_,hF.same⟩;simp_all[Mh];refine Ha (Ca (Gq O O) (Ca (Ic O) (Ea ?_)));refine Nc O O (λhc2=>?_) (λhc2=>?_);refine Ha (Ca (Uc O) (Ea ?_));refine Pd (v:=.int .u8 98) O O ?_;refine⟨?_,hF.same⟩;simp_all[Mh];refine Ha (Ca (Gq O O) (Ca (Ic O) (Ea ?_)));refine Nc O O (λhc3=>?_) (λhc3=>?_);refine Ha (Ca (Uc O) (Ea ?_));refine Pd (v:=.int .u8 102) O O ?_;refine⟨?_,hF.same⟩;simp_all[Mh];refine Ha (Ca (Gq O O) (Ca (Ic O) (Ea ?_)));refine Nc O O (λhc4=>?_) (λhc4=>?_);refine Ha (Ca (Uc O) (Ea ?_));refine Pd (v:=.int .u8 110) O O ?_;refine⟨?_,hF.same⟩;simp_all[Mh];refine Ha (Ca (Gq O O) (Ca (Ic O) (Ea ?_)));refine Nc O O (λhc5=>?_) (λhc5=>?_);refine Ha (Ca (Uc O) (Ea ?_));refine Pd (v:=.int .u8 114) O O ?_;refine⟨?_,hF.same⟩;simp_all[Mh];refine Ha (Ca (Gq O O) (Ca (Ic O) (Ea ?_)));refine Nc O O (λhc6=>?_) (λhc6=>?_);refine Ha (Ca (Uc O) (Ea ?_))
 refine Pd (v:=.int .u8 116) O O ?_;refine⟨?_,hF.same⟩;simp_all[Mh];refine Wa (Eb (Ia (Ha (Ca (Uc O) (Ea ?_)))));refine Pd (v:=.int .u8 0) O O ?_;refine⟨?_,hF.same⟩;simp_all[Mh]
def H4(r:Nat):Str:=if Mh r≠0 then [92,UInt8.ofNat (Mh r).toNat] else if 32<=r then Pn r else [92,117]++Lib.repeatL [48] (4-(Xo r).length)++Xo r
def M6:Nat->Str->Nat->Str
  | 0,_,_=>[]
  | f+1,s,p=>if p<s.length then H4 (Utf8.decode (bs s) p).1++M6 f s (p+(Utf8.decode (bs s) p).2) else []
theorem HR:∀(f g:Nat)(s:Str)(p:Nat),s.length-p<=f->s.length-p<=g->M6 f s p=M6 g s p
  | 0,0,_,_,_,_=>rfl
  | 0,g+1,s,p,h,_=>by rw[M6,M6,if_neg sX]
  | f+1,0,s,p,_,h=>by rw[M6,M6,if_neg sX]
  | f + 1, g + 1, s, p, h1, h2 => by
    rw[M6,M6];split
    ·have h3 := Ki s p
     rw[HR f g s _ sX sX]
    rfl
def Ny(s:Str)(p:Nat):Str:=M6 (s.length-p) s p
theorem Yu{s:Str}{p:Nat}(h:p<s.length):Ny s p=H4 (Utf8.decode (bs s) p).1++Ny s (p+(Utf8.decode (bs s) p).2):=by
  have h3:=Ki s p;obtain⟨f,hf⟩:∃f,s.length-p=f+1:=⟨s.length-p-1,by omega⟩;rw[Ny,hf,M6,if_pos h,Ny,HR f (s.length-(p+(Utf8.decode (bs s) p).2)) s _ sX sX]
theorem UC{s:Str}{p:Nat}(h:¬p<s.length):Ny s p=[]:=by
  have e:s.length-p=0:=by omega
  rw[Ny,e,M6]
def Y_(s:Str):Str:=[34]++Ny s 0++[34]
theorem Xy(r:Int):0<=Mh r/\Mh r<256:=by
  unfold Mh
  repeat' split
  all_goals omega
theorem Dq(r:Nat):1<=(Xo r).length/\(Xo r).length<=2:=by unfold Xo;split <;> simp
theorem Tu(n:Nat):(Lib.repeatL [48] n).length=n:=by
  induction n with
  | zero=>rfl
  | succ n ih=>simp[Lib.repeatL,ih];try omega
theorem Js(r:Nat):(H4 r).length<=6:=by
  unfold H4;have h1:=Ru r;have h2:=Dq r
  repeat' split
  ·simp
  ·omega
  simp[Tu];omega
theorem Xi{w0:World}{B pb T:Nat}{rest:List Value}{s:Str}(hB:Bd w0 B pb T rest s)(z:Int)(h0:0<=z)(h1:z<256)(hl:s.length+1<=140737488355328):Wz 271 #[V pb,.int .u8 z] .nilIface w0 B pb T rest (s++[UInt8.ofNat z.toNat]):=by
  have h:=Fs hB (UInt8.ofNat z.toNat) hl;have e:(((UInt8.ofNat z.toNat).toNat:Nat):Int)=z:=by simp only[UInt8.toNat_ofNat'];omega
  rwa [e]at h
theorem quote_c(w0:World)(hG:Gl w0)(s:Str)(hl:s.length<=17592186044416):Calls prog 270 #[I s] w0 (Wd λv w'=>v=(if Lib.validD s=true then .tuple #[I (Y_ s),J 0] else .tuple #[I [],J 2])/\Same [] w0 w'):=by
 refine Fa func270 O ntmps270 Ib (Zc _) ?_;have hF:=FR.start w0 [];refine Ha (Ca (Dn O) (Ca (Uc O) (Ea (Ja (Ha (Ca (Hh O) ?_))))));refine Fb (T6 s sX _ (hG.ext hF.same)) (Ra HS O O) ?_;rintro _ w ⟨n0,rfl,hE⟩;have hF:=hF.ext hE;refine Ca (Bo O) (Ca (Fv O O) (Ca (Ar O O) (Ca (Uc O) (Ca (Ic O) (Jc (Ca (Fe O) (Ca (Jm O) (Ea ?_))))))));refine Ng O O (λhc0=>?_) (λhc0=>?_);refine Ha (Ca (Dn O) (Ca (Uc O) (Ea ?_)));refine Cc (Bc (Ua (Th (v:=I []) (x:=J 2) O O O) ?_));exact⟨by rw[if_neg (by simpa using hc0)],hF.same⟩;refine Wa (Ia (Ha ?_));refine Md (cs:=#[.pointer none,aQ]) hF zeroValue218 O ?_;rintro b1 w hb1 hF -;refine Jc ?_;have hBn:BW w0 [] w b1 b1 218 [] []:=BW.own ⟨.inl ⟨rfl,rfl⟩,gQ _,_,_,hF.heap (i:=0) rfl,World.ownsRow_nil _ _ _ _,.inl rfl⟩ (hF.ge (i:=0) rfl) hF.same.size;have hB:=hBn;have hF:=hF.drop 1;have hF:FR w0 [] [] w:=hF;have ho:(0:Nat)<=0/\([]:Str).length<=0:=by simp
 refine Fb (Xi hB.bd (34) sX sX Da) (Ya Qr O O O) ?_;rintro _ w ⟨rfl,hBd,hE⟩;have hF:=hF.wrote hB hE Da;have hB:=hB.wrote hBd hE;clear hBd hE;refine Ea (Ja (Ha (Ca (Hh O) ?_)));refine J0 (str:=s) hF kX O ?_;intro b2 w hb2 hF hE;have nb2:b2≠b1:=by have:=hB.lt;omega
 have hB:=hB.ext hE;refine Ea (Za ?_);refine Ad (λμ σ w=>∃(q:Nat),∃(o:Str),μ=s.length-q/\(o++Ny s q=[34]++Ny s 0)/\(o.length<=1+6*q/\o.length<=1+6*s.length)/\(BW w0 [] w b1 b1 218 [] o)/\AllEq σ [(6,V b1),(20,V b2)]/\FR w0 [] [(b2,.stringIter (bs s) (q))] w) _ ⟨0,[34],O,(O),Da,(hB),J7,hF⟩ ?_;rintro μ σ w ⟨q,o,rfl,hq,ho,hB,hs,hF⟩;refine Cg.slots hs ?_;clear hs;intro σ;have hr2:Xw w b2=false:=by rw[Kw (hF.heap (i:=0) rfl)];rfl
 refine Ha ?_;by_cases hn0:(q)<(s:Str).length;refine D7 0 (p:=q) (str:=s) hF O O hn0 ?_;intro w hF hE;have hB:=hB.step hE (by simpa using nb2.symm) (by simpa using hr2) (by simp[Kw (hF.heap (i:=0) rfl),Mm]);refine Ca (Ar O O) (Ea (Ja (Le O (Wa (Ia (Za (Ha (Ca (Fv O O) (Ca (Uc O) (Ea ?_))))))))));refine Ja (Ha (Ca (Qb O) ?_));refine Fb (letter_c _ (((Utf8.decode (bs s) q).1:Nat):Int)) (Ra en_275 O O) ?_;rintro _ w ⟨rfl,hE⟩;have hF:=hF.ext hE;have hB:=hB.ext hE;refine Ca (Uc O) (Jc (Ca (Qb O) (Ca (Dz O O) (Ea ?_))));refine Nc O O (λhc2=>?_) (λhc2=>?_);refine Ha ?_;refine Fb (Xi hB.bd (92) sX sX (by have h1:=ho.1;have h2:=ho.2;simp;omega)) (Ya Qr O O O) ?_;rintro _ w ⟨rfl,hBd,hE⟩;have hF:=hF.wrote hB hE (by simp[Mm,nb2]);have hB:=hB.wrote hBd hE;clear hBd hE;refine Jc (Ca (Qb O) ?_);refine Fb (Xi hB.bd (Mh (((Utf8.decode (bs s) q).1:Nat):Int)) (Xy _).1 (Xy _).2 (by have h1:=ho.1;have h2:=ho.2;simp;omega)) (Ya Qr O O O) ?_;rintro _ w ⟨rfl,hBd,hE⟩;have hF:=hF.wrote hB hE (by simp[Mm,nb2]);have hB:=hB.wrote hBd hE;have e1:o++[UInt8.ofNat (92:Int).toNat]++[UInt8.ofNat (Mh (((Utf8.decode (bs s) q).1:Nat):Int)).toNat]=o++H4 (Utf8.decode (bs s) q).1:=by rw[H4,if_pos (by simpa using hc2)];simp
 rw[e1]at hB;clear hBd hE;refine Ea (Pc (Oc O ?_));have h1:=Ki s q;refine Dc ⟨_,?_,q+(Utf8.decode (bs s) q).2,o++H4 (Utf8.decode (bs s) q).1,O,(by rw[sQ,<-Yu sX];exact hq),(by have h1:=Ki s q;have h2:=Js (Utf8.decode (bs s) q).1;rw[dQ];omega),(hB),J7,hF⟩;omega;refine Wa (Ia (Ja (Ha (Ca (Qb O) (Ca (HL O O) (Ea ?_))))));refine Nc O O (λhc3=>?_) (λhc3=>?_);refine Ha (Ca (Qb O) ?_);refine Fb (WK hB.bd (((Utf8.decode (bs s) q).1:Nat):Int) sX (by have:=Lib.rune_le (bs s) q;omega) (by have h1:=ho.1;have h2:=ho.2;simp;omega)) (Ya en_276 O O O) ?_;rintro _ w ⟨rfl,hBd,hE⟩;have hF:=hF.wrote hB hE (by simp[Mm,nb2]);have hB:=hB.wrote hBd hE;have e1:o++Pn (((Utf8.decode (bs s) q).1:Nat):Int)=o++H4 (Utf8.decode (bs s) q).1:=by rw[H4,if_neg (by simpa using hc2),if_pos sX]
 rw[e1]at hB;clear hBd hE;refine Ea (Pc (Oc O ?_));have h1:=Ki s q;refine Dc ⟨_,?_,q+(Utf8.decode (bs s) q).2,o++H4 (Utf8.decode (bs s) q).1,O,(by rw[sQ,<-Yu sX];exact hq),(by have h1:=Ki s q;have h2:=Js (Utf8.decode (bs s) q).1;rw[dQ];omega),(hB),J7,hF⟩;omega;refine Wa (Ia (Ha (Ca (Qb O) (Ka (v:=J ((((Utf8.decode (bs s) q).1:Nat):Int))) (Ej underlying21 underlying2 O (Ss sX sX)) ?_))));refine Fb (hex_c _ (hG.ext hF.same) (Utf8.decode (bs s) q).1 sX) (Ya en_277 O O O) ?_;rintro _ w ⟨rfl,hE⟩;have hF:=hF.ext hE;have hB:=hB.ext hE;refine Ca (Dn O) (Ea (Ga (Ca (Hh O) (Ca (WG kX O) (Ka (v:=J (((4-(Xo (Utf8.decode (bs s) q).1).length:Nat):Int))) (Y5 O O (have:=Dq (Utf8.decode (bs s) q).1;Cl sX sX sX)) ?_)))));refine Fb (FD ((4-(Xo (Utf8.decode (bs s) q).1).length:Nat):Int) sX sX _) (Ya FP O O O) ?_;rintro _ w ⟨rfl,hE⟩;have hF:=hF.ext hE;have hB:=hB.ext hE;refine Ka (v:=I (([92,117])++(Lib.repeatL [48] (4-(Xo (Utf8.decode (bs s) q).1).length)))) (Zt O O (by have:=Dq (Utf8.decode (bs s) q).1;simp[Tu];omega)) ?_;refine Ca (Hh O) ?_;refine Ka (v:=I ((([92,117])++(Lib.repeatL [48] (4-(Xo (Utf8.decode (bs s) q).1).length)))++(Xo (Utf8.decode (bs s) q).1))) (Zt O O (by have:=Dq (Utf8.decode (bs s) q).1;simp[Tu];omega)) ?_;refine Fb (Om hB.bd _ (by have:=Dq (Utf8.decode (bs s) q).1;have h1:=ho.1;have h2:=ho.2;simp[Tu];omega)) (Ya DA O O O) ?_;rintro _ w ⟨rfl,hBd,hE⟩;have hF:=hF.wrote hB hE (by simp[Mm,nb2]);have hB:=hB.wrote hBd hE;have e1:o++((([92,117])++(Lib.repeatL [48] (4-(Xo (Utf8.decode (bs s) q).1).length)))++(Xo (Utf8.decode (bs s) q).1))=o++H4 (Utf8.decode (bs s) q).1:=by rw[H4,if_neg (by simpa using hc2),if_neg sX]
 rw[e1]at hB;clear hBd hE;refine Gb (Eb ?_);have h1:=Ki s q;refine Dc ⟨_,?_,q+(Utf8.decode (bs s) q).2,o++H4 (Utf8.decode (bs s) q).1,O,(by rw[sQ,<-Yu sX];exact hq),(by have h1:=Ki s q;have h2:=Js (Utf8.decode (bs s) q).1;rw[dQ];omega),(hB),J7,hF⟩;omega;refine Fu 0 (p:=q) (str:=s) hF O O hn0 (Ca (Ar O O) (Ea (Ja (Bg O ?_))));refine Pc (Oc O ?_);refine Ia (Ha ?_);refine Fb (Xi hB.bd (34) sX sX (by have h1:=ho.1;have h2:=ho.2;simp;omega)) (Ya Qr O O O) ?_;rintro _ w ⟨rfl,hBd,hE⟩;have hF:=hF.wrote hB hE (by simp[Mm,nb2]);have hB:=hB.wrote hBd hE;clear hBd hE;refine Jc (Fb (NJ hB.bd Da) (Ra VZ O O) ?_);rintro _ w ⟨rfl,hE⟩;have hF:=hF.wrote hB hE (by simp[Mm,nb2]);refine Ca (Dn O) (Ca (Uc O) (Ea ?_));refine Cc (Bc (Ua (Th (v:=I (o++[34])) (x:=J 0) O O O) ?_));refine⟨?_,hF.same⟩;rw[if_pos (by simpa using hc0),Y_,<-hq,UC sX,qQ]
def Nr(m:Bool)(ind d:Nat):Str:=if m then [10]++Lib.repeatL [32] (ind*d) else []
def qS(t:Str):Str:=if Lib.validD t=true then Y_ t else []
theorem Jx(c:UInt8)(n:Nat):(Lib.repeatL [c] n).length=n:=by
  induction n with
  | zero=>rfl
  | succ n ih=>simp[Lib.repeatL,ih];try omega
theorem O1(m:Bool)(ind d:Nat):(Nr m ind d).length<=1+ind*d:=by unfold Nr;split <;> simp[Jx] <;> omega
theorem WF(s:Str)(p:Nat):(Ny s p).length<=6*(s.length-p):=by
  induction h:s.length-p using Nat.strongRecOn generalizing p with
  | ind n ih =>
    by_cases hp:p<s.length
    ·rw[Yu hp, dQ]
     have h1:=Js (Utf8.decode (bs s) p).1;have h2:=Ki s p;have h3:=ih (s.length-(p+(Utf8.decode (bs s) p).2)) sX (p+(Utf8.decode (bs s) p).2) rfl;omega
    rw[UC hp];simp
theorem XC(s:Str):(qS s).length<=6*s.length+2:=by
  unfold qS;split
  ·have := WF s 0
   simp[Y_];omega
  simp
theorem FY(t:Str)(c:Nat)(h1:c<=9223372036854775807)(h2:t.length*c<=140737488355328)(w:World):Calls prog 128 #[I t,J (c:Int)] w (Wd λv w'=>v=I (Lib.repeatL t c)/\Same [] w w'):=by
  have h:=strings_Repeat (bs t) c w h1 (by rw[Ks];exact h2);exact Cy h
theorem quoted_c(t:Str)(hl:t.length<=17592186044416)(w0:World)(hG:Gl w0):Calls prog 270 #[I t] w0 (Wd λv w'=>v=.tuple #[I (qS t),J (if Lib.validD t=true then 0 else 2)]/\Same [] w0 w'):=by
  refine Oo (quote_c w0 hG t hl) λv w' ⟨h1,h2⟩=>⟨?_,h2⟩;rw[h1,qS];split <;> rfl
theorem Bd.mul{w:World}{B pb T:Nat}{m:Bool}{ind:Int}{s:Str}(h:Bd w B pb T [.bool m,J ind] s):w.cell? ⟨pb,2,none⟩=some (.bool m):=by
  obtain⟨ap,v,hh,-⟩:=h.ex;rw[Xb hh];rfl
theorem Bd.ind{w:World}{B pb T:Nat}{m:Bool}{ind:Int}{s:Str}(h:Bd w B pb T [.bool m,J ind] s):w.cell? ⟨pb,3,none⟩=some (J ind):=by
  obtain⟨ap,v,hh,-⟩:=h.ex;rw[Xb hh];rfl
theorem Gl.wrote{w0 w:World}{B pb:Nat}(h:Gl w0)(hs:Same (Wk w0 B pb) w0 w)(hb:8<=B)(hp:B<=pb):Gl w:=h.same hs λx hx=>by
  rcases Yh.1 hx with rfl|⟨-,h1,-⟩ <;> omega
theorem EP(w0:World)(B pb:Nat)(m:Bool)(ind:Nat)(s:Str)(hBd:Bd w0 B pb 288 [.bool m,J (ind:Int)] s)(d:Nat)(hd:ind*d<=1000000000)(hl:s.length+(Nr m ind d).length<=140737488355328):Wz 272 #[V pb,J (d:Int)] (.tuple #[]) w0 B pb 288 [.bool m,J (ind:Int)] (s++Nr m ind d):=by
 unfold Wz;refine Fa func272 O ntmps272 Ib (Hd _ _) ?_;have hB:=BW.start hBd;have hF:=FR.start w0 (Wk w0 B pb);refine Ha (Ca (We O) (Ca (Uh O) (Ca (Zb WJ O) (Ka (v:=.bool (m)) (Ob cZ O hB.bd.mul) (Ea ?_)))));refine Ng O O (λhc0=>?_) (λhc0=>?_);rw[Nr,if_pos hc0]at hl;simp only[dQ,kQ,List.length_nil,Jx]at hl;refine Ha (Ca (We O) (Ca (Uh O) (Ca (Zb Fk O) ?_)));refine Fb (Xi hB.bd 10 Oa Oa sX) (Ya Qr O O O) ?_;rintro _ w ⟨rfl,hBd,hE⟩;have hF:=hF.wrote hB hE Da;have hB:=hB.wrote hBd hE;clear hBd hE;refine Ea (Kd (.of []) (bQ [0,1,2,3,4,5,6,7,8] (.act 9 (.act 10 .nil))) hF ?_);intro w hF hE;have hB:=hB.ext hE;refine⟨λwq=>FR w0 (Wk w0 B pb) _ wq/\∃s',Bd wq B pb 288 [.bool m,J (ind:Int)] s',⟨hF,⟨_,hB.bd⟩⟩,?_⟩;refine Cb O (We O) (Cb O (Uh O) (Cb O (Zb Fk O) (Cb O (We O) (Cb O (Uh O) (Cb O (Zb VX O) ?_)))));refine Pa rfl (v:=J ((ind:Int))) (λw hC=>Ob aZ rfl (by obtain⟨-,s_,hs_⟩:=hC;exact hs_.ind)) ?_;refine Cb O (Qb O) (Pa O (v:=J (((ind*d:Nat):Int))) (λw hC=>SH O O (Cl (by rw[Int.natCast_mul]) sX sX)) ?_);refine Jb O (FY [32] (ind*d) sX (by simp;omega) _) (Ya FP O O O) ?_;rintro _ w ⟨rfl,hE⟩;have hF:=hF.ext hE;have hB:=hB.ext hE;refine⟨⟨hF,⟨_,hB.bd⟩⟩,?_⟩;refine Jb O (Om hB.bd (Lib.repeatL [32] (ind*d)) (by simp[Jx];omega)) (Ya DA O O O) ?_;rintro _ w ⟨rfl,hBd,hE⟩;have hF:=hF.wrote hB hE Da;have hB:=hB.wrote hBd hE;clear hBd hE;refine⟨⟨hF,⟨_,hB.bd⟩⟩,?_⟩;refine Fc (Jf (Od (Jh O) ?_));exact⟨O,by simpa[Nr,hc0]using hB.bd,hF.same⟩;refine Wa (Jf (Od (Jh O) ?_));exact⟨O,by simpa[Nr,hc0]using hB.bd,hF.same⟩
theorem BD(w0:World)(B pb:Nat)(m:Bool)(ind:Nat)(s:Str)(hBd:Bd w0 B pb 288 [.bool m,J (ind:Int)] s)(hG:Gl w0)(h8:8<=B)(t:Str)(ht:t.length<=17592186044416)(hl:s.length+(qS t).length<=140737488355328):Wz 261 #[V pb,I t] (.tuple #[]) w0 B pb 288 [.bool m,J (ind:Int)] (s++qS t):=by
 unfold Wz;refine Fa func261 O ntmps261 Ib (Hd _ _) ?_;have hB:=BW.start hBd;have hF:=FR.start w0 (Wk w0 B pb);refine Ha (Ca (Hh O) ?_);refine Fb (quoted_c t ht _ ((hG.wrote hF.same h8 hBd.le))) (Ra en_270 O O) ?_;rintro _ w ⟨rfl,hE⟩;have hF:=hF.ext hE;have hB:=hB.ext hE;refine Ca (Bo O) (Ca (AM O O) (Ca (Fv O O) (Ca (Dn O) (Ca (Uc O) (Ea (Ga (Ca (We O) (Ca (Uh O) (Ca (Zb Fk O) (Ca (Hh O) ?_))))))))));refine Fb (Om hB.bd (qS t) sX) (Ya DA O O O) ?_;rintro _ w ⟨rfl,hBd,hE⟩;have hF:=hF.wrote hB hE Da;have hB:=hB.wrote hBd hE;clear hBd hE;refine Gb (Jf (Od (Jh O) ?_));exact⟨O,hB.bd,hF.same⟩
def Ns(m:Bool)(ind d:Nat):Bool->List Str->Str
  | _,[]=>[]
  | first,p::ps=>(if first then [] else [44])++(Nr m ind (d+1)++(p++Ns m ind d false ps))
def Kr(m:Bool)(ind d:Nat)(o c:UInt8)(ps:List Str):Str:=[o]++(Ns m ind d true ps++((if ps=[] then [] else Nr m ind d)++[c]))
mutual
def Mn(m:Bool)(ind:Nat):Tree->Nat->Str
  | .node k t ks xs,d=>if k=1 then [110,117,108,108] else if k=4 then qS t else if k=5 then Kr m ind d 91 93 (Nx m ind xs (d+1)) else if k=6 then Kr m ind d 123 125 (Xr m ind xs ks (d+1)) else t
def Nx(m:Bool)(ind:Nat):List Tree->Nat->List Str
  | [],_=>[]
  | x::xs,d=>Mn m ind x d::Nx m ind xs d
def Xr(m:Bool)(ind:Nat):List Tree->List Str->Nat->List Str
  | [],_,_=>[]
  | x::xs,ks,d=>(qS (ks.headD [])++([58]++((if m then [32] else [])++Mn m ind x d)))::Xr m ind xs ks.tail d
end
theorem Zh:∀{xs:List Tree}{x:Tree},x∈xs->Ed x<=Fd xs
  | y :: ys, x, h => by
    rw[Fd];rcases oQ.1 h with rfl|h
    ·omega
    have:=Zh h;omega
theorem Z0(m:Bool)(ind d:Nat):∀xs,Nx m ind xs d=xs.map (λx=>Mn m ind x d)
  | []=>by simp[Nx]
  | x::xs=>by simp[Nx,Z0 m ind d xs]
def IP(m:Bool)(ind d:Nat)(k:Str)(x:Tree):Str:=qS k++([58]++((if m then [32] else [])++Mn m ind x d))
theorem Iv(m:Bool)(ind d:Nat):∀xs ks,(Xr m ind xs ks d).length=xs.length
  | [],ks=>by simp[Xr]
  | x::xs,ks=>by simp[Xr,Iv m ind d xs ks.tail]
theorem SD(m:Bool)(ind d:Nat):∀(xs:List Tree)(ks:List Str)(j:Nat)(h:j<xs.length)(hk:j<ks.length)(h':j<(Xr m ind xs ks d).length),(Xr m ind xs ks d)[j]=IP m ind d ks[j] xs[j]
  | x::xs,k::ks,0,_,_,_=>by simp[Xr,IP]
  | x :: xs, k :: ks, j + 1, h, hk, h' => by
    simp only[Xr,List.tail_cons,List.getElem_cons_succ];exact SD m ind d xs ks j (by simpa using h) (by simpa using hk) (by simpa[Xr]using h')
theorem WU(m:Bool)(ind d:Nat){ps:List Str}{j:Nat}(h:j<ps.length):Ns m ind d (decide (j=0)) (ps.drop j)=(if j=0 then [] else [44])++(Nr m ind (d+1)++(ps[j]++Ns m ind d (decide (j+1=0)) (ps.drop (j+1)))):=by
  rw[List.drop_eq_getElem_cons h,Ns];simp
mutual
def JR:Tree->Prop|.node _ t ks xs=>t.length<=17592186044416/\(∀k∈ks,k.length<=17592186044416)/\ZL xs
def ZL:List Tree->Prop|[]=>True|x::xs=>JR x/\ZL xs
end
theorem I0:∀{xs:List Tree},ZL xs->∀x∈xs,JR x
  | [],_,_,h=>absurd h Da
  | y :: ys, h, x, hx => by
    rw[ZL]at h;rcases oQ.1 hx with rfl|hx
    ·exact h.1
    exact I0 h.2 x hx
def ValC(x:Tree):Prop:=∀(m:Bool)(ind d:Nat)(w0:World)(B pb:Nat)(s:Str)(cs:List Value),Bd w0 B pb 288 [.bool m,J (ind:Int)] s->Gl w0->8<=B->Rep (λb=>b∉Wk w0 B pb) w0 (Wb x) cs->JR x->Zd nodeB x=true ->
  ind*(d+Ed x)<=1000000000->d+Ed x<=1000000000->s.length+(Mn m ind x d).length<=140737488355328->Wz 248 #[V pb,.agg cs.toArray,J (d:Int)] (.tuple #[]) w0 B pb 288 [.bool m,J (ind:Int)] (s++Mn m ind x d)
def ItemC(f:Nat)(k:Int)(t:Str)(ks:List Str)(xs:List Tree)(m:Bool)(ind d:Nat)(ps:List Str):Prop:=∀(j:Nat)(hj:j<ps.length)(w0:World)(B pb:Nat)(s:Str)(A B':Option Addr)(c e:Nat),Bd w0 B pb 288 [.bool m,J (ind:Int)] s->Gl w0->8<=B ->
  Rep (λb=>b∉Wk w0 B pb) w0 (Wb (.node k t ks xs)) [J k,I t,.slice A ks.length c,.slice B' xs.length e]->s.length+ps[j].length<=140737488355328 ->
  Wz f #[V pb,.agg #[J k,I t,.slice A ks.length c,.slice B' xs.length e],J (j:Int),J (d:Int)] (.tuple #[]) w0 B pb 288 [.bool m,J (ind:Int)] (s++ps[j])
theorem item_c(k:Int)(t:Str)(ks:List Str)(xs:List Tree)(m:Bool)(ind d:Nat)(j:Nat)(hj:j<xs.length)(w0:World)(B pb:Nat)(s:Str)(A B_:Option Addr)(c e:Nat)(hBd:Bd w0 B pb 288 [.bool m,J (ind:Int)] s)(hG:Gl w0)(h8:8<=B)(hX:Rep (λb=>b∉Wk w0 B pb) w0 (Wb (.node k t ks xs)) [J k,I t,.slice A ks.length c,.slice B_ xs.length e])(hv:∀x∈xs,ValC x)(hok:JR (.node k t ks xs))(hn:Zd nodeB (.node k t ks xs)=true)(hd:ind*(d+Fd xs)<=1000000000)(hd2:d+Fd xs<=1000000000)(hl:s.length+(Mn m ind xs[j] d).length<=140737488355328):Wz 263 #[V pb,.agg #[J k,I t,.slice A ks.length c,.slice B_ xs.length e],J (j:Int),J (d:Int)] (.tuple #[]) w0 B pb 288 [.bool m,J (ind:Int)] (s++Mn m ind xs[j] d):=by
 unfold Wz;rw[JR]at hok;refine Fa func263 O ntmps263 Ib (I4 _ _ _ _) ?_;have hB:=BW.start hBd;have hF:=FR.start w0 (Wk w0 B pb);refine Ha (Df hF O ?_);intro b1 w hb1 hF hE;have nb1:b1≠pb:=by have:=hB.lt;omega
 have hX:=hX.off_ext hB.lt hE;have hB:=hB.ext hE;refine Ea (Ga (Ca (We O) (Ca (Zb Gc O) (Rc (Tf xQ O hF.F 0 O O) (Ca (Qb O) ?_)))));obtain⟨A_,c_,B__,e_,heq_,-,-,hK_,hXs_⟩:=hX.tree_inv;simp only[List.cons.injEq,Value.slice.injEq,true_and,and_true]at heq_;obtain⟨⟨rfl,rfl⟩,rfl,rfl⟩:=heq_;obtain⟨ad0,cs0,hA0,hl0,hk0,hx0⟩:=hXs_.tree_elem (i:=j) sX;have ho0:=hx0.one_;refine Ka (v:=.pointer (some (ad0.add (j*4)))) (Ta (i:=(j:Int)) Xd O hA0 O sX sX) (Ka (v:=.agg (List.toArray cs0)) (Va (l:=cs0) zQ oZ O hl0 hk0) (Ca (Qb O) ?_));refine Fb (hv xs[j] (eQ hj) m ind d _ B pb s _ hB.bd (hG.wrote hF.same h8 hBd.le) h8 hx0 (I0 hok.2.2 _ (eQ hj)) ((Se hn).2 _ (eQ hj)) (by have h1:=Zh (eQ hj);exact fQ (Nat.mul_le_mul_left ind sX) hd) (by have h1:=Zh (eQ hj);omega) hl) (Kc OG O O O O) ?_;rintro _ w ⟨rfl,hBd2,hE⟩;have hF:=hF.wrote hB hE (by simp[Mm,nb1]);have hX:=hX.off hE;have hB:=hB.wrote hBd2 hE;clear hBd2 hE;refine Gb (Jf (Od (Jh O) ?_));exact⟨O,hB.bd,hF.same⟩
theorem AY(k:Int)(t:Str)(ks:List Str)(xs:List Tree)(m:Bool)(ind d:Nat)(j:Nat)(hj:j<xs.length)(hjk:j<ks.length)(w0:World)(B pb:Nat)(s:Str)(A B_:Option Addr)(c e:Nat)(hBd:Bd w0 B pb 288 [.bool m,J (ind:Int)] s)(hG:Gl w0)(h8:8<=B)(hX:Rep (λb=>b∉Wk w0 B pb) w0 (Wb (.node k t ks xs)) [J k,I t,.slice A ks.length c,.slice B_ xs.length e])(hv:∀x∈xs,ValC x)(hok:JR (.node k t ks xs))(hn:Zd nodeB (.node k t ks xs)=true)(hd:ind*(d+Fd xs)<=1000000000)(hd2:d+Fd xs<=1000000000)(hl:s.length+(IP m ind d ks[j] xs[j]).length<=140737488355328):Wz 264 #[V pb,.agg #[J k,I t,.slice A ks.length c,.slice B_ xs.length e],J (j:Int),J (d:Int)] (.tuple #[]) w0 B pb 288 [.bool m,J (ind:Int)] (s++IP m ind d ks[j] xs[j]):=by
 unfold Wz;rw[JR]at hok;rw[IP]at hl;simp only[dQ,kQ,List.length_nil]at hl;refine Fa func264 O ntmps264 Ib (I4 _ _ _ _) ?_;have hB:=BW.start hBd;have hF:=FR.start w0 (Wk w0 B pb);refine Ha (Df hF O ?_);intro b1 w hb1 hF hE;have nb1:b1≠pb:=by have:=hB.lt;omega
 have hX:=hX.off_ext hB.lt hE;have hB:=hB.ext hE;refine Jc (Ca (We O) (Ca (Zb Af O) (Rc (Tf wQ O hF.F 0 O O) (Ca (Qb O) ?_))));obtain⟨A_,c_,B__,e_,heq_,-,-,hK_,hXs_⟩:=hX.tree_inv;simp only[List.cons.injEq,Value.slice.injEq,true_and,and_true]at heq_;obtain⟨⟨rfl,rfl⟩,rfl,rfl⟩:=heq_;obtain⟨ad0,hA0,hk0,hx0⟩:=hK_.str_elem (i:=j) sX;refine Ka (v:=.pointer (some (ad0.add (j*1)))) (Ta (i:=(j:Int)) Vm O hA0 O sX sX) (Ka (v:=I (ks[j])) (Ob fZ O hk0) ?_);refine Fb (BD _ B pb m ind s hB.bd (hG.wrote hF.same h8 hBd.le) h8 ks[j] (hok.2.1 _ (eQ hjk)) sX) (Ya XY O O O) ?_;rintro _ w ⟨rfl,hBd2,hE⟩;have hF:=hF.wrote hB hE (by simp[Mm,nb1]);have hX:=hX.off hE;have hB:=hB.wrote hBd2 hE;clear hBd2 hE;refine Jc (Ca (We O) (Ca (Uh O) (Ca (Zb Fk O) ?_)));refine Fb (Xi hB.bd 58 Oa Oa (by rw[dQ];omega)) (Ya Qr O O O) ?_;rintro _ w ⟨rfl,hBd2,hE⟩;have hF:=hF.wrote hB hE (by simp[Mm,nb1]);have hX:=hX.off hE;have hB:=hB.wrote hBd2 hE;clear hBd2 hE;refine Ea (Ja (Ha (Ca (We O) (Ca (Uh O) (Ca (Zb WJ O) (Ka (v:=.bool (m)) (Ob cZ O hB.bd.mul) (Ea ?_)))))));refine Ng O O (λhc0=>?_) (λhc0=>?_);refine Ga (Ca (We O) (Ca (Uh O) (Ca (Zb Fk O) ?_)));refine Fb (Xi hB.bd 32 Oa Oa (by simp only[dQ,kQ,List.length_nil];(first|rw[if_pos hc0]at hl|rw[if_neg (by simp[hc0])]at hl);simp only[kQ,List.length_nil]at hl;omega)) (Ya Qr rfl rfl rfl) ?_;rintro _ w ⟨rfl,hBd2,hE⟩;have hF:=hF.wrote hB hE (by simp[Mm,nb1]);have hX:=hX.off hE;have hB:=hB.wrote hBd2 hE;clear hBd2 hE;refine Ea (Ga (Ca (We O) (Ca (Zb Gc O) (Rc (Tf xQ O hF.F 0 O O) (Ca (Qb O) ?_)))));obtain⟨A_,c_,B__,e_,heq_,-,-,hK_,hXs_⟩:=hX.tree_inv;simp only[List.cons.injEq,Value.slice.injEq,true_and,and_true]at heq_;obtain⟨⟨rfl,rfl⟩,rfl,rfl⟩:=heq_;obtain⟨ad1,cs1,hA1,hl1,hk1,hx1⟩:=hXs_.tree_elem (i:=j) sX
 have ho1:=hx1.one_;refine Ka (v:=.pointer (some (ad1.add (j*4)))) (Ta (i:=(j:Int)) Xd O hA1 O sX sX) (Ka (v:=.agg (List.toArray cs1)) (Va (l:=cs1) zQ oZ O hl1 hk1) (Ca (Qb O) ?_));refine Fb (hv xs[j] (eQ hj) m ind d _ B pb _ _ hB.bd (hG.wrote hF.same h8 hBd.le) h8 hx1 (I0 hok.2.2 _ (eQ hj)) ((Se hn).2 _ (eQ hj)) (by have h1:=Zh (eQ hj);exact fQ (Nat.mul_le_mul_left ind sX) hd) (by have h1:=Zh (eQ hj);omega) (by simp only[dQ,kQ,List.length_nil];(first|rw[if_pos hc0]at hl|rw[if_neg (by simp[hc0])]at hl);simp only[kQ,List.length_nil]at hl;omega)) (Kc OG rfl rfl rfl rfl) ?_;rintro _ w ⟨rfl,hBd2,hE⟩;have hF:=hF.wrote hB hE (by simp[Mm,nb1]);have hX:=hX.off hE;have hB:=hB.wrote hBd2 hE;clear hBd2 hE;refine Gb (Jf (Od (Jh O) ?_));exact⟨O,by simpa[IP,hc0]using hB.bd,hF.same⟩;refine Wa (Ia (Ga (Ca (We O) (Ca (Zb Gc O) (Rc (Tf xQ O hF.F 0 O O) (Ca (Qb O) ?_))))));obtain⟨A_,c_,B__,e_,heq_,-,-,hK_,hXs_⟩:=hX.tree_inv;simp only[List.cons.injEq,Value.slice.injEq,true_and,and_true]at heq_;obtain⟨⟨rfl,rfl⟩,rfl,rfl⟩:=heq_;obtain⟨ad2,cs2,hA2,hl2,hk2,hx2⟩:=hXs_.tree_elem (i:=j) sX;have ho2:=hx2.one_;refine Ka (v:=.pointer (some (ad2.add (j*4)))) (Ta (i:=(j:Int)) Xd O hA2 O sX sX) (Ka (v:=.agg (List.toArray cs2)) (Va (l:=cs2) zQ oZ O hl2 hk2) (Ca (Qb O) ?_));refine Fb (hv xs[j] (eQ hj) m ind d _ B pb _ _ hB.bd (hG.wrote hF.same h8 hBd.le) h8 hx2 (I0 hok.2.2 _ (eQ hj)) ((Se hn).2 _ (eQ hj)) (by have h1:=Zh (eQ hj);exact fQ (Nat.mul_le_mul_left ind sX) hd) (by have h1:=Zh (eQ hj);omega) (by simp only[dQ,kQ,List.length_nil];(first|rw[if_pos hc0]at hl|rw[if_neg (by simp[hc0])]at hl);simp only[kQ,List.length_nil]at hl;omega)) (Kc OG rfl rfl rfl rfl) ?_;rintro _ w ⟨rfl,hBd2,hE⟩;have hF:=hF.wrote hB hE (by simp[Mm,nb1]);have hX:=hX.off hE
 have hB:=hB.wrote hBd2 hE;clear hBd2 hE;refine Gb (Jf (Od (Jh O) ?_));exact⟨O,by simpa[IP,hc0]using hB.bd,hF.same⟩
theorem LV(m:Bool)(ind d:Nat)(b:Bool):Ns m ind d b []=[]:=by cases b <;> rfl
theorem XP(f:Nat)(hen:Db prog f)(k:Int)(t:Str)(ks:List Str)(xs:List Tree)(m:Bool)(ind d:Nat)(bo bc:UInt8)(ps:List Str)(hps:ps.length=xs.length)(hI:ItemC f k t ks xs m ind (d+1) ps)(w0:World)(B pb:Nat)(s:Str)(A B_:Option Addr)(c e:Nat)(hBd:Bd w0 B pb 288 [.bool m,J (ind:Int)] s)(hG:Gl w0)(h8:8<=B)(hX:Rep (λb=>b∉Wk w0 B pb) w0 (Wb (.node k t ks xs)) [J k,I t,.slice A ks.length c,.slice B_ xs.length e])(hd1:ind*(d+1)<=1000000000)(hd2:d+1<=1000000000)(hxl:xs.length<=9223372036854775807)(hlim:s.length+(Kr m ind d bo bc ps).length<=140737488355328):Wz 262 #[V pb,.agg #[J k,I t,.slice A ks.length c,.slice B_ xs.length e],J (d:Int),I [bo,bc],.func (.func f) #[V pb] #[]] (.tuple #[]) w0 B pb 288 [.bool m,J (ind:Int)] (s++Kr m ind d bo bc ps):=by
 unfold Wz;rw[Kr]at hlim;simp only[dQ,kQ,List.length_nil]at hlim;refine Fa func262 O ntmps262 Ib (H8 _ _ _ _ _) ?_;have hB:=BW.start hBd;have hF:=FR.start w0 (Wk w0 B pb);refine Ha (Df hF O ?_);intro b1 w hb1 hF hE;have nb1:b1≠pb:=by have:=hB.lt;omega
 have hX:=hX.off_ext hB.lt hE;have hB:=hB.ext hE;refine Ea (Ja ?_);refine Kd (.of []) (bQ [0,1,2,3,4] (.act 5 .nil)) hF ?_;intro w hF hE;have hX:=hX.off_ext hB.lt hE;have hB:=hB.ext hE;refine⟨λwq=>FR w0 (Wk w0 B pb) _ wq,hF,?_⟩;refine Cb O (We O) (Cb O (Uh O) (Cb O (Zb Fk O) (Cb O (Hh O) ?_)));refine Pa O (v:=.int .u8 (((bo.toNat:Nat):Int))) (λw hC=>Dl (s:=[bo,bc]) 0 kX O O Da) (Jb O (Fs hB.bd bo sX) (Ya Qr O O O) ?_);rintro _ w ⟨rfl,hBd2,hE⟩;have hF:=hF.wrote hB hE (by simp[Mm,nb1]);have hX:=hX.off hE;have hB:=hB.wrote hBd2 hE;clear hBd2 hE;refine⟨hF,?_⟩;refine Fc (Ia (Ja (Ha (Ca (Zb Gc O) (Rc (Tf xQ O hF.F 0 O O) (Ca (Mf cX O) (Ca (Qb O) (Ea (Za ?_)))))))));refine Ad (λμ σ w=>∃(j:Nat),∃(o:Str),μ=xs.length-j/\(j<=xs.length)/\(o++Ns m ind d (decide (j=0)) (ps.drop j)=s++([bo]++Ns m ind d true ps))/\(BW w0 (Wk w0 B pb) w B pb 288 [.bool m,J (ind:Int)] (o))/\(Rep (λb=>b∉Wk w B pb) w (Wb (.node k t ks xs)) [J k,I t,.slice A ks.length c,.slice B_ xs.length e])/\AllEq σ [(0,V pb),(2,J ((d:Int))),(3,I ([bo,bc])),(4,.func (.func f) #[V pb] #[]),(6,V b1),(19,J ((xs.length:Nat))),(20,J ((j:Int)))]/\FR w0 (Wk w0 B pb) [(b1,.cells #[J k,I t,.slice A ks.length c,.slice B_ xs.length e] 25)] w) _ ⟨0,s++[bo],O,(Nat.zero_le _),Da,(hB),(hX),IA,hF⟩ ?_;rintro μ σ w ⟨j,o,rfl,hj,hq,hB,hX,hs,hF⟩;refine Cg.slots hs ?_;clear hs;intro σ;refine Ha (Ca (An O O) (Ea (Ja ?_)));refine Nc O O (λhc0=>?_) (λhc0=>?_);have hjp:j<ps.length:=by omega
 have hjd:=WU m ind d hjp;have hL:=congrArg List.length hq;rw[hjd]at hL;have hif:(if j=0 then ([]:Str) else [44]).length=if j=0 then 0 else 1:=by split <;> rfl
 simp only[dQ,kQ,List.length_nil,hif]at hL;refine Wa (Ia (Ja (Za (Ha (Ca (Qb O) (Ca (Uc O) (Ea (Ja (Ha (Ca (Qb O) ?_))))))))));refine Ca (AB O O) (Ea ?_);refine Nc O O (λhc1=>?_) (λhc1=>?_);refine Ga (Ca (We O) (Ca (Uh O) (Ca (Zb Fk O) ?_)));refine Fb (Xi hB.bd 44 Oa Oa (by rw[if_neg sX]at hL;omega)) (Ya Qr O O O) ?_;rintro _ w ⟨rfl,hBd2,hE⟩;have hF:=hF.wrote hB hE (by simp[Mm,nb1]);have hX:=hX.off hE;have hB:=hB.wrote hBd2 hE;clear hBd2 hE;refine Jc (Ca (We O) (Ca (Qb O) (Ca (Yl (((d+1:Nat):Int)) O O) ?_)));refine Fb (EP _ B pb m ind _ hB.bd (d+1) hd1 (by (try simp only[dQ,kQ,List.length_nil]);first|(rw[if_neg sX]at hL;omega)|(rw[if_pos sX]at hL;omega))) (Ya TL rfl rfl rfl) ?_;rintro _ w ⟨rfl,hBd2,hE⟩;have hF:=hF.wrote hB hE (by simp[Mm,nb1]);have hX:=hX.off hE;have hB:=hB.wrote hBd2 hE;clear hBd2 hE;refine Ea (Ga (Ca (Pt) (Rc (Rf zQ oZ O hF.F 0 O O) (Ca (Qb O) (Ca (Qb O) (Ca (Yl (((d+1:Nat):Int)) O O) ?_))))));refine Fb (hI j hjp _ B pb _ A B_ c e hB.bd (hG.wrote hF.same h8 hBd.le) h8 hX (by (try simp only[dQ,kQ,List.length_nil]);first|(rw[if_neg sX]at hL;omega)|(rw[if_pos sX]at hL;omega))) (VI rfl hen rfl rfl rfl rfl) ?_;rintro _ w ⟨rfl,hBd2,hE⟩;have hF:=hF.wrote hB hE (by simp[Mm,nb1]);have hX:=hX.off hE;have hB:=hB.wrote hBd2 hE;clear hBd2 hE;have hB:BW w0 (Wk w0 B pb) w B pb 288 [.bool m,J (ind:Int)] (o++((if j=0 then [] else [44])++(Nr m ind (d+1)++ps[j]))):=by first|(have h0:¬j=0:=sX;rw[if_neg h0];simpa using hB)|(have h0:j=0:=sX;rw[if_pos h0];simpa using hB)
 refine Gb (Eb (Ia (Ga (Ca (Bm O O) (Ca (Qb O) (Gb ?_))))));refine Dc ⟨_,?_,j+1,o++((if j=0 then [] else [44])++(Nr m ind (d+1)++ps[j])),O,sX,(by have h:=hq;rw[hjd]at h;simpa[sQ]using h),(hB),(hX),IA,hF⟩;omega;refine Wa (Ia (Ha (Ca (We O) (Ca (Qb O) (Ca (Yl (((d+1:Nat):Int)) O O) ?_)))));refine Fb (EP _ B pb m ind _ hB.bd (d+1) hd1 (by (try simp only[dQ,kQ,List.length_nil]);first|(rw[if_neg sX]at hL;omega)|(rw[if_pos sX]at hL;omega))) (Ya TL rfl rfl rfl) ?_;rintro _ w ⟨rfl,hBd2,hE⟩;have hF:=hF.wrote hB hE (by simp[Mm,nb1]);have hX:=hX.off hE;have hB:=hB.wrote hBd2 hE;clear hBd2 hE;refine Ea (Ga (Ca (Pt) (Rc (Rf zQ oZ O hF.F 0 O O) (Ca (Qb O) (Ca (Qb O) (Ca (Yl (((d+1:Nat):Int)) O O) ?_))))));refine Fb (hI j hjp _ B pb _ A B_ c e hB.bd (hG.wrote hF.same h8 hBd.le) h8 hX (by (try simp only[dQ,kQ,List.length_nil]);first|(rw[if_neg sX]at hL;omega)|(rw[if_pos sX]at hL;omega))) (VI rfl hen rfl rfl rfl rfl) ?_;rintro _ w ⟨rfl,hBd2,hE⟩;have hF:=hF.wrote hB hE (by simp[Mm,nb1]);have hX:=hX.off hE;have hB:=hB.wrote hBd2 hE;clear hBd2 hE;have hB:BW w0 (Wk w0 B pb) w B pb 288 [.bool m,J (ind:Int)] (o++((if j=0 then [] else [44])++(Nr m ind (d+1)++ps[j]))):=by first|(have h0:¬j=0:=sX;rw[if_neg h0];simpa using hB)|(have h0:j=0:=sX;rw[if_pos h0];simpa using hB)
 refine Gb (Eb (Ia (Ga (Ca (Bm O O) (Ca (Qb O) (Gb ?_))))));refine Dc ⟨_,?_,j+1,o++((if j=0 then [] else [44])++(Nr m ind (d+1)++ps[j])),O,sX,(by have h:=hq;rw[hjd]at h;simpa[sQ]using h),(hB),(hX),IA,hF⟩;omega;have hq2:o=s++([bo]++Ns m ind d true ps):=by have h:=hq;rw[List.drop_eq_nil_of_le sX,LV,qQ]at h;exact h
 refine Pc (Oc O ?_);refine Ia (Ja (Ha (Ca (Zb Gc O) (Rc (Tf xQ O hF.F 0 O O) (Ca (Mf cX O) (Ca (AB O O) (Ea ?_)))))));refine Nc O O (λhc2=>?_) (λhc2=>?_);have hpn:ps≠[]:=by intro hp;rw[hp]at hps;simp at hps;omega
 refine Ga (Ca (We O) (Ca (Qb O) ?_));refine Fb (EP _ B pb m ind _ hB.bd d (fQ (Nat.mul_le_mul_left ind sX) hd1) (by have hp:ps≠[]:=(by intro hp;rw[hp]at hps;simp at hps;omega);rw[if_neg hp]at hlim;rw[hq2];(try simp only[dQ,kQ,List.length_nil]);omega)) (Ya TL rfl rfl rfl) ?_;rintro _ w ⟨rfl,hBd2,hE⟩;have hF:=hF.wrote hB hE (by simp[Mm,nb1]);have hX:=hX.off hE;have hB:=hB.wrote hBd2 hE;clear hBd2 hE;refine Ea (Kd (.of []) (bQ [0,1,2,3,4] (.act 5 .nil)) hF ?_);intro w hF hE;have hX:=hX.off_ext hB.lt hE;have hB:=hB.ext hE;refine⟨λwq=>FR w0 (Wk w0 B pb) _ wq,hF,?_⟩;refine Cb O (We O) (Cb O (Uh O) (Cb O (Zb Fk O) (Cb O (Hh O) ?_)));refine Pa O (v:=.int .u8 (((bc.toNat:Nat):Int))) (λw hC=>Dl (s:=[bo,bc]) 1 kX O O Da) ?_;refine Jb rfl (Fs hB.bd bc (by rw[hq2];(try simp only[dQ,kQ,List.length_nil]);first|(rw[if_neg hpn]at hlim;omega)|omega)) (Ya Qr rfl rfl rfl) ?_;rintro _ w ⟨rfl,hBd2,hE⟩;have hF:=hF.wrote hB hE (by simp[Mm,nb1]);have hX:=hX.off hE;have hB:=hB.wrote hBd2 hE;clear hBd2 hE;refine⟨hF,?_⟩;refine Fc (Jf (Od (Jh O) ?_));refine⟨O,?_,hF.same⟩;have hb:=hB.bd;rw[hq2]at hb;rw[Kr,if_neg hpn];simpa[sQ]using hb;have hpz:ps=[]:=List.eq_nil_of_length_eq_zero sX;refine Wa (Ia ?_);refine Kd (.of []) (bQ [0,1,2,3,4] (.act 5 .nil)) hF ?_;intro w hF hE;have hX:=hX.off_ext hB.lt hE;have hB:=hB.ext hE;refine⟨λwq=>FR w0 (Wk w0 B pb) _ wq,hF,?_⟩;refine Cb O (We O) (Cb O (Uh O) (Cb O (Zb Fk O) (Cb O (Hh O) ?_)));refine Pa O (v:=.int .u8 (((bc.toNat:Nat):Int))) (λw hC=>Dl (s:=[bo,bc]) 1 kX O O Da) ?_;refine Jb rfl (Fs hB.bd bc (by rw[hq2];(try simp only[dQ,kQ,List.length_nil]);first|(rw[if_neg hpn]at hlim;omega)|omega)) (Ya Qr rfl rfl rfl) ?_;rintro _ w ⟨rfl,hBd2,hE⟩;have hF:=hF.wrote hB hE (by simp[Mm,nb1])
 have hX:=hX.off hE;have hB:=hB.wrote hBd2 hE;clear hBd2 hE;refine⟨hF,?_⟩;refine Fc (Jf (Od (Jh O) ?_));refine⟨O,?_,hF.same⟩;have hb:=hB.bd;rw[hq2]at hb;rw[Kr,if_pos hpz];simpa[sQ]using hb
theorem PM(k:Int)(t:Str)(ks:List Str)(xs:List Tree)(ih:∀x∈xs,ValC x)(m:Bool)(ind d:Nat)(w0:World)(B pb:Nat)(s:Str)(A B_:Option Addr)(c e:Nat)(hBd:Bd w0 B pb 288 [.bool m,J (ind:Int)] s)(hG:Gl w0)(h8:8<=B)(hX:Rep (λb=>b∉Wk w0 B pb) w0 (Wb (.node k t ks xs)) [J k,I t,.slice A ks.length c,.slice B_ xs.length e])(hok:JR (.node k t ks xs))(hn:Zd nodeB (.node k t ks xs)=true)(hd:ind*(d+Ed (.node k t ks xs))<=1000000000)(hd2:d+Ed (.node k t ks xs)<=1000000000)(hxl:xs.length<=9223372036854775807)(hl:s.length+(Mn m ind (.node k t ks xs) d).length<=140737488355328):Wz 248 #[V pb,.agg #[J k,I t,.slice A ks.length c,.slice B_ xs.length e],J (d:Int)] (.tuple #[]) w0 B pb 288 [.bool m,J (ind:Int)] (s++Mn m ind (.node k t ks xs) d):=by
 unfold Wz;refine Fa func248 O ntmps248 Ib (Pk _ _ _) ?_;have hB:=BW.start hBd;have hF:=FR.start w0 (Wk w0 B pb);refine Ha (Df hF O ?_);intro b1 w hb1 hF hE;have nb1:b1≠pb:=by have:=hB.lt;omega
 have hX:=hX.off_ext hB.lt hE;have hB:=hB.ext hE;refine Jc (Ca (Zb Mg O) (Rc (Wr aZ O hF.F 0 O O) (Ea (Za (Ha (Ca (Gq O O) (Ca (Ic O) (Gb ?_))))))));refine Ia (Nc O O (λhc0=>?_) (λhc0=>?_));refine Ga (Ca (We O) (Ca (Uh O) (Ca (Zb Fk O) ?_)));have hkk_:k=1:=by omega
 refine Fb (Om hB.bd [110,117,108,108] (by rw[Mn,if_pos hkk_]at hl;exact hl)) (Ya DA O O O) ?_;rintro _ w ⟨rfl,hBd2,hE⟩;have hF:=hF.wrote hB hE (by simp[Mm,nb1]);have hX:=hX.off hE;have hB:=hB.wrote hBd2 hE;clear hBd2 hE;refine Gb (Eb ?_);refine Jf (Od (Jh O) ?_);refine⟨O,?_,hF.same⟩;rw[Mn]
 first|(rw[if_pos hkk_];exact hB.bd)|(rw[if_neg sX,if_pos hkk_];exact hB.bd)|(rw[if_neg sX,if_neg sX,if_pos hkk_];exact hB.bd)|(rw[if_neg sX,if_neg sX,if_neg sX,if_pos hkk_];exact hB.bd)|(rw[if_neg sX,if_neg sX,if_neg sX,if_neg sX];exact hB.bd)
 refine Ha (Ca (Gq O O) (Ca (Ic O) (Ea ?_)));refine Nc O O (λhc1=>?_) (λhc1=>?_);refine Ga (Ca (We O) (Ca (Zb Xh O) (Rc (Iy fZ O hF.F 0 O O) ?_)));have hkk_:k=4:=by omega
 refine Fb (BD _ B pb m ind s hB.bd (hG.wrote hF.same h8 hBd.le) h8 t (by rw[JR]at hok;exact hok.1) (by rw[Mn,if_neg sX,if_pos hkk_]at hl;exact hl)) (Ya XY O O O) ?_;rintro _ w ⟨rfl,hBd2,hE⟩;have hF:=hF.wrote hB hE (by simp[Mm,nb1]);have hX:=hX.off hE;have hB:=hB.wrote hBd2 hE;clear hBd2 hE;refine Gb (Eb ?_);refine Jf (Od (Jh O) ?_);refine⟨O,?_,hF.same⟩;rw[Mn]
 first|(rw[if_pos hkk_];exact hB.bd)|(rw[if_neg sX,if_pos hkk_];exact hB.bd)|(rw[if_neg sX,if_neg sX,if_pos hkk_];exact hB.bd)|(rw[if_neg sX,if_neg sX,if_neg sX,if_pos hkk_];exact hB.bd)|(rw[if_neg sX,if_neg sX,if_neg sX,if_neg sX];exact hB.bd)
 refine Ha (Ca (Gq O O) (Ca (Ic O) (Ea ?_)));refine Nc O O (λhc2=>?_) (λhc2=>?_);refine Ga (Ca (We O) (Rc (Rf zQ oZ O hF.F 0 O O) (Ca (Qb O) (Ca (We O) (Ka (v:=.func (.func 263) #[V pb] #[]) (Rq O) ?_)))));have hkk_:k=5:=by omega
 refine Fb (XP 263 en_263 k t ks xs m ind d 91 93 (Nx m ind xs (d+1)) (by rw[Z0,rQ]) (λj hj w1 B1 p1 s1 A1 B1_ c1 e1 hb1_ hg1 h81 hx1 hl1=>by have hj2:j<xs.length:=(by rw[Z0,rQ]at hj;exact hj);have hg:(Nx m ind xs (d+1))[j]=Mn m ind xs[j] (d+1):=(by simp only[Z0,List.getElem_map]);rw[hg]at hl1 ⊢;exact item_c k t ks xs m ind (d+1) j hj2 w1 B1 p1 s1 A1 B1_ c1 e1 hb1_ hg1 h81 hx1 ih hok hn (by rw[Ed]at hd;exact fQ (Nat.mul_le_mul_left ind sX) hd) (by rw[Ed]at hd2;omega) hl1) _ B pb s A B_ c e hB.bd (hG.wrote hF.same h8 hBd.le) h8 hX (by have h1:=hd;rw[Ed]at h1;exact fQ (Nat.mul_le_mul_left ind sX) h1) (by rw[Ed]at hd2;omega) hxl (by rw[Mn]at hl;simpa[hkk_]using hl)) (Zu en_262 O O O O O O) ?_;rintro _ w ⟨rfl,hBd2,hE⟩;have hF:=hF.wrote hB hE (by simp[Mm,nb1]);have hX:=hX.off hE;have hB:=hB.wrote hBd2 hE;clear hBd2 hE;refine Gb (Eb ?_);refine Jf (Od (Jh O) ?_);refine⟨O,?_,hF.same⟩;rw[Mn]
 first|(rw[if_pos hkk_];exact hB.bd)|(rw[if_neg sX,if_pos hkk_];exact hB.bd)|(rw[if_neg sX,if_neg sX,if_pos hkk_];exact hB.bd)|(rw[if_neg sX,if_neg sX,if_neg sX,if_pos hkk_];exact hB.bd)|(rw[if_neg sX,if_neg sX,if_neg sX,if_neg sX];exact hB.bd)
 refine Ha (Ca (Gq O O) (Ca (Ic O) (Ea ?_)));refine Nc O O (λhc3=>?_) (λhc3=>?_);refine Ga (Ca (We O) (Rc (Rf zQ oZ O hF.F 0 O O) (Ca (Qb O) (Ca (We O) (Ka (v:=.func (.func 264) #[V pb] #[]) (Rq O) ?_)))));have hkk_:k=6:=by omega
 have hkl:ks.length=xs.length:=(Tm (hkk_▸(Se hn).1)).2;refine Fb (XP 264 en_264 k t ks xs m ind d 123 125 (Xr m ind xs ks (d+1)) (by rw[Iv]) (λj hj w1 B1 p1 s1 A1 B1_ c1 e1 hb1_ hg1 h81 hx1 hl1=>by have hj2:j<xs.length:=(by rw[Iv]at hj;exact hj);have hg:=SD m ind (d+1) xs ks j hj2 sX hj;rw[hg]at hl1 ⊢;exact AY k t ks xs m ind (d+1) j hj2 sX w1 B1 p1 s1 A1 B1_ c1 e1 hb1_ hg1 h81 hx1 ih hok hn (by rw[Ed]at hd;exact fQ (Nat.mul_le_mul_left ind sX) hd) (by rw[Ed]at hd2;omega) hl1) _ B pb s A B_ c e hB.bd (hG.wrote hF.same h8 hBd.le) h8 hX (by have h1:=hd;rw[Ed]at h1;exact fQ (Nat.mul_le_mul_left ind sX) h1) (by rw[Ed]at hd2;omega) hxl (by rw[Mn]at hl;simpa[hkk_]using hl)) (Zu en_262 O O O O O O) ?_;rintro _ w ⟨rfl,hBd2,hE⟩;have hF:=hF.wrote hB hE (by simp[Mm,nb1]);have hX:=hX.off hE;have hB:=hB.wrote hBd2 hE;clear hBd2 hE;refine Gb (Eb ?_);refine Jf (Od (Jh O) ?_);refine⟨O,?_,hF.same⟩;rw[Mn]
 first|(rw[if_pos hkk_];exact hB.bd)|(rw[if_neg sX,if_pos hkk_];exact hB.bd)|(rw[if_neg sX,if_neg sX,if_pos hkk_];exact hB.bd)|(rw[if_neg sX,if_neg sX,if_neg sX,if_pos hkk_];exact hB.bd)|(rw[if_neg sX,if_neg sX,if_neg sX,if_neg sX];exact hB.bd)
 refine Kd (.of []) (bQ [0,1,2,3,4] (.act 5 .nil)) hF ?_;intro w hF hE;have hX:=hX.off_ext hB.lt hE;have hB:=hB.ext hE;refine⟨λwq=>FR w0 (Wk w0 B pb) _ wq,hF,?_⟩;refine Cb O (We O) (Cb O (Uh O) (Cb O (Zb Fk O) (Cb O (Zb Xh O) (Vi O (Iy fZ O C0 0 O O) ?_))));refine Jb O (Om hB.bd t (by rw[Mn,if_neg sX,if_neg sX,if_neg sX,if_neg sX]at hl;exact hl)) (Ya DA O O O) ?_;rintro _ w ⟨rfl,hBd2,hE⟩;have hF:=hF.wrote hB hE (by simp[Mm,nb1]);have hX:=hX.off hE;have hB:=hB.wrote hBd2 hE;clear hBd2 hE;refine⟨hF,?_⟩;refine Fc (Eb ?_);refine Jf (Od (Jh O) ?_);refine⟨O,?_,hF.same⟩;rw[Mn]
 first|(rw[if_pos hkk_];exact hB.bd)|(rw[if_neg sX,if_pos hkk_];exact hB.bd)|(rw[if_neg sX,if_neg sX,if_pos hkk_];exact hB.bd)|(rw[if_neg sX,if_neg sX,if_neg sX,if_pos hkk_];exact hB.bd)|(rw[if_neg sX,if_neg sX,if_neg sX,if_neg sX];exact hB.bd)
theorem value_c(x:Tree):ValC x:=Tree.ind (Q:=ValC) (λk t ks xs ih m ind d w0 B pb s cs hBd hG h8 hX hok hn hd hd2 hl=>by
  obtain⟨A,c,B_,e,rfl,-,-,-,hXs⟩:=hX.tree_inv;have h1:=hXs.slice_len;exact PM k t ks xs ih m ind d w0 B pb s A B_ c e hBd hG h8 hX hok hn hd hd2 sX hl) x
theorem YL{t:Str}(h:Gt t=true):t≠[]:=by
  rintro rfl
  revert h
  decide
theorem valS_ne(m:Bool)(ind:Nat)(x:Tree)(d:Nat)(h:Sc x=true):Mn m ind x d≠[]:=by
  obtain⟨k,t,ks,xs⟩:=x;unfold Sc at h;rw[Bool.and_eq_true]at h;have h1:=(Se h.2).1;unfold rnodeB at h1;rw[Bool.and_eq_true,decide_eq_true_eq]at h1;obtain⟨h7,h1⟩:=h1;have h7':k≠7:=h7;rw[Mn];split
  ·simp
  split
  ·rename_i h4
   subst h4;simp[nodeB]at h1;rw[qS,if_pos h1.2];simp[Y_]
  split
  ·simp[Kr]
  split
  ·simp[Kr]
  rename_i g1 g4 g5 g6
  simp only[nodeB,if_neg g5,if_neg g6,if_neg g1,if_neg g4,if_neg h7']at h1;split at h1
  ·cases h1
  split at h1
  ·rw[Bool.or_eq_true, decide_eq_true_eq, decide_eq_true_eq]at h1
   rcases h1 with rfl|rfl <;> simp
  split at h1
  ·exact YL h1
  cases h1
theorem Rn{x:Tree}(h:Sc x=true):Zd nodeB x=true:=by
  unfold Sc at h;rw[Bool.and_eq_true]at h;refine Tree.ind (Q:=λx=>Zd rnodeB x=true->Zd nodeB x=true) (λk t ks xs ih h=>?_) x h.2;rw[Zd,Bool.and_eq_true]at h ⊢;have h1:=h.1;unfold rnodeB at h1;rw[Bool.and_eq_true]at h1;refine⟨h1.2,?_⟩;have key:∀ys:List Tree,(∀y∈ys,y∈xs)->Et rnodeB ys=true->Et nodeB ys=true:=by
    intro ys
    induction ys with
    | nil=>intro _ _;rfl
    | cons y ys ihy =>
      intro hm hs;rw[Et,Bool.and_eq_true]at hs ⊢;exact⟨ih y (hm y Da) hs.1,ihy (λz hz=>hm z (by simp[hz])) hs.2⟩
  exact key xs (λ_ h=>h) h.2
theorem Ul{x:Tree}(h:Sc x=true):Ed x<=32:=by
  unfold Sc Sr at h;simp only[Bool.and_eq_true,decide_eq_true_eq]at h;exact h.1.2
theorem QU(x:Tree)(S:Nat->Prop)(w0:World)(cs:List Value)(rx:Rep S w0 (Wb x) cs)(hG:Gl w0)(hk:U2 x)(hq:JR x)(hsz:Rb x<=1000000000)(hlim:Sc x=true->(Mn false 0 x 0).length<=140737488355328):Calls prog 223 #[.agg cs.toArray] w0 (Wd λv w'=>v=(if Sc x=true then .tuple #[I (Mn false 0 x 0),J 0] else .tuple #[I [],J 1])/\Same [] w0 w'):=by
 have hl:cs.length=4:=rx.length.trans (Tc x);have ho:=rx.one_;refine Fa func223 O ntmps223 Ib (Zc _) ?_;have hF:=FR.start w0 [];refine Ha (Qp (v:=.agg (List.toArray cs)) (cs:=(List.toArray cs)) hF O O ?_);rintro b1 w hb1 hF -;refine Ca (Dn O) (Ca (Uc O) (Ea (Ja (Ha (Ka (v:=.agg (List.toArray cs)) (Va (l:=cs) zQ oZ O hl (hF.cellsAll 0 O)) ?_)))));refine Hb hF (Ay x sX _ _ _ (hF.rep rx) hk (hG.ext hF.same)) (Ra BC O O) ?_;intro w hF;refine Ca (Jm O) (Ea ?_);refine Ng O O (λhc0=>?_) (λhc0=>?_);refine Ha (Ca (Dn O) (Ca (Uc O) (Ea ?_)));refine Cc (Bc (Ua (Th (v:=I []) (x:=J 1) O O O) ?_));exact⟨by rw[if_neg (by simpa using hc0)],hF.same⟩;refine Wa (Ia (Ha ?_));refine Md (cs:=#[.pointer none,aQ,.bool false,J 0]) hF zeroValue288 O ?_;rintro b2 w hb2 hF -;refine Jc (Ka (v:=.agg (List.toArray cs)) (Va (l:=cs) zQ oZ O hl (hF.cellsAll 1 O)) ?_);have hB:BW w0 [] w b2 b2 288 [.bool false,J ((0:Nat):Int)] []:=BW.own ⟨.inr ⟨rfl,_,_,rfl⟩,gQ _,_,_,hF.heap (i:=0) rfl,World.ownsRow_nil _ _ _ _,.inl rfl⟩ (hF.ge (i:=0) rfl) hF.same.size;have nb1:b1≠b2:=Ui hF.desc (i:=1) (j:=0) rfl rfl Oa;have hge:=hF.ge (i:=0) rfl;have hF:FR w0 [] [(b1,.cells cs.toArray 25)] w:=hF.drop 1;have hXo:Rep (λb=>b∉Wk w b2 b2) w (Wb x) cs:=(rx.old.same hF.same Da).weaken λb hb _ hm=>by have h1:=hb.2;rcases Yh.1 hm with rfl|⟨-,h2,-⟩ <;> omega
 refine Fb (value_c x false 0 0 _ b2 b2 [] cs hB.bd (hG.ext hF.same) (by have:=hG.size;omega) hXo hq (Rn (by simpa using hc0)) sX (by have:=Ul (x:=x) (by simpa using hc0);omega) (by simpa using hlim (by simpa using hc0))) (Kc OG O O O O) ?_;rintro _ w ⟨rfl,hBd2,hE⟩;have hF:=hF.wrote hB hE (by simp[Mm,nb1]);have hB:=hB.wrote hBd2 hE;clear hBd2 hE;refine Jc (Ca (Zb Fk O) ?_);refine Fb (NJ hB.bd (by simpa using valS_ne false 0 x 0 (by simpa using hc0))) (Ra VZ O O) ?_;rintro _ w ⟨rfl,hE⟩;have hF:=hF.wrote hB hE (by simp[Mm,nb1]);refine Ca (Dn O) (Ca (Uc O) (Ea ?_));refine Cc (Bc (Ua (Th (v:=I ([]++Mn false 0 x 0)) (x:=J 0) O O O) ?_));exact⟨by rw[if_pos (by simpa using hc0)];rfl,hF.same⟩
end Go.Scarf
