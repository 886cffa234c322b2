/- A part of the proof. -/
import Derived.Lib.AppendStr
import Derived.Lib.Builder
import Derived.Lib.UnsafeStr
import Derived.Lib.RuneBytes
import Derived.Test.YtidlkjpohhbbcaaGreatDoorW19
import Derived.Laws.BytesString
import Derived.Lib.TrimU
set_option linter.all false
set_option maxHeartbeats 8000000
set_option maxRecDepth 10000
namespace Go.Scarf
open Go.RowKit Go.Proofs Go.Proofs.Tryz
section
variable {P:Program}{w w' w0:World}{Ds E:List Nat}{bs_:List (Nat × Obj)}
def Tl:Obj->Bool
  | .cells _ e _=>e==5
  | _=>false
def Hw(w:World)(b:Nat):Bool:=match w.heap[b]? with|some o=>Tl o|none=>false
def Wk(w:World)(B pb:Nat):List Nat:=pb::(List.range w.heap.size).filter λb=>decide (B<=b)&&Hw w b
theorem Th{B pb x:Nat}:x∈Wk w B pb↔x=pb\/(x<w.heap.size/\B<=x/\Hw w x=true):=by simp[Wk]
theorem Aw{b:Nat}{o:Obj}(h:w.heap[b]? = some o):Hw w b=Tl o:=by simp[Hw,h]
def Shp(T:Nat)(rest:List Value):Prop:=(T=123/\rest=[])\/(T=125/\∃m i,rest=[.bool m,J i])
theorem Shp.ne{T:Nat}{rest:List Value}(h:Shp T rest):(T==5)=false:=by rcases h with ⟨rfl,-⟩|⟨rfl,-⟩ <;> rfl
structure Bd (w:World) (B pb T:Nat) (rest:List Value) (s:Str):Prop where
  shp:Shp T rest
  le:B<=pb
  ex:∃ap v,w.heap[pb]? = some (.cells (ap::v::rest).toArray T)/\w.ownsRow B 5 1 v s.length (Lib.byteCells s)/\(ap=.pointer none\/ap=V pb)
theorem Bd.lt{B pb T:Nat}{rest:List Value}{s:Str}(h:Bd w B pb T rest s):pb<w.heap.size:=by
  obtain⟨ap,v,hh,-⟩:=h.ex;exact Ac hh
theorem Bd.base{B pb T:Nat}{rest:List Value}{s:Str}(h:Bd w B pb T rest s):B<=w.heap.size:=fQ h.le (Nat.le_of_lt h.lt)
theorem Bp{B n g:Nat}{v:Value}{xs:List Value}(h:w.ownsRow B 5 1 v n xs)(hg:v.ownBlock=some g):g<w.heap.size/\B<=g/\Hw w g=true:=by
  rcases h.2 with ⟨rfl,-⟩|⟨g',cap,cur,rfl,h1,h2,-⟩
  ·cases hg
  cases hg;exact⟨Ac h2,h1,by rw[Aw h2];rfl⟩
theorem ME{B n g pb:Nat}{v:Value}{xs:List Value}(h:w.ownsRow B 5 1 v n xs)(hg:v.ownBlock=some g):g∈Wk w B pb:=Th.2 (.inr (Bp h hg))
theorem Yt{B n g pb:Nat}{v:Value}{xs:List Value}{o:Obj}(h:w.ownsRow B 5 1 v n xs)(hg:v.ownBlock=some g)(hh:w.heap[pb]? = some o)(ho:Tl o=false):g≠pb:=by
  rintro rfl;have h1:=(Bp h hg).2.2;rw[Aw hh,ho]at h1;cases h1
theorem Ak{B n:Nat}{v:Value}{xs:List Value}(h:w.ownsRow B 5 1 v n xs)(hs:Same E w w')(he:∀g,v.ownBlock=some g->g∉E):w'.ownsRow B 5 1 v n xs:=by
  refine⟨h.1,?_⟩;rcases h.2 with h2|⟨g,cap,cur,rfl,h1,h2,h3⟩
  ·exact .inl h2
  exact .inr ⟨g,cap,cur,O,h1,(hs.block g (Ac h2) (he g O)).trans h2,h3⟩
theorem Vi{B n:Nat}{v:Value}{xs:List Value}(h:w.ownsRow B 5 1 v n xs):∃A c,v=.slice A n c:=by
  rcases h.2 with ⟨rfl,rfl⟩|⟨g,cap,cur,rfl,-⟩
  ·exact⟨_,_,O⟩
  exact⟨_,_,O⟩
theorem Wk.step{B pb x:Nat}(hs:Same (Wk w B pb) w w')(hx:x∈Wk w' B pb):x∈Wk w B pb\/w.heap.size<=x:=by
  by_cases h:x<w.heap.size
  ·by_cases hm : x ∈ Wk w B pb
   ·exact .inl hm
   rcases Th.1 hx with rfl|⟨h1, h2, h3⟩
   ·exact .inl (Th.2 (.inl O))
   refine absurd (Th.2 (.inr ⟨h, h2, ?_⟩)) hm;rw[Hw,<-hs.block x h hm];exact h3
  exact .inr Aa
theorem FR.grown{g:Option Nat}(h:FR w0 Ds bs_ w)(hg:w.grownBy w' g)(hr:∀b,g=some b->(b<w0.heap.size->b∈Ds)/\∀p∈bs_,p.1≠b):FR w0 Ds bs_ w':=by
  have hs:Same g.toList w w':=⟨hg.os,hg.tape,hg.output,hg.size,λb hb hn=>hg.block b hb (λe=>hn (by simp[<-e]))⟩;exact h.touch hs (λb hb=>hr b (by simpa using hb))
theorem Hp(s t:Str):Lib.byteCells (s++t)=Lib.byteCells s++Lib.byteCells t:=Lib.byteCells_append s t
end
section
variable {P:Program}{w:World}{ρ:Operand->Value}{dst:Option Nat}{ty:TypeId}{pos:String}{aft:Array Edge}{g:Option (Nat × Bool)}
theorem CU{t t' te:Nat}{x y:Operand}(ht:P.underlying t=some (.pointer te))(hx:ρ x=.pointer none)(hy:ρ y=.pointer none) :
    (execOp ρ ⟨dst,.binOp .eql t x y t',ty,pos,aft,g⟩).run P w=.ok (.value (.bool true)) w:=by
  have h:∀d:Nat,(Op.equalIn (d+1) t (.pointer none) (.pointer none)).run P w=.ok true w:=λd=>by
    simp[Op.equalIn,run_underlying ht]
  have hg:(eqGuard .eql t x y (.pointer none) (.pointer none)).run P w=.ok () w:=by unfold eqGuard;split <;> simp
  simp only[execOp,hx,hy,Sem.run_bind,hg,Result.andThen_ok,binOp];simp[Op.equal,Op.maxDepth,h 9999]
theorem TT{t t' te:Nat}{x y:Operand}{a:Addr}(ht:P.underlying t=some (.pointer te))(hx:ρ x=.pointer (some a))(hy:ρ y=.pointer none) :
    (execOp ρ ⟨dst,.binOp .eql t x y t',ty,pos,aft,g⟩).run P w=.ok (.value (.bool false)) w:=by
  have h:∀d:Nat,(Op.equalIn (d+1) t (.pointer (some a)) (.pointer none)).run P w=.ok false w:=λd=>by
    simp[Op.equalIn,run_underlying ht]
  have hg:(eqGuard .eql t x y (.pointer (some a)) (.pointer none)).run P w=.ok () w:=by unfold eqGuard;split <;> simp
  simp only[execOp,hx,hy,Sem.run_bind,hg,Result.andThen_ok,binOp];simp[Op.equal,Op.maxDepth,h 9999]
theorem x_neqp{t t' te:Nat}{x y:Operand}{a:Addr}{j:TypeInfo}(ht:P.underlying t=some (.pointer te))(hte:P.info? te=some j)(hx:ρ x=.pointer (some a))(hy:ρ y=.pointer (some a)) :
    (execOp ρ ⟨dst,.binOp .neq t x y t',ty,pos,aft,g⟩).run P w=.ok (.value (.bool false)) w:=by
  have h:=Lib.run_neq_ptr_same w a ht hte;have hg:(eqGuard .neq t x y (.pointer (some a)) (.pointer (some a))).run P w=.ok () w:=by unfold eqGuard;split <;> simp
  simp only[execOp,hx,hy,Sem.run_bind,hg,Result.andThen_ok,h,Sem.run_pure]
theorem U5{t t':Nat}{x:Operand}{v:Value}(hx:ρ x=v)(h:(convert t t' v).run P w=.ok v w):(execOp ρ ⟨dst,.convert t t' x,ty,pos,aft,g⟩).run P w=.ok (.value v) w:=by
  simp[execOp,hx,h]
theorem x_ext1 {f:FuncId} {fn:Func} {e:Array Value->Sem Value} {x1:Operand} {ats:Array TypeId} {v1 v:Value} (hf:P.funcs[f]? = some fn) (hname:(fn.name == "runtime.NumGoroutine")=false)
    (hb:fn.body.isNone=true) (hn:Extern.findNext fn=none) (he:Extern.find fn=some e) (h0:ρ (.func f)=.func (.func f) #[] #[]) (h1:ρ x1=v1) (hr:(e #[v1]).run P w=.ok v w) :
    (execOp ρ ⟨dst,.call ⟨.value (.func f),#[x1],ats⟩,ty,pos,aft,g⟩).run P w=.ok (.value v) w:=by
  simp[execOp,resolve,Deferred.ofValue,h0,h1,invoke,run_callFunc_extern hf hname hb hn he,hr]
theorem x_usd{x:Operand}{ats:Array TypeId}{a:Addr}{n c:Nat}(hx:ρ x=.slice (some a) n c)(hc:c≠0):(execOp ρ ⟨dst,.call ⟨.builtin .unsafeSliceData,#[x],ats⟩,ty,pos,aft,g⟩).run P w=.ok (.value (.pointer (some a))) w:=by
  simp[execOp,resolve,invoke,builtin,hx,Lib.run_unsafeSliceData_row w ats ty a n c hc]
theorem x_uss{x y:Operand}{t1 t2:Nat}{u v r:Value}{w':World}(hx:ρ x=u)(hy:ρ y=v)(h:(Builtin.unsafeString_ #[t1,t2] ty #[u,v]).run P w=.ok r w'):(execOp ρ ⟨dst,.call ⟨.builtin .unsafeString,#[x,y],#[t1,t2]⟩,ty,pos,aft,g⟩).run P w=.ok (.value r) w':=by
  simp[execOp,resolve,invoke,builtin,hx,hy,h]
theorem FA{x y:Operand}{t1 t2:TypeId}{u v:Value}{r:Value}{w':World}(hx:ρ x=u)(hy:ρ y=v)(h:(Builtin.append_ #[t1,t2] ty #[u,v]).run P w=.ok r w') :
    (execOp ρ ⟨dst,.call ⟨.builtin .append,#[x,y],#[t1,t2]⟩,ty,pos,aft,g⟩).run P w=.ok (.value r) w':=by
  simp[execOp,resolve,invoke,builtin,hx,hy,h]
end
section
variable {P:Program}{R:Exit->Act->World->Prop}{n:Nat}{kt:Kt}{s:Nat->Value}{w:World}{ops rest:List Oper}
variable {d:Nat}{ty:TypeId}{pos:String}{aft:Array Edge}{g:Option (Nat × Bool)}
variable {w0:World}{Ds:List Nat}{bs_:List (Nat × Obj)}
theorem o_appB{x y:Operand}{t B len c2 k:Nat}{v:Value}{xs news:List Value}{a:Addr}(hE:Elems P t 5 1 1)
    (hF:FR w0 Ds bs_ w) (hO:w.ownsRow B 5 1 v len xs) (hB:B<=w.heap.size) (hx:ev n s x=v) (hy:ev n s y=.slice (some a) k c2)
    (hl:news.length=k*1) (hnews:∀j u,news[j]? = some u->w.cell? (a.add j)=some u) (h1:∀u∈news,u.oneCell'=true) (hb:len+k<=140737488355328)
    (hr:∀b,v.ownBlock=some b->(b<w0.heap.size->b∈Ds)/\∀p∈bs_,p.1≠b)
    (h:∀v' w',w'.ownsRow B 5 1 v' (len+k) (xs++news)->FR w0 Ds bs_ w'->w.heap.size<=w'.heap.size->Og P R n ops kt rest (Hf s d v') w')
    (hw:Hb ops n s ⟨some d,.call ⟨.builtin .append,#[x,y],#[t,t]⟩,ty,pos,aft,g⟩=true:=by rfl):Og P R n ops kt (⟨some d,.call ⟨.builtin .append,#[x,y],#[t,t]⟩,ty,pos,aft,g⟩::rest) s w:=by
  obtain⟨i,z,hi,hz,h2,h3,h4⟩:=hE.info;obtain⟨v',w',hr',hO',hg,-⟩:=run_append_own (P:=P) w B t ty 5 i z 1 1 hE.ht hi hz h2 h3 h4 Ua v len xs hO a k c2 news hl hnews h1 (by unfold maxLen;omega) Aa hB;exact Ia (Do hx hy hr') (h v' w' hO' (hF.grown hg hr) hg.size) hw
theorem MZ{x y:Operand}{t u B len:Nat}{v:Value}{xs:List Value}{str:Str}(hE:Elems P t 5 1 1)(hz0:(P.info? 5).map (·.zero)=some (some (.int .u8 0)))(hu:P.underlying u=some .string)
    (hF:FR w0 Ds bs_ w) (hO:w.ownsRow B 5 1 v len xs) (hB:B<=w.heap.size) (hx:ev n s x=v) (hy:ev n s y=I str) (hb:len+str.length<=140737488355328)
    (hr:∀b,v.ownBlock=some b->(b<w0.heap.size->b∈Ds)/\∀p∈bs_,p.1≠b)
    (h:∀v' w',w'.ownsRow B 5 1 v' (len+str.length) (xs++Lib.byteCells str)->FR w0 Ds bs_ w'->w.heap.size<=w'.heap.size->Og P R n ops kt rest (Hf s d v') w')
    (hw:Hb ops n s ⟨some d,.call ⟨.builtin .append,#[x,y],#[t,u]⟩,ty,pos,aft,g⟩=true:=by rfl):Og P R n ops kt (⟨some d,.call ⟨.builtin .append,#[x,y],#[t,u]⟩,ty,pos,aft,g⟩::rest) s w:=by
  obtain⟨i,z,hi,hz,h2,h3,h4⟩:=hE.info;rw[hi]at hz0;have hz1:i.zero=some (.int .u8 0):=by simpa using hz0
  have e:(bs str).size=str.length:=Ao str;obtain⟨v',w',hr',hO',hg,-⟩:=Lib.run_append_own_string (P:=P) w B t u ty 5 i hE.ht hu hi hz1 h2 h3 v len xs hO (bs str) (by rw[e];unfold maxLen;omega) (by rw[e];omega) hB;rw[e]at hO';exact Ia (FA hx hy hr') (h v' w' (by simpa[Lib.strCells_eq,Qj,bs]using hO') (hF.grown hg hr) hg.size) hw
end
theorem NZ:liesAt prog prog.depth 123 (2/prog.cellsOf 123) 0 123 1=true:=by kernel_rfl
theorem lies_prn:liesAt prog prog.depth 125 (4/prog.cellsOf 125) 0 123 1=true:=by kernel_rfl
theorem H0:(prog.info? 123).map (·.size)=some 2:=by kernel_rfl
theorem YD(w0:World)(pb:Nat)(v:Value)(hh:w0.heap[pb]? = some (.cells #[.pointer none,v] 123)):Calls prog 224 #[V pb] w0 (Yc λv_ w'=>v_=.tuple #[]/\Same [pb] w0 w'/\w'.heap[pb]? = some (.cells #[V pb,v] 123)):=by
 obtain⟨j,hj,hjs⟩:=Option.map_eq_some_iff.1 H0;have hne:pb<w0.heap.size:=Ac hh;refine Fa func224 O ntmps224 Ab (Wb _) ?_;have hF:FR w0 [pb] [(pb,.cells #[.pointer none,v] 123)] w0:=FR.open_ (by simpa using hh) Oa;refine Ea (Ba (Uh O) (Ba (Ek O) (Ba (Mb Ho O) (Xb (DC isAgg120 O hF.F 0 O O) (Ia (v:=.bool true) (CU vZ O O) (Da (Yd O (Ja (Ba (Uh O) (Ba (Uh O) ?_))))))))));refine Ia (v:=V pb) (U5 O (Lib.run_to_unsafe _ ⟨pb,0,none⟩ vZ underlying262 hj (by rw[hjs];decide) (e:=123) (cells:=2) (by simp[World.shape?,hF.heap (i:=0) O]) (Nat.zero_lt_succ _))) ?_;refine Ia (v:=V pb) (x_ext1 func256 Qb Qb Qb (e:=Extern.AbiNoEscape.same) Qb O O (Lib.run_noEscape _ _)) (Ia (v:=V pb) (U5 O (Lib.run_from_unsafe _ ⟨pb,0,none⟩ underlying262 vZ hj (e:=123) (cells:=2) (by simp[World.shape?,hF.heap (i:=0) O]) NZ)) ?_);refine Ba (Ek O) (Ba (Mb Ho O) ?_);refine Ro (.pointer _) hF sizeOf120 O O Pi Pi ?_;rintro w hF -;refine Va (Kh (Ve (Zj O) ?_));exact⟨O,hF.same,hF.heap (i:=0) O⟩
theorem HF(w0:World)(pb:Nat)(v:Value)(m:Bool)(i:Int)(hh:w0.heap[pb]? = some (.cells #[.pointer none,v,.bool (m),J i] 125)):Calls prog 224 #[V pb] w0 (Yc λv_ w'=>v_=.tuple #[]/\Same [pb] w0 w'/\w'.heap[pb]? = some (.cells #[V pb,v,.bool (m),J i] 125)):=by
 obtain⟨j,hj,hjs⟩:=Option.map_eq_some_iff.1 H0;have hne:pb<w0.heap.size:=Ac hh;refine Fa func224 O ntmps224 Ab (Wb _) ?_;have hF:FR w0 [pb] [(pb,.cells #[.pointer none,v,.bool (m),J i] 125)] w0:=FR.open_ (by simpa using hh) Oa;refine Ea (Ba (Uh O) (Ba (Ek O) (Ba (Mb Ho O) (Xb (DC isAgg120 O hF.F 0 O O) (Ia (v:=.bool true) (CU vZ O O) (Da (Yd O (Ja (Ba (Uh O) (Ba (Uh O) ?_))))))))));refine Ia (v:=V pb) (U5 O (Lib.run_to_unsafe _ ⟨pb,0,none⟩ vZ underlying262 hj (by rw[hjs];decide) (e:=125) (cells:=4) (by simp[World.shape?,hF.heap (i:=0) O]) (Nat.zero_lt_succ _))) ?_;refine Ia (v:=V pb) (x_ext1 func256 Qb Qb Qb (e:=Extern.AbiNoEscape.same) Qb O O (Lib.run_noEscape _ _)) (Ia (v:=V pb) (U5 O (Lib.run_from_unsafe _ ⟨pb,0,none⟩ underlying262 vZ hj (e:=125) (cells:=4) (by simp[World.shape?,hF.heap (i:=0) O]) lies_prn)) ?_);refine Ba (Ek O) (Ba (Mb Ho O) ?_);refine Ro (.pointer _) hF sizeOf120 O O Pi Pi ?_;rintro w hF -;refine Va (Kh (Ve (Zj O) ?_));exact⟨O,hF.same,hF.heap (i:=0) O⟩
theorem LE(w0:World)(pb:Nat)(v:Value)(hh:w0.heap[pb]? = some (.cells #[V pb,v] 123)):Calls prog 224 #[V pb] w0 (Yc λv_ w'=>v_=.tuple #[]/\Same [pb] w0 w'/\w'.heap[pb]? = some (.cells #[V pb,v] 123)):=by
 obtain⟨j,hj,hjs⟩:=Option.map_eq_some_iff.1 H0;have hne:pb<w0.heap.size:=Ac hh;refine Fa func224 O ntmps224 Ab (Wb _) ?_;have hF:FR w0 [pb] [(pb,.cells #[V pb,v] 123)] w0:=FR.open_ (by simpa using hh) Oa;refine Ea (Ba (Uh O) (Ba (Ek O) (Ba (Mb Ho O) (Xb (DC isAgg120 O hF.F 0 O O) (Ia (v:=.bool false) (TT vZ O O) (Da (Zd O (Ea (Ba (Uh O) (Ba (Ek O) ?_))))))))));refine Ba (Mb Ho O) (Xb (DC isAgg120 O hF.F 0 O O) (Ba (Uh O) (Ia (v:=.bool false) (x_neqp vZ hj O O) (Da (Zd O (Ka ?_))))));refine Kh (Ve (Zj O) ?_);exact⟨O,hF.same,hF.heap (i:=0) O⟩
theorem VE(w0:World)(pb:Nat)(v:Value)(m:Bool)(i:Int)(hh:w0.heap[pb]? = some (.cells #[V pb,v,.bool (m),J i] 125)):Calls prog 224 #[V pb] w0 (Yc λv_ w'=>v_=.tuple #[]/\Same [pb] w0 w'/\w'.heap[pb]? = some (.cells #[V pb,v,.bool (m),J i] 125)):=by
 obtain⟨j,hj,hjs⟩:=Option.map_eq_some_iff.1 H0;have hne:pb<w0.heap.size:=Ac hh;refine Fa func224 O ntmps224 Ab (Wb _) ?_;have hF:FR w0 [pb] [(pb,.cells #[V pb,v,.bool (m),J i] 125)] w0:=FR.open_ (by simpa using hh) Oa;refine Ea (Ba (Uh O) (Ba (Ek O) (Ba (Mb Ho O) (Xb (DC isAgg120 O hF.F 0 O O) (Ia (v:=.bool false) (TT vZ O O) (Da (Zd O (Ea (Ba (Uh O) (Ba (Ek O) ?_))))))))));refine Ba (Mb Ho O) (Xb (DC isAgg120 O hF.F 0 O O) (Ba (Uh O) (Ia (v:=.bool false) (x_neqp vZ hj O O) (Da (Zd O (Ka ?_))))));refine Kh (Ve (Zj O) ?_);exact⟨O,hF.same,hF.heap (i:=0) O⟩
theorem Rm{w0:World}{B pb T:Nat}{rest:List Value}{s:Str}(h:Bd w0 B pb T rest s) :
    ∃v, w0.ownsRow B 5 1 v s.length (Lib.byteCells s) /\ (∀g, v.ownBlock = some g -> g ∈ Wk w0 B pb /\ g ≠ pb) /\
      Calls prog 224 #[V pb] w0 (Yc λu w'=>u=.tuple #[]/\Same [pb] w0 w'/\w'.heap[pb]? = some (.cells (V pb::v::rest).toArray T)/\w'.ownsRow B 5 1 v s.length (Lib.byteCells s)):=by
  obtain⟨hs,hle,ap,v,hh,hO,ha⟩:=h;have hne:∀g,v.ownBlock=some g->g≠pb:=λg hg=>Yt hO hg hh (by exact hs.ne);refine⟨v,hO,λg hg=>⟨ME hO hg,hne g hg⟩,?_⟩;have fin:∀{u:Value}{w':World},(u=.tuple #[]/\Same [pb] w0 w'/\w'.heap[pb]? = some (.cells (V pb::v::rest).toArray T))->(u=.tuple #[]/\Same [pb] w0 w'/\w'.heap[pb]? = some (.cells (V pb::v::rest).toArray T)/\w'.ownsRow B 5 1 v s.length (Lib.byteCells s)) :=
    λ⟨h1,h2,h3⟩=>⟨h1,h2,h3,Ak hO h2 (λg hg=>by simpa using hne g hg)⟩
  rcases hs with ⟨rfl,rfl⟩|⟨rfl,m,i,rfl⟩ <;> rcases ha with rfl|rfl
  ·exact Cm (YD w0 pb v hh) λ_ _=>fin
  ·exact Cm (LE w0 pb v hh) λ_ _=>fin
  ·exact Cm (HF w0 pb v m i hh) λ_ _=>fin
  exact Cm (VE w0 pb v m i hh) λ_ _=>fin
theorem XA:(prog.info? 5).map (·.zero)=some (some (.int .u8 0)):=by kernel_rfl
theorem FR.addD{w0 w:World}{Ds:List Nat}{bs_:List (Nat × Obj)}{b:Nat}{o:Obj}(h:FR w0 Ds bs_ w)(hh:w.heap[b]? = some o)(hd:w0.heap.size<=b\/b∈Ds)(hn:∀p∈bs_,p.1≠b):FR w0 Ds ((b,o)::bs_) w :=
  ⟨h.same,λp hp=>by
    rcases oQ.1 hp with rfl|hp
    ·exact⟨hh,hd⟩
    exact h.own p hp,List.pairwise_cons.2 ⟨λq hq=>hn q hq,h.desc⟩⟩
def Ai(r:Int):Str:=(Lib.encodeRuneZ r).map λx=>UInt8.ofNat x.toNat
theorem Aj(r:Int):1<=(Ai r).length/\(Ai r).length<=4:=by rw[Ai,rQ];exact Lib.encodeRuneZ_length r
theorem Sj(r:Int):Lib.byteCells (Ai r)=Lib.runeCells r:=by
  rw[Ai,Lib.byteCells,Lib.runeCells,List.map_map];refine List.map_congr_left λx hx=>?_;have:=Lib.encodeRuneZ_byte r x hx;simp only[Function.comp_apply,Value.int.injEq,true_and,UInt8.toNat_ofNat'];omega
theorem G1{w:World}{B n:Nat}{v:Value}{xs:List Value}{r:Int}(hO:w.ownsRow B 5 1 v n xs)(h0:-2147483648<=r)(h1:r<=2147483647)(hn:n+4<=140737488355328)(hB:B<=w.heap.size) :
    Calls prog 296 #[v,.int .i32 r] w (Yc λv' w'=>w'.ownsRow B 5 1 v' (n+(Ai r).length) (xs++Lib.byteCells (Ai r))/\∃o,(w.alloc o).grownBy w' v.ownBlock):=by
  refine (utf8_AppendRune_plain B v n xs r h0 h1 w hO hn hB).mono λe w' ⟨v',he,h2,h3⟩=>⟨v',he,?_,h3⟩;have e1:(Ai r).length=(Lib.runeCells r).length:=by rw[<-Sj,Lib.byteCells_length]
  rw[e1,Sj];exact h2
def Gz(f:Nat)(args:Array Value)(u:Value)(w0:World)(B pb T:Nat)(rest:List Value)(s:Str):Prop :=
  Calls prog f args w0 (Yc λv w'=>v=u/\Bd w' B pb T rest s/\Same (Wk w0 B pb) w0 w')
theorem II(w0:World)(B pb:Nat)(s:Str)(hB:Bd w0 B pb 123 [] s)(c:UInt8)(hl:s.length+1<=140737488355328):Gz 226 #[V pb,.int .u8 ((c.toNat:Nat):Int)] .nilIface w0 B pb 123 [] (s++[c]):=by
 unfold Gz;refine Fa func226 O ntmps226 Ab (Uc _ _) ?_;obtain⟨v,hO0,hv,hC⟩:=Rm hB;have hle:=hB.le;have hBw:=hB.base;have hlt:=hB.lt;have hws:=gQ w0.heap.size;have hvl:∀g,v.ownBlock=some g->g<w0.heap.size:=λg hg=>(Bp hO0 hg).1;obtain⟨A1,c1,rfl⟩:=Vi hO0;have hF:=FR.start w0 (Wk w0 B pb);refine Ea (Ba (O2) (Lb (Ba (Uh O) ?_)));refine Eb hC (Ma J3 O O) ?_;rintro _ w ⟨rfl,hE,hh,hO⟩;have hws:=fQ hws hE.size;have hBw:=fQ hBw hE.size;have hF:FR w0 (Wk w0 B pb) [(pb,.cells #[V pb,.slice A1 s.length c1] 123)] w:=(hF.touch hE (λb hb=>by obtain rfl:=pQ.1 hb;exact⟨λ_=>Th.2 (.inl rfl),by simp⟩)).addD hh (.inr (Th.2 (.inl rfl))) Oa;clear hE hh;refine Lb (Ba (Uh O) (Ba (Uh O) (Ba (Ek O) (Ba (Mb Mf O) (Xb (Ie tQ O hF.F 0 O O) (Ba (Za O) ?_))))));refine Mh 1 hF (Gb (cs:=#[.int .u8 ((c.toNat:Nat))]) wZ rZ rX Ua Ua Qb) ?_;intro b1 w hb1 hF hE;have nb1:w0.heap.size<=b1:=by rw[hb1];exact hws
 have hws:=fQ hws hE.size;have hBw:=fQ hBw hE.size;have hO:=Ak hO hE Oa;refine o_appB (news:=[.int .u8 ((c.toNat:Nat):Int)]) Hn hF hO hBw rfl rfl rfl (Jc (hF.cellsAll 0 rfl)) (by simp[Value.oneCell']) Aa (λb hb=>⟨λ_=>(hv b hb).1,by have h1:=(hv b hb).2;have h2:=hvl b hb;intro p hp;simp only[oQ,List.not_mem_nil,or_false]at hp;rcases hp with rfl|rfl <;> grind⟩) ?_;clear hF hO;intro v2 w hO hF hsz;have hws:=fQ hws hsz;have hBw:=fQ hBw hsz;have hne2:∀g,v2.ownBlock=some g->g≠pb:=λg hg=>Yt hO hg (hF.heap (i:=1) rfl) rfl;obtain⟨A2,c2,rfl⟩:=Vi hO;clear hsz;refine Ba (Ek O) (Ba (Mb Mf O) ?_);refine Ro (.slice _ _ _) hF sizeOf121 O O Tr Tr ?_;intro w hF hE;have hws:=fQ hws hE.size;have hBw:=fQ hBw hE.size;have hO:=Ak hO hE (λg hg=>by simpa using hne2 g hg);refine Lb (Ba (O2) (Da ?_));refine Gc (v:=.nilIface) O O ?_;exact⟨O,⟨.inl ⟨O,O⟩,hle,_,_,hF.heap (i:=1) O,by simpa[Hp,Lib.byteCells,Sj]using hO,.inr O⟩,hF.same⟩
theorem P_(w0:World)(B pb:Nat)(s:Str)(hB:Bd w0 B pb 123 [] s)(t:Str)(hl:s.length+t.length<=140737488355328):Gz 163 #[V pb,I t] (.tuple #[J ((t.length:Nat):Int),.nilIface]) w0 B pb 123 [] (s++t):=by
 unfold Gz;refine Fa func163 O ntmps163 Ab (Uc _ _) ?_;obtain⟨v,hO0,hv,hC⟩:=Rm hB;have hle:=hB.le;have hBw:=hB.base;have hlt:=hB.lt;have hws:=gQ w0.heap.size;have hvl:∀g,v.ownBlock=some g->g<w0.heap.size:=λg hg=>(Bp hO0 hg).1;obtain⟨A1,c1,rfl⟩:=Vi hO0;have hF:=FR.start w0 (Wk w0 B pb);refine Ea (Ba (Fb O) (Ba (O2) (Lb (Ba (Uh O) ?_))));refine Eb hC (Ma J3 O O) ?_;rintro _ w ⟨rfl,hE,hh,hO⟩;have hws:=fQ hws hE.size;have hBw:=fQ hBw hE.size;have hF:FR w0 (Wk w0 B pb) [(pb,.cells #[V pb,.slice A1 s.length c1] 123)] w:=(hF.touch hE (λb hb=>by obtain rfl:=pQ.1 hb;exact⟨λ_=>Th.2 (.inl rfl),by simp⟩)).addD hh (.inr (Th.2 (.inl rfl))) Oa;clear hE hh;refine Lb (Ba (Uh O) (Ba (Uh O) (Ba (Ek O) (Ba (Mb Mf O) (Xb (Ie tQ O hF.F 0 O O) (Ba (Ad O) ?_))))));refine MZ (str:=t) Hn XA kX hF hO hBw rfl rfl Aa (λb hb=>⟨λ_=>(hv b hb).1,by have h1:=(hv b hb).2;have h2:=hvl b hb;intro p hp;simp only[oQ,List.not_mem_nil,or_false]at hp;rcases hp with rfl <;> grind⟩) ?_;clear hF hO;intro v2 w hO hF hsz;have hws:=fQ hws hsz;have hBw:=fQ hBw hsz;have hne2:∀g,v2.ownBlock=some g->g≠pb:=λg hg=>Yt hO hg (hF.heap (i:=0) rfl) rfl;obtain⟨A2,c2,rfl⟩:=Vi hO;clear hsz;refine Ba (Ek O) (Ba (Mb Mf O) ?_);refine Ro (.slice _ _ _) hF sizeOf121 O O Pi Tr ?_;intro w hF hE;have hws:=fQ hws hE.size;have hBw:=fQ hBw hE.size;have hO:=Ak hO hE (λg hg=>by simpa using hne2 g hg);refine Lb (Ba (Ad O) (Ba (Sk kX O) (Ba (Fb O) (Ba (O2) (Da ?_)))));refine Db (Cb (La (Oc (v:=J ((((t):Str).length:Int))) (x:=.nilIface) O O O) ?_));exact⟨O,⟨.inl ⟨O,O⟩,hle,_,_,hF.heap (i:=0) O,by simpa[Hp,Lib.byteCells,Sj]using hO,.inr O⟩,hF.same⟩
theorem PH(w0:World)(B pb:Nat)(s:Str)(hB:Bd w0 B pb 123 [] s)(r:Int)(hr0:-2147483648<=r)(hr1:r<=2147483647)(hl:s.length+4<=140737488355328):Gz 258 #[V pb,.int .i32 r] (.tuple #[J (((Ai r).length:Nat):Int),.nilIface]) w0 B pb 123 [] (s++Ai r):=by
 unfold Gz;have hrl:=Aj r;refine Fa func258 O ntmps258 Ab (Uc _ _) ?_;obtain⟨v,hO0,hv,hC⟩:=Rm hB;have hle:=hB.le;have hBw:=hB.base;have hlt:=hB.lt;have hws:=gQ w0.heap.size;have hvl:∀g,v.ownBlock=some g->g<w0.heap.size:=λg hg=>(Bp hO0 hg).1;obtain⟨A1,c1,rfl⟩:=Vi hO0;have hF:=FR.start w0 (Wk w0 B pb);refine Ea (Ba (Fb O) (Ba (O2) (Lb (Ba (Uh O) ?_))));refine Eb hC (Ma J3 O O) ?_;rintro _ w ⟨rfl,hE,hh,hO⟩;have hws:=fQ hws hE.size;have hBw:=fQ hBw hE.size;have hF:FR w0 (Wk w0 B pb) [(pb,.cells #[V pb,.slice A1 s.length c1] 123)] w:=(hF.touch hE (λb hb=>by obtain rfl:=pQ.1 hb;exact⟨λ_=>Th.2 (.inl rfl),by simp⟩)).addD hh (.inr (Th.2 (.inl rfl))) Oa;clear hE hh;refine Lb (Ba (Uh O) (Ba (Ek O) (Ba (Mb Mf O) (Xb (Ie tQ O hF.F 0 O O) (Ba (Nf wZ O) (Ba (Fb O) (Lb ?_)))))));refine Ba (Uh O) (Ba (Uh O) (Ba (Ek O) (Ba (Mb Mf O) (Xb (Ie tQ O hF.F 0 O O) (Ba (Za O) ?_)))));refine Eb (G1 hO hr0 hr1 Aa hBw) (Xa en_296 O O O) ?_;rintro v2 w2 ⟨hO2,o,hg⟩;have hF:=(hF.ext (Same.alloc _ o)).grown hg (λb hb=>⟨λ_=>(hv b hb).1,by have h1:=(hv b hb).2;have h2:=hvl b hb;intro p hp;simp only[oQ,List.not_mem_nil,or_false]at hp;rcases hp with rfl <;> grind⟩);have hsz:=fQ (Same.alloc _ o).size hg.size;clear hO hg;revert hsz hF hO2;generalize w2=w;intro hO hF hsz;have hws:=fQ hws hsz;have hBw:=fQ hBw hsz;have hne2:∀g,v2.ownBlock=some g->g≠pb:=λg hg=>Yt hO hg (hF.heap (i:=0) rfl) rfl;obtain⟨A2,c2,rfl⟩:=Vi hO;clear hsz;refine Ba (Ek O) (Ba (Mb Mf O) ?_);refine Ro (.slice _ _ _) hF sizeOf121 O O Pi Tr ?_;intro w hF hE;have hws:=fQ hws hE.size;have hBw:=fQ hBw hE.size;have hO:=Ak hO hE (λg hg=>by simpa using hne2 g hg);refine Lb (Ba (Uh O) (Ba (Ek O) (Ba (Mb Mf O) (Xb (Ie tQ O hF.F 0 O O) (Ba (Nf wZ O) (Ba (Za O) (Ba (UN (((Ai r).length:Nat)) O O) (Ba (Fb O) (Ba (O2) (Va ?_))))))))))
 refine Ha (Db (Cb (La (Oc (v:=J (((Ai r).length:Nat))) (x:=.nilIface) O O O) ?_)));exact⟨O,⟨.inl ⟨O,O⟩,hle,_,_,hF.heap (i:=0) O,by simpa[Hp,Lib.byteCells,Sj]using hO,.inr O⟩,hF.same⟩
theorem MK(w0:World)(B pb:Nat)(m:Bool)(i:Int)(s:Str)(hB:Bd w0 B pb 125 [.bool (m),J i] s)(c:UInt8)(hl:s.length+1<=140737488355328):Gz 226 #[V pb,.int .u8 ((c.toNat:Nat):Int)] .nilIface w0 B pb 125 [.bool (m),J i] (s++[c]):=by
 unfold Gz;refine Fa func226 O ntmps226 Ab (Uc _ _) ?_;obtain⟨v,hO0,hv,hC⟩:=Rm hB;have hle:=hB.le;have hBw:=hB.base;have hlt:=hB.lt;have hws:=gQ w0.heap.size;have hvl:∀g,v.ownBlock=some g->g<w0.heap.size:=λg hg=>(Bp hO0 hg).1;obtain⟨A1,c1,rfl⟩:=Vi hO0;have hF:=FR.start w0 (Wk w0 B pb);refine Ea (Ba (O2) (Lb (Ba (Uh O) ?_)));refine Eb hC (Ma J3 O O) ?_;rintro _ w ⟨rfl,hE,hh,hO⟩;have hws:=fQ hws hE.size;have hBw:=fQ hBw hE.size;have hF:FR w0 (Wk w0 B pb) [(pb,.cells #[V pb,.slice A1 s.length c1,.bool (m),J i] 125)] w:=(hF.touch hE (λb hb=>by obtain rfl:=pQ.1 hb;exact⟨λ_=>Th.2 (.inl rfl),by simp⟩)).addD hh (.inr (Th.2 (.inl rfl))) Oa;clear hE hh;refine Lb (Ba (Uh O) (Ba (Uh O) (Ba (Ek O) (Ba (Mb Mf O) (Xb (Ie tQ O hF.F 0 O O) (Ba (Za O) ?_))))));refine Mh 1 hF (Gb (cs:=#[.int .u8 ((c.toNat:Nat))]) wZ rZ rX Ua Ua Qb) ?_;intro b1 w hb1 hF hE;have nb1:w0.heap.size<=b1:=by rw[hb1];exact hws
 have hws:=fQ hws hE.size;have hBw:=fQ hBw hE.size;have hO:=Ak hO hE Oa;refine o_appB (news:=[.int .u8 ((c.toNat:Nat):Int)]) Hn hF hO hBw rfl rfl rfl (Jc (hF.cellsAll 0 rfl)) (by simp[Value.oneCell']) Aa (λb hb=>⟨λ_=>(hv b hb).1,by have h1:=(hv b hb).2;have h2:=hvl b hb;intro p hp;simp only[oQ,List.not_mem_nil,or_false]at hp;rcases hp with rfl|rfl <;> grind⟩) ?_;clear hF hO;intro v2 w hO hF hsz;have hws:=fQ hws hsz;have hBw:=fQ hBw hsz;have hne2:∀g,v2.ownBlock=some g->g≠pb:=λg hg=>Yt hO hg (hF.heap (i:=1) rfl) rfl;obtain⟨A2,c2,rfl⟩:=Vi hO;clear hsz;refine Ba (Ek O) (Ba (Mb Mf O) ?_);refine Ro (.slice _ _ _) hF sizeOf121 O O Tr Tr ?_;intro w hF hE;have hws:=fQ hws hE.size;have hBw:=fQ hBw hE.size;have hO:=Ak hO hE (λg hg=>by simpa using hne2 g hg);refine Lb (Ba (O2) (Da ?_));refine Gc (v:=.nilIface) O O ?_;exact⟨O,⟨.inr ⟨O,m,i,O⟩,hle,_,_,hF.heap (i:=1) O,by simpa[Hp,Lib.byteCells,Sj]using hO,.inr O⟩,hF.same⟩
theorem O_(w0:World)(B pb:Nat)(m:Bool)(i:Int)(s:Str)(hB:Bd w0 B pb 125 [.bool (m),J i] s)(t:Str)(hl:s.length+t.length<=140737488355328):Gz 163 #[V pb,I t] (.tuple #[J ((t.length:Nat):Int),.nilIface]) w0 B pb 125 [.bool (m),J i] (s++t):=by
 unfold Gz;refine Fa func163 O ntmps163 Ab (Uc _ _) ?_;obtain⟨v,hO0,hv,hC⟩:=Rm hB;have hle:=hB.le;have hBw:=hB.base;have hlt:=hB.lt;have hws:=gQ w0.heap.size;have hvl:∀g,v.ownBlock=some g->g<w0.heap.size:=λg hg=>(Bp hO0 hg).1;obtain⟨A1,c1,rfl⟩:=Vi hO0;have hF:=FR.start w0 (Wk w0 B pb);refine Ea (Ba (Fb O) (Ba (O2) (Lb (Ba (Uh O) ?_))));refine Eb hC (Ma J3 O O) ?_;rintro _ w ⟨rfl,hE,hh,hO⟩;have hws:=fQ hws hE.size;have hBw:=fQ hBw hE.size;have hF:FR w0 (Wk w0 B pb) [(pb,.cells #[V pb,.slice A1 s.length c1,.bool (m),J i] 125)] w:=(hF.touch hE (λb hb=>by obtain rfl:=pQ.1 hb;exact⟨λ_=>Th.2 (.inl rfl),by simp⟩)).addD hh (.inr (Th.2 (.inl rfl))) Oa;clear hE hh;refine Lb (Ba (Uh O) (Ba (Uh O) (Ba (Ek O) (Ba (Mb Mf O) (Xb (Ie tQ O hF.F 0 O O) (Ba (Ad O) ?_))))));refine MZ (str:=t) Hn XA kX hF hO hBw rfl rfl Aa (λb hb=>⟨λ_=>(hv b hb).1,by have h1:=(hv b hb).2;have h2:=hvl b hb;intro p hp;simp only[oQ,List.not_mem_nil,or_false]at hp;rcases hp with rfl <;> grind⟩) ?_;clear hF hO;intro v2 w hO hF hsz;have hws:=fQ hws hsz;have hBw:=fQ hBw hsz;have hne2:∀g,v2.ownBlock=some g->g≠pb:=λg hg=>Yt hO hg (hF.heap (i:=0) rfl) rfl;obtain⟨A2,c2,rfl⟩:=Vi hO;clear hsz;refine Ba (Ek O) (Ba (Mb Mf O) ?_);refine Ro (.slice _ _ _) hF sizeOf121 O O Pi Tr ?_;intro w hF hE;have hws:=fQ hws hE.size;have hBw:=fQ hBw hE.size;have hO:=Ak hO hE (λg hg=>by simpa using hne2 g hg);refine Lb (Ba (Ad O) (Ba (Sk kX O) (Ba (Fb O) (Ba (O2) (Da ?_)))));refine Db (Cb (La (Oc (v:=J ((((t):Str).length:Int))) (x:=.nilIface) O O O) ?_));exact⟨O,⟨.inr ⟨O,m,i,O⟩,hle,_,_,hF.heap (i:=0) O,by simpa[Hp,Lib.byteCells,Sj]using hO,.inr O⟩,hF.same⟩
theorem DL(w0:World)(B pb:Nat)(m:Bool)(i:Int)(s:Str)(hB:Bd w0 B pb 125 [.bool (m),J i] s)(r:Int)(hr0:-2147483648<=r)(hr1:r<=2147483647)(hl:s.length+4<=140737488355328):Gz 258 #[V pb,.int .i32 r] (.tuple #[J (((Ai r).length:Nat):Int),.nilIface]) w0 B pb 125 [.bool (m),J i] (s++Ai r):=by
 unfold Gz;have hrl:=Aj r;refine Fa func258 O ntmps258 Ab (Uc _ _) ?_;obtain⟨v,hO0,hv,hC⟩:=Rm hB;have hle:=hB.le;have hBw:=hB.base;have hlt:=hB.lt;have hws:=gQ w0.heap.size;have hvl:∀g,v.ownBlock=some g->g<w0.heap.size:=λg hg=>(Bp hO0 hg).1;obtain⟨A1,c1,rfl⟩:=Vi hO0;have hF:=FR.start w0 (Wk w0 B pb);refine Ea (Ba (Fb O) (Ba (O2) (Lb (Ba (Uh O) ?_))));refine Eb hC (Ma J3 O O) ?_;rintro _ w ⟨rfl,hE,hh,hO⟩;have hws:=fQ hws hE.size;have hBw:=fQ hBw hE.size;have hF:FR w0 (Wk w0 B pb) [(pb,.cells #[V pb,.slice A1 s.length c1,.bool (m),J i] 125)] w:=(hF.touch hE (λb hb=>by obtain rfl:=pQ.1 hb;exact⟨λ_=>Th.2 (.inl rfl),by simp⟩)).addD hh (.inr (Th.2 (.inl rfl))) Oa;clear hE hh;refine Lb (Ba (Uh O) (Ba (Ek O) (Ba (Mb Mf O) (Xb (Ie tQ O hF.F 0 O O) (Ba (Nf wZ O) (Ba (Fb O) (Lb ?_)))))));refine Ba (Uh O) (Ba (Uh O) (Ba (Ek O) (Ba (Mb Mf O) (Xb (Ie tQ O hF.F 0 O O) (Ba (Za O) ?_)))));refine Eb (G1 hO hr0 hr1 Aa hBw) (Xa en_296 O O O) ?_;rintro v2 w2 ⟨hO2,o,hg⟩;have hF:=(hF.ext (Same.alloc _ o)).grown hg (λb hb=>⟨λ_=>(hv b hb).1,by have h1:=(hv b hb).2;have h2:=hvl b hb;intro p hp;simp only[oQ,List.not_mem_nil,or_false]at hp;rcases hp with rfl <;> grind⟩);have hsz:=fQ (Same.alloc _ o).size hg.size;clear hO hg;revert hsz hF hO2;generalize w2=w;intro hO hF hsz;have hws:=fQ hws hsz;have hBw:=fQ hBw hsz;have hne2:∀g,v2.ownBlock=some g->g≠pb:=λg hg=>Yt hO hg (hF.heap (i:=0) rfl) rfl;obtain⟨A2,c2,rfl⟩:=Vi hO;clear hsz;refine Ba (Ek O) (Ba (Mb Mf O) ?_);refine Ro (.slice _ _ _) hF sizeOf121 O O Pi Tr ?_;intro w hF hE;have hws:=fQ hws hE.size;have hBw:=fQ hBw hE.size;have hO:=Ak hO hE (λg hg=>by simpa using hne2 g hg);refine Lb (Ba (Uh O) (Ba (Ek O) (Ba (Mb Mf O) (Xb (Ie tQ O hF.F 0 O O) (Ba (Nf wZ O) (Ba (Za O) (Ba (UN (((Ai r).length:Nat)) O O) (Ba (Fb O) (Ba (O2) (Va ?_))))))))))
 refine Ha (Db (Cb (La (Oc (v:=J (((Ai r).length:Nat))) (x:=.nilIface) O O O) ?_)));exact⟨O,⟨.inr ⟨O,m,i,O⟩,hle,_,_,hF.heap (i:=0) O,by simpa[Hp,Lib.byteCells,Sj]using hO,.inr O⟩,hF.same⟩
theorem P8:prog.cellsOf 5=1:=by kernel_rfl
theorem Same.freeze(w:World)(a:Addr)(n:Nat):Same [a.block] w (w.freeze a n):=by
  have h:=Lib.below_freeze (B:=a.block) (Below.refl a.block w) (p:=a) (gQ _) n;refine⟨h.os,h.tape,h.output,h.size,λb hb hn=>?_⟩;have hn':b≠a.block:=by simpa using hn
  unfold World.freeze;split
  ·rfl
  simp[Array.getElem?_modify,hn'.symm]
theorem string_a(w0:World)(B pb:Nat)(s:Str)(hB:Bd w0 B pb 123 [] s)(h0:s≠[]):Calls prog 106 #[V pb] w0 (Yc λv w'=>v=I s/\Same (Wk w0 B pb) w0 w'):=by
 refine Fa func106 O ntmps106 Ab (Wb _) ?_;obtain⟨-,hle,ap,v,hh,hO,-⟩:=hB;have hsl:s.length≠0:=by simpa using h0
 obtain⟨g,c1,cur,rfl,hbg,hg,hnc,hcm,hcs,htake⟩:∃g cap cur,v=W g s.length cap/\B<=g/\w0.heap[g]? = some (.cells cur 5 (0,0))/\s.length<=cap/\cap<=maxLen/\cur.size=cap*1/\cur.toList.take (s.length*1)=Lib.byteCells s:=by
   rcases hO.2 with ⟨_,hz⟩|⟨g,cap,cur,hv,r⟩
   ·exact absurd hz hsl
   exact⟨g,cap,cur,hv,r⟩
 have hgm:g∈Wk w0 B pb:=ME hO rfl;have hgn:g≠pb:=Yt hO rfl hh (by rfl);have hF:FR w0 (Wk w0 B pb) [(pb,.cells #[ap,W g s.length c1] 123)] w0:=(FR.start w0 (Wk w0 B pb)).addD hh (.inr (Th.2 (.inl rfl))) Oa;refine Ea (Ba (He O) (Da (Ga ?_)));refine Md (.of []) (bQ [0,1,2,3,5,6,7,8,9] (.act 4 (.act 10 (.free 11 .nil)))) hF ?_;intro w hF hE;have hg:=(hE.block g (Ac hg) Oa).trans hg;have hO:=Ak hO hE Oa;refine⟨λwq=>FR w0 (Wk w0 B pb) _ wq,hF,?_⟩;refine Ib O (Uh O) (Ib O (Ek O) (Ib O (Mb Mf O) (Ng O (Ie tQ O C0 0 O O) (Ib O (Uh O) (Ib O (Ek O) (Ib O (Mb Mf O) (Ng O (Ie tQ O C0 0 O O) (Ib O (Nf wZ O) ?_))))))));refine Gu O (x_usd O Aa) hF ?_;have hu:(Builtin.unsafeString_ #[192,3] 9 #[V g,J s.length]).run prog w=.ok (I s) (w.freeze ⟨g,0,none⟩ s.length):=Lib.run_unsafeString_row w 192 3 9 5 underlying192 P8 g cur.size (by simp[World.shape?,hg]) s h0 Aa (by simp only[maxLen]at hcm;omega) (λj x hx=>hO.cells (g:=g) rfl j (.int .u8 x.toNat) (by simp[Lib.byteCells,hx]));have hEf:FR w0 (Wk w0 B pb) _ (w.freeze ⟨g,0,none⟩ s.length):=hF.touch (Same.freeze w ⟨g,0,none⟩ s.length) (λb hb=>by obtain rfl:=pQ.1 hb;exact⟨λ_=>hgm,by simpa using hgn.symm⟩);refine Gu O (x_uss O O hu) hEf ?_;have hF:=hEf;refine Ib O (He O) (Ic (Ha ?_));refine Gc (v:=I s) O O ?_;exact⟨O,hF.same⟩
theorem string_b(w0:World)(B pb:Nat)(m:Bool)(i:Int)(s:Str)(hB:Bd w0 B pb 125 [.bool (m),J i] s)(h0:s≠[]):Calls prog 106 #[V pb] w0 (Yc λv w'=>v=I s/\Same (Wk w0 B pb) w0 w'):=by
 refine Fa func106 O ntmps106 Ab (Wb _) ?_;obtain⟨-,hle,ap,v,hh,hO,-⟩:=hB;have hsl:s.length≠0:=by simpa using h0
 obtain⟨g,c1,cur,rfl,hbg,hg,hnc,hcm,hcs,htake⟩:∃g cap cur,v=W g s.length cap/\B<=g/\w0.heap[g]? = some (.cells cur 5 (0,0))/\s.length<=cap/\cap<=maxLen/\cur.size=cap*1/\cur.toList.take (s.length*1)=Lib.byteCells s:=by
   rcases hO.2 with ⟨_,hz⟩|⟨g,cap,cur,hv,r⟩
   ·exact absurd hz hsl
   exact⟨g,cap,cur,hv,r⟩
 have hgm:g∈Wk w0 B pb:=ME hO rfl;have hgn:g≠pb:=Yt hO rfl hh (by rfl);have hF:FR w0 (Wk w0 B pb) [(pb,.cells #[ap,W g s.length c1,.bool (m),J i] 125)] w0:=(FR.start w0 (Wk w0 B pb)).addD hh (.inr (Th.2 (.inl rfl))) Oa;refine Ea (Ba (He O) (Da (Ga ?_)));refine Md (.of []) (bQ [0,1,2,3,5,6,7,8,9] (.act 4 (.act 10 (.free 11 .nil)))) hF ?_;intro w hF hE;have hg:=(hE.block g (Ac hg) Oa).trans hg;have hO:=Ak hO hE Oa;refine⟨λwq=>FR w0 (Wk w0 B pb) _ wq,hF,?_⟩;refine Ib O (Uh O) (Ib O (Ek O) (Ib O (Mb Mf O) (Ng O (Ie tQ O C0 0 O O) (Ib O (Uh O) (Ib O (Ek O) (Ib O (Mb Mf O) (Ng O (Ie tQ O C0 0 O O) (Ib O (Nf wZ O) ?_))))))));refine Gu O (x_usd O Aa) hF ?_;have hu:(Builtin.unsafeString_ #[192,3] 9 #[V g,J s.length]).run prog w=.ok (I s) (w.freeze ⟨g,0,none⟩ s.length):=Lib.run_unsafeString_row w 192 3 9 5 underlying192 P8 g cur.size (by simp[World.shape?,hg]) s h0 Aa (by simp only[maxLen]at hcm;omega) (λj x hx=>hO.cells (g:=g) rfl j (.int .u8 x.toNat) (by simp[Lib.byteCells,hx]));have hEf:FR w0 (Wk w0 B pb) _ (w.freeze ⟨g,0,none⟩ s.length):=hF.touch (Same.freeze w ⟨g,0,none⟩ s.length) (λb hb=>by obtain rfl:=pQ.1 hb;exact⟨λ_=>hgm,by simpa using hgn.symm⟩);refine Gu O (x_uss O O hu) hEf ?_;have hF:=hEf;refine Ib O (He O) (Ic (Ha ?_));refine Gc (v:=I s) O O ?_;exact⟨O,hF.same⟩
theorem Lr{w0:World}{B pb T:Nat}{rest:List Value}{s:Str}(hB:Bd w0 B pb T rest s)(c:UInt8)(hl:s.length+1<=140737488355328):Gz 226 #[V pb,.int .u8 ((c.toNat:Nat):Int)] .nilIface w0 B pb T rest (s++[c]):=by
  rcases hB.shp with ⟨rfl,rfl⟩|⟨rfl,m,i,rfl⟩
  ·exact II w0 B pb s hB c hl
  exact MK w0 B pb m i s hB c hl
theorem Am{w0:World}{B pb T:Nat}{rest:List Value}{s:Str}(hB:Bd w0 B pb T rest s)(t:Str)(hl:s.length+t.length<=140737488355328):Gz 163 #[V pb,I t] (.tuple #[J ((t.length:Nat):Int),.nilIface]) w0 B pb T rest (s++t):=by
  rcases hB.shp with ⟨rfl,rfl⟩|⟨rfl,m,i,rfl⟩
  ·exact P_ w0 B pb s hB t hl
  exact O_ w0 B pb m i s hB t hl
theorem N4{w0:World}{B pb T:Nat}{rest:List Value}{s:Str}(hB:Bd w0 B pb T rest s)(r:Int)(h0:-2147483648<=r)(h1:r<=2147483647)(hl:s.length+4<=140737488355328):Gz 258 #[V pb,.int .i32 r] (.tuple #[J (((Ai r).length:Nat):Int),.nilIface]) w0 B pb T rest (s++Ai r):=by
  rcases hB.shp with ⟨rfl,rfl⟩|⟨rfl,m,i,rfl⟩
  ·exact PH w0 B pb s hB r h0 h1 hl
  exact DL w0 B pb m i s hB r h0 h1 hl
theorem W9{w0:World}{B pb T:Nat}{rest:List Value}{s:Str}(hB:Bd w0 B pb T rest s)(h0:s≠[]):Calls prog 106 #[V pb] w0 (Yc λv w'=>v=I s/\Same (Wk w0 B pb) w0 w'):=by
  rcases hB.shp with ⟨rfl,rfl⟩|⟨rfl,m,i,rfl⟩
  ·exact string_a w0 B pb s hB h0
  exact string_b w0 B pb m i s hB h0
structure BW (w0:World) (Ds:List Nat) (w:World) (B pb T:Nat) (rest:List Value) (s:Str):Prop where
  bd:Bd w B pb T rest s
  sub:∀x∈Wk w B pb,x<w0.heap.size->x∈Ds
  ge:w0.heap.size<=w.heap.size
section
variable {w0 w w':World}{Ds E:List Nat}{bs_:List (Nat × Obj)}{B pb T:Nat}{rest:List Value}{s t:Str}
theorem BW.start(h:Bd w0 B pb T rest s):BW w0 (Wk w0 B pb) w0 B pb T rest s:=⟨h,λx hx _=>hx,gQ _⟩
theorem BW.own(h:Bd w B pb T rest s)(hb:w0.heap.size<=B)(hg:w0.heap.size<=w.heap.size):BW w0 Ds w B pb T rest s :=
  ⟨h,λx hx hl=>by
    have:=h.le;rcases Th.1 hx with rfl|⟨-,h2,-⟩ <;> omega,hg⟩
theorem BW.lt(h:BW w0 Ds w B pb T rest s):pb<w.heap.size:=h.bd.lt
theorem BW.wrote(h:BW w0 Ds w B pb T rest s)(hb:Bd w' B pb T rest t)(hs:Same (Wk w B pb) w w'):BW w0 Ds w' B pb T rest t :=
  ⟨hb,λx hx hl=>by
    rcases Wk.step hs hx with h1|h1
    ·exact h.sub x h1 hl
    have:=h.ge;omega,fQ h.ge hs.size⟩
theorem FR.wrote(hF:FR w0 Ds bs_ w)(h:BW w0 Ds w B pb T rest s)(hs:Same (Wk w B pb) w w')(hb:∀p∈bs_,Tl p.2=false/\p.1≠pb):FR w0 Ds bs_ w' :=
  hF.touch hs λx hx=>⟨h.sub x hx,λp hp e=>by
    have h1:=hb p hp;rcases Th.1 hx with h2|⟨-,-,h3⟩
    ·exact h1.2 (e.trans h2)
    rw[<-e,Aw (hF.memHeap hp),h1.1]at h3;cases h3⟩
theorem Bd.same(h:Bd w B pb T rest s)(hs:Same E w w')(hp:pb∉E)(he:∀x∈E,Hw w x=false):Bd w' B pb T rest s:=by
  obtain⟨h1,h2,ap,v,h3,h4,h5⟩:=h;refine⟨h1,h2,ap,v,(hs.block pb (Ac h3) hp).trans h3,Ak h4 hs (λg hg hm=>?_),h5⟩;have:=(Bp h4 hg).2.2;rw[he g hm]at this;cases this
theorem Bd.ext(h:Bd w B pb T rest s)(hs:Same [] w w'):Bd w' B pb T rest s:=h.same hs Oa Oa
theorem BW.step(h:BW w0 Ds w B pb T rest s)(hs:Same E w w')(hp:pb∉E)(he:∀x∈E,Hw w x=false)(he':∀x∈E,Hw w' x=false):BW w0 Ds w' B pb T rest s :=
  ⟨h.bd.same hs hp he,λx hx hl=>by
    refine h.sub x (Th.2 ?_) hl;have hl2:=Nat.lt_of_lt_of_le hl h.ge;rcases Th.1 hx with rfl|⟨-,h2,h3⟩
    ·exact .inl O
    refine .inr ⟨hl2, h2, ?_⟩;have hn:x∉E:=λhm=>by rw[he' x hm]at h3;cases h3
    rw[Hw,<-hs.block x hl2 hn];exact h3,fQ h.ge hs.size⟩
theorem BW.ext(h:BW w0 Ds w B pb T rest s)(hs:Same [] w w'):BW w0 Ds w' B pb T rest s:=h.step hs Oa Oa Oa
theorem Rep.off{d:D}{cs:List Value}(h:Rep (λx=>x∉Wk w B pb) w d cs)(hs:Same (Wk w B pb) w w'):Rep (λx=>x∉Wk w' B pb) w' d cs :=
  ((h.old).same hs (λb hb hn=>hn.1 hb)).weaken λx hx _ hm=>by
    rcases Wk.step hs hm with h1|h1
    ·exact hx.1 h1
    have:=hx.2;omega
theorem Rep.off_ext{d:D}{cs:List Value}(h:Rep (λx=>x∉Wk w B pb) w d cs)(hp:pb<w.heap.size)(hs:Same [] w w'):Rep (λx=>x∉Wk w' B pb) w' d cs:=h.off (hs.mono Oa)
end
section
variable {P:Program}{w:World}{ρ:Operand->Value}{dst:Option Nat}{ty:TypeId}{pos:String}{aft:Array Edge}{g:Option (Nat × Bool)}
theorem x_and{t t':TypeId}{x y:Operand}{k:IntKind}{a b c:Int}(hx:ρ x=.int k a)(hy:ρ y=.int k b)(h:bits .and k a b=c) :
    (execOp ρ ⟨dst,.binOp .and t x y t',ty,pos,aft,g⟩).run P w=.ok (.value (.int k c)) w:=by
  simp[execOp,hx,hy,Oe,binOp,intBits_and,h]
theorem WZ{t t':TypeId}{x y:Operand}{k k2:IntKind}{a c:Int}(m:Nat)(hx:ρ x=.int k a)(hy:ρ y=.int k2 m)(hm:m<=k.bits)(h:a.fdiv (2 ^ m)=c) :
    (execOp ρ ⟨dst,.binOp .shr t x y t',ty,pos,aft,g⟩).run P w=.ok (.value (.int k c)) w:=by
  have hg:(eqGuard .shr t x y (.int k a) (.int k2 m)).run P w=.ok () w:=by unfold eqGuard;simp
  have h0:¬((m:Int)<0):=by omega
  simp[execOp,hx,hy,hg,binOp,Op.shift,h0,Nat.min_eq_left hm,h]
theorem My{t e N:Nat}{x y:Operand}{kk:IntKind}{b:Nat}(i:Nat)(ht:P.underlying t=some (.array N e))(hs:∀w,(sizeOf e).run P w=.ok 1 w)(hx:ρ x=V b)(hy:ρ y=.int kk (i:Int))(h1:i<N) :
    (execOp ρ ⟨dst,.indexAddr t x y,ty,pos,aft,g⟩).run P w=.ok (.value (.pointer (some ⟨b,i,none⟩))) w:=by
  have h2:(0:Int)<=(i:Int)/\(i:Int)<(N:Int):=by omega
  have e1:(⟨b,0,none⟩:Addr).add i=⟨b,i,none⟩:=by rw[Yf,Nat.zero_add]
  simp[execOp,hx,hy,Instr.indexAt,run_underlying ht,Instr.sureAddr,asIntOf,h2,hs,e1];intro hh;omega
theorem XM{t e N:Nat}{x y:Operand}{kk:IntKind}{b:Nat}(i:Nat)(ht:P.underlying t=some (.array N e))(hs:∀w,(sizeOf e).run P w=.ok 1 w)(hx:ρ x=V b)(hy:ρ y=.int kk (i:Int))(h1:i<N) :
    (execOp ρ ⟨dst,.slice t x (some y) none none,ty,pos,aft,g⟩).run P w=.ok (.value (.slice (some ⟨b,i,none⟩) (N-i) (N-i))) w:=by
  have h0:¬N=i:=by omega
  have e1:(⟨b,0,none⟩:Addr).add i=⟨b,i,none⟩:=by rw[Yf,Nat.zero_add]
  have e2:(0:Int)<=(i:Int)/\(i:Int)<=(N:Int):=by omega
  simp[execOp,hx,hy,Instr.sliceAt,run_underlying ht,Instr.sureAddr,Instr.sliceBounds,run_sliceBound,hs,e1,h0,e2]
theorem ZH{t t' e:Nat}{x:Operand}{a:Addr}{n c:Nat}(s:Str)(ht:P.underlying t=some (.slice e))(he:P.underlying e=some (.int .u8))(hd:P.underlying t'=some .string)(hx:ρ x=.slice (some a) n c)(hn:s.length=n)
    (h:∀j (hj:j<s.length),w.cell? (a.add j)=some (.int .u8 (s[j].toNat:Int))) :
    (execOp ρ ⟨dst,.convert t t' x,ty,pos,aft,g⟩).run P w=.ok (.value (I s)) w:=by
  have hl:=Sr (P:=P) a w ((s.map λu=>(u.toNat:Int)).map (Value.int .u8)) (m:=n) (by simp[hn]) (λj hj=>by simp at hj ⊢;exact h j hj);have hb:=run_bytesToString w a n c (s.map λu=>(u.toNat:Int)) hl;have e1:∀(l:Str)(acc:ByteArray),(l.map λu=>(u.toNat:Int)).foldl (λr n=>r.push (UInt8.ofNat n.toNat)) acc=⟨acc.data++l.toArray⟩:=by
    intro l
    induction l with
    | nil=>intro acc;simp
    | cons u l ih=>intro acc;rw[List.map_cons,List.foldl_cons,ih];simp[ByteArray.push]
  rw[e1]at hb;simp[execOp,hx,run_convert_bytes_string w t t' e _ _ _ ht he hd,hb]
end
def DP:List Value:=List.replicate 65 (.int .u8 0)
def G0:Str:=[48,49,50,51,52,53,54,55,56,57,97,98,99,100,101,102,103,104,105,106,107,108,109,110,111,112,113,114,115,116,117,118,119,120,121,122]
def dg(k:Nat):UInt8:=G0.getD k 0
def Rn(r:Nat):Str:=if r<16 then [dg r] else [dg (r/16),dg (r%16)]
theorem B5{k:Nat}(h:k<G0.length):G0[k]=dg k:=by simp[dg,h]
theorem wrap64:∀r<32,IntKind.u64.wrap ((r:Nat):Int)=r:=by decide
theorem and15:∀u<32,bits .and .u64 ((u:Nat):Int) 15=((u%16:Nat):Int):=by decide
theorem tz64_c(w0:World)(hG:Gl w0):Calls prog 306 #[.int .u64 16] w0 (Yc λv w'=>v=J 4/\Same [] w0 w'):=by
 obtain⟨e,fz,hbr⟩:=hG.bru;refine Fa func306 O ntmps306 Ab (Wb _) ?_;have hF:=FR.start w0 [];refine Ea (Ba (Fb O) (Da (Ga (Ea (Ba (Za O) (Ia (v:=.bool false) (Xf (Er O O) Ua) (Da (Zd O (Ka ?_)))))))));refine Ha (Ea (Ba (Za O) (Ba (Za O) (Ia (v:=.int .u64 18446744073709551600) (F4 O Ua) (Ia (v:=.int .u64 16) (x_and O O Ua) (Ia (v:=.int .u64 4573923408821661840) (Q1 O O Ua) (Ia (v:=.int .u64 15) (WZ 58 O O Ua Ua) (Ia (v:=.pointer (some (⟨5,15,none⟩))) (My 15 underlying313 rZ O O Ua) ?_))))))));refine Ia (v:=.int .u8 4) (Nc isAgg5 O (by rw[Zc (hF.heap0 hbr)];rfl)) ?_;refine Ia (v:=J 4) (Be gX bX O Ua) (Ba (Fb O) (Da ?_));refine Gc (v:=J 4) O O ?_;exact⟨O,hF.same⟩
theorem tz_c(w0:World)(hG:Gl w0):Calls prog 285 #[.int .u64 16] w0 (Yc λv w'=>v=J 4/\Same [] w0 w'):=by
 refine Fa func285 O ntmps285 Ab (Wb _) ?_;have hF:=FR.start w0 [];refine Ea (Ba (Fb O) (Da (Ga (R0 O (Ea (Ba (Za O) ?_))))));refine Pa hF (tz64_c _ (hG.ext hF.same)) (Ma en_306 O O) ?_;intro w hF;refine Ba (Fb O) (Da ?_);refine Gc (v:=J 4) O O ?_;exact⟨O,hF.same⟩
theorem pow2_c(w0:World):Calls prog 284 #[J 16] w0 (Yc λv w'=>v=.bool true/\Same [] w0 w'):=by
 refine Fa func284 O ntmps284 Ab (Wb _) ?_;have hF:=FR.start w0 [];refine Ea (Ba (Kb O) (Lb (Ba (Za O) (Ba (Za O) (Ia (v:=J 15) (Tu O O Ua) (Ia (v:=J 0) (x_and O O Ua) (Ia (v:=.bool true) (Ei (Er O O) Ua) (Ba (Kb O) (Va ?_)))))))));refine Ha (Gc (v:=.bool true) O O ?_);exact⟨O,hF.same⟩
theorem CG(w0:World)(hG:Gl w0)(r:Nat)(hr:r<32):Calls prog 247 #[aQ,.int .u64 (r:Int),J 16,.bool false,.bool false] w0 (Yc λv w'=>v=.tuple #[aQ,I (Rn r)]/\Same [] w0 w'):=by
 refine Fa func247 O ntmps247 Ab (AP _ _ _ _ _) ?_;have hF:=FR.start w0 [];refine Ea (Ba (Yi O) (Ba (He O) (Da (Ga (Ea (Ba (Za O) (Ia (v:=.bool false) (Xf (NG O O) Ua) (Ba (Dc O) (Ba (Za O) (Ia (v:=.bool false) (Xf (Er O O) Ua) ?_))))))))));refine Ba (Pb O O) (Ba (Dc O) (Ba (Za O) (Ia (v:=.bool false) (Xf (SB O O) Ua) (Ba (Pb O O) (Da (R0 O (Ea ?_)))))));refine Pc (cs:=(List.toArray DP)) hF zeroValue284 Qb ?_;rintro b1 w hb1 hF -;refine Lb (Ba (Fb O) (Da (Ga (Ea (Ba (Dc O) (Da (Zd O ?_)))))));refine Ka (Ha (Ga (Ea (Ba (Za O) ?_))));refine Pa hF (pow2_c _) (Ma en_284 O O) ?_;intro w hF;refine Da (Yd O (Ea (Ba (Za O) (Ia (v:=.int .u64 16) (Be bX underlying173 O Ua) ?_))));refine Pa hF (tz_c _ (hG.ext hF.same)) (Ma en_285 O O) ?_;intro w hF;refine Ia (v:=.int .u64 4) (Be bX underlying173 O Ua) (Ba (Fb O) (Lb (Ba (Za O) (Ia (v:=.int .u64 16) (Be bX underlying246 O Ua) (Ba (Fb O) (Lb (Ba (Za O) ?_)))))));refine Ia (v:=.int .u64 16) (Be bX underlying173 O Ua) (Ia (v:=.int .u64 15) (Tu O O Ua) (Ba (Fb O) (Da (Ga (Qa ?_)))));refine Fc (λμ σ w=>∃(u:Nat),∃(i:Nat),∃(cs:List Value),μ=2*u/\((u=r/\i=65/\cs=DP)\/(16<=r/\u=r/16/\i=64/\cs=DP.set 64 (.int .u8 ((dg (r%16)).toNat:Int))))/\AllEq σ [(0,aQ),(1,.int .u64 ((u:Int))),(3,.bool false),(4,.bool false),(10,aQ),(11,I []),(12,V b1),(13,J ((i:Int))),(14,.int .u64 4),(15,.int .u64 16),(16,.int .u64 15)]/\FR w0 [] [(b1,.cells (List.toArray cs) 284)] w) _ ⟨r,65,DP,O,(.inl ⟨O,O,O⟩),⟨O,O,O,O,O,O,O,O,O,O,O,trivial⟩,hF⟩ ?_;rintro μ σ w ⟨u,i,cs,rfl,hI,hs,hF⟩;refine Cg.slots hs ?_;clear hs;intro σ;have hcl:cs.length=65:=by rcases hI with ⟨-,-,rfl⟩|⟨-,-,-,rfl⟩ <;> simp[DP]
 have hu32:u<32:=by omega
 refine Ga (Ea (Ba (Za O) (Ba (Za O) (Ba (Vx O O) (Da ?_)))));refine Jb O O (λhc3=>?_) (λhc3=>?_)
 ·
  refine Ka (Ha (Qa (Ea (Ba (Za O) (Ba (UN (((64:Nat):Int)) O O) (Ba (Fb O) (Lb (Ba (Za O) (Ba (Za O) ?_)))))))));refine Ba (Za O) (Ia (v:=.int .u64 (((u%16:Nat):Int))) (x_and O O (and15 u Aa)) ?_);refine Ia (v:=.int .u8 (((dg (u%16)).toNat:Int))) (by rw[<-B5 (show u%16<G0.length by show u%16<36;omega)];exact Td (u%16) kX O O _) ?_;refine Ia (v:=.pointer (some ⟨b1,64,none⟩)) (My 64 underlying284 rZ O O Ua) ?_;refine Fg 0 (l:=[.int .u8 (((dg (u%16)).toNat:Nat):Int)]) (cs':=(List.toArray (cs.set 64 (.int .u8 (((dg (u%16)).toNat:Nat):Int))))) hF rZ O (v:=.int .u8 (((dg (u%16)).toNat:Nat):Int)) O O Sl O (by simp[hcl] <;> omega) (by simp[putA]) ?_;rintro w hF -;have hF:FR w0 [] [(b1,.cells (List.toArray (cs.set 64 (.int .u8 (((dg (u%16)).toNat:Nat):Int)))) 284)] w:=hF;refine Da (Ja (Ba (Za O) (Ba (Za O) ?_)));refine Ia (v:=.int .u64 (((u/16:Nat):Int))) (WZ 4 O O Ua (by rw[Int.fdiv_eq_ediv_of_nonneg _ Ua];omega)) ?_;refine Ba (Fb O) (Va (Ya ?_));refine Ta ⟨_,?_,u/16,64,cs.set 64 (.int .u8 (((dg (u%16)).toNat:Nat):Int)),rfl,(.inr (by rcases hI with ⟨rfl,rfl,rfl⟩|⟨h16,rfl,rfl,rfl⟩ <;> first|omega|exact⟨by omega,rfl,rfl,rfl⟩)),⟨rfl,rfl,rfl,rfl,rfl,rfl,rfl,rfl,rfl,rfl,rfl,trivial⟩,hF⟩;omega
 refine Bc (Yb O ?_);refine Ha (Ea (Ba (Za O) (Ba (UN (((i-1:Nat):Int)) O O) (Ba (Fb O) (Da (Ja (Ba (Za O) (Ba (Za O) ?_))))))));refine Ia (v:=.int .u8 (((dg u).toNat:Int))) (by rw[<-B5 (show u<G0.length by show u<36;omega)];exact Td u kX O O _) ?_;refine Ia (v:=.pointer (some ⟨b1,(i-1),none⟩)) (My (i-1) underlying284 rZ O O Aa) ?_;refine Fg 0 (l:=[.int .u8 (((dg (u)).toNat:Nat):Int)]) (cs':=(List.toArray (cs.set (i-1) (.int .u8 (((dg (u)).toNat:Nat):Int))))) hF rZ O (v:=.int .u8 (((dg (u)).toNat:Nat):Int)) O O Sl O (by simp[hcl] <;> omega) (by simp[putA]) ?_;rintro w hF -;have hF:FR w0 [] [(b1,.cells (List.toArray (cs.set (i-1) (.int .u8 (((dg (u)).toNat:Nat):Int)))) 284)] w:=hF;refine Da (Ga (Ea (Ba (Dc O) (Da (R0 O (Ga (Ea ?_)))))));refine Ba (Dc O) (Da (R0 O (Ea (Ba (Za O) (Ia (v:=.slice (some ⟨b1,i-1,none⟩) (65-(i-1)) (65-(i-1))) (XM (i-1) underlying284 rZ O O Aa) ?_)))));have hfin:(Rn r).length=65-(i-1)/\∀j (hj:j<(Rn r).length),w.cell? ((⟨b1,i-1,none⟩:Addr).add j)=some (.int .u8 ((Rn r)[j].toNat:Int)):=by
   have hh:=hF.heap (i:=0) rfl;rcases hI with ⟨rfl,rfl,rfl⟩|⟨h16,rfl,rfl,rfl⟩
   ·have h1 : Rn u = [dg u] := by rw[Rn, if_pos Aa]
    refine⟨by rw[h1];rfl,λj hj=>?_⟩;have hj0:j=0:=by rw[h1]at hj;simpa using hj
    subst hj0;rw[Yf,Zc hh];simp[h1,DP]
   have h1 : Rn r = [dg (r/16), dg (r%16)] := by rw[Rn, if_neg Aa]
   refine⟨by rw[h1];rfl,λj hj=>?_⟩;have hj2:j=0\/j=1:=by rw[h1]at hj;simp at hj;omega
   rw[Yf,Zc hh];rcases hj2 with rfl|rfl <;> simp[h1,DP]
 refine Ia (v:=I (Rn r)) (ZH (Rn r) wZ gX kX O hfin.1 hfin.2) (Ba (He O) (Da ?_));refine Db (Cb (La (Oc (v:=.slice _ _ _) (x:=I (Rn r)) O O O) ?_));exact⟨O,hF.same⟩
theorem fmtInt_c(w0:World)(hG:Gl w0)(r:Nat)(hr:r<32):Calls prog 210 #[J (r:Int),J 16] w0 (Yc λv w'=>v=I (Rn r)/\Same [] w0 w'):=by
 refine Fa func210 O ntmps210 Ab (Uc _ _) ?_;have hF:=FR.start w0 [];refine Ea (Ba (He O) (Da (Ga (Ea (Ba (Za O) (Ia (v:=.bool false) (Xf (Er O O) Ua) (Da (Zd O (Ka ?_)))))))));refine Ha (Ea (Ba (Za O) (Ia (v:=.int .u64 ((r:Int))) (Be underlying2 underlying246 O (wrap64 r hr)) (Ba (Za O) (Ba (Za O) (Ia (v:=.bool false) (Xf (NG O O) Aa) ?_))))));refine Pa hF (CG _ (hG.ext hF.same) r hr) (I6 en_247 O O O O O O) ?_;intro w hF;refine Ba (Mj O) (Ba (yxl O O) (Ba (Ly O O) (Ba (Yi O) (Ba (He O) (Lb (Ba (Ad O) (Ba (He O) (Da ?_))))))));refine Gc (v:=I (Rn r)) O O ?_;exact⟨O,hF.same⟩
theorem hex_c(w0:World)(hG:Gl w0)(r:Nat)(hr:r<32):Calls prog 259 #[J (r:Int),J 16] w0 (Yc λv w'=>v=I (Rn r)/\Same [] w0 w'):=by
 refine Fa func259 O ntmps259 Ab (Uc _ _) ?_;have hF:=FR.start w0 [];refine Ea (Ba (He O) (Lb (Ba (Za O) (Ba (Za O) ?_))));refine Pa hF (fmtInt_c _ (hG.ext hF.same) r hr) (Xa en_210 O O O) ?_;intro w hF;refine Ba (He O) (Da ?_);refine Gc (v:=I (Rn r)) O O ?_;exact⟨O,hF.same⟩
def Ug(r:Int):Int:=if r=34 then 34 else if r=92 then 92 else if r=8 then 98 else if r=12 then 102 else if r=10 then 110 else if r=13 then 114 else if r=9 then 116 else 0
theorem letter_c(w0:World)(r:Int):Calls prog 257 #[.int .i32 r] w0 (Yc λv w'=>v=.int .u8 (Ug r)/\Same [] w0 w'):=by
 refine Fa func257 O ntmps257 Ab (Wb _) ?_;have hF:=FR.start w0 [];refine Ea (Ba (Fb O) (Da (Ga (Ea (Ba (Za O) (Da (Qa (Ga (Ga ?_)))))))));refine Ja (Ba (Of O O) (Ba (Kb O) (Da ?_)));refine Jb O O (λhc0=>?_) (λhc0=>?_);refine Ka (Ha (Yd O (Ea (Ba (Za O) ?_))));refine Ia (v:=.int .u8 (Ug r)) (Be yZ gX rfl (by rcases (by first|exact .inl (by assumption)|exact .inr (by assumption):r=34\/r=92)with rfl|rfl <;> decide)) ?_;refine Ba (Fb O) (Da ?_);refine Gc (v:=.int .u8 (Ug r)) O O ?_;refine⟨?_,hF.same⟩;simp_all[Ug];refine Ja (Ba (Of O O) (Ba (Kb O) (Da ?_)));refine Jb O O (λhc1=>?_) (λhc1=>?_);refine Ea (Ba (Za O) ?_);refine Ia (v:=.int .u8 (Ug r)) (Be yZ gX rfl (by rcases (by first|exact .inl (by assumption)|exact .inr (by assumption):r=34\/r=92)with rfl|rfl <;> decide)) ?_;refine Ba (Fb O) (Da ?_);refine Gc (v:=.int .u8 (Ug r)) O O ?_;refine⟨?_,hF.same⟩;simp_all[Ug];refine Ea (Ba (Of O O) (Ba (Kb O) (Da ?_)));refine Jb O O (λhc2=>?_) (λhc2=>?_);refine Ea (Ba (Fb O) (Da ?_));refine Gc (v:=.int .u8 98) O O ?_;refine⟨?_,hF.same⟩;simp_all[Ug];refine Ea (Ba (Of O O) (Ba (Kb O) (Da ?_)));refine Jb O O (λhc3=>?_) (λhc3=>?_);refine Ea (Ba (Fb O) (Da ?_));refine Gc (v:=.int .u8 102) O O ?_;refine⟨?_,hF.same⟩;simp_all[Ug];refine Ea (Ba (Of O O) (Ba (Kb O) (Da ?_)));refine Jb O O (λhc4=>?_) (λhc4=>?_);refine Ea (Ba (Fb O) (Da ?_));refine Gc (v:=.int .u8 110) O O ?_;refine⟨?_,hF.same⟩;simp_all[Ug];refine Ea (Ba (Of O O) (Ba (Kb O) (Da ?_)));refine Jb O O (λhc5=>?_) (λhc5=>?_);refine Ea (Ba (Fb O) (Da ?_));refine Gc (v:=.int .u8 114) O O ?_;refine⟨?_,hF.same⟩;simp_all[Ug];refine Ea (Ba (Of O O) (Ba (Kb O) (Da ?_)));refine Jb O O (λhc6=>?_) (λhc6=>?_);refine Ea (Ba (Fb O) (Da ?_));refine Gc (v:=.int .u8 116) O O ?_;refine⟨?_,hF.same⟩;simp_all[Ug]
 refine Ka (Ya (Ha (Ea (Ba (Fb O) (Da ?_)))));refine Gc (v:=.int .u8 0) O O ?_;refine⟨?_,hF.same⟩;simp_all[Ug]
def Zu(r:Nat):Str:=if Ug r≠0 then [92,UInt8.ofNat (Ug r).toNat] else if 32<=r then Ai r else [92,117]++Lib.repeatL [48] (4-(Rn r).length)++Rn r
def D5:Nat->Str->Nat->Str
  | 0,_,_=>[]
  | f+1,s,p=>if p<s.length then Zu (Utf8.decode (bs s) p).1++D5 f s (p+(Utf8.decode (bs s) p).2) else []
theorem JS:∀(f g:Nat)(s:Str)(p:Nat),s.length-p<=f->s.length-p<=g->D5 f s p=D5 g s p
  | 0,0,_,_,_,_=>rfl
  | 0,g+1,s,p,h,_=>by rw[D5,D5,if_neg Aa]
  | f+1,0,s,p,_,h=>by rw[D5,D5,if_neg Aa]
  | f + 1, g + 1, s, p, h1, h2 => by
    rw[D5,D5];split
    ·have h3 := Jg s p
     rw[JS f g s _ Aa Aa]
    rfl
def Rv(s:Str)(p:Nat):Str:=D5 (s.length-p) s p
theorem Wp{s:Str}{p:Nat}(h:p<s.length):Rv s p=Zu (Utf8.decode (bs s) p).1++Rv s (p+(Utf8.decode (bs s) p).2):=by
  have h3:=Jg s p;obtain⟨f,hf⟩:∃f,s.length-p=f+1:=⟨s.length-p-1,by omega⟩;rw[Rv,hf,D5,if_pos h,Rv,JS f (s.length-(p+(Utf8.decode (bs s) p).2)) s _ Aa Aa]
theorem X2{s:Str}{p:Nat}(h:¬p<s.length):Rv s p=[]:=by
  have e:s.length-p=0:=by omega
  rw[Rv,e,D5]
def Py(s:Str):Str:=[34]++Rv s 0++[34]
theorem Lx(r:Int):0<=Ug r/\Ug r<256:=by
  unfold Ug
  repeat' split
  all_goals omega
theorem Ko(r:Nat):1<=(Rn r).length/\(Rn r).length<=2:=by unfold Rn;split <;> simp
theorem Ft(n:Nat):(Lib.repeatL [48] n).length=n:=by
  induction n with
  | zero=>rfl
  | succ n ih=>simp[Lib.repeatL,ih];try omega
theorem Hr(r:Nat):(Zu r).length<=6:=by
  unfold Zu;have h1:=Aj r;have h2:=Ko r
  repeat' split
  ·simp
  ·omega
  simp[Ft];omega
theorem Dj{w0:World}{B pb T:Nat}{rest:List Value}{s:Str}(hB:Bd w0 B pb T rest s)(z:Int)(h0:0<=z)(h1:z<256)(hl:s.length+1<=140737488355328):Gz 226 #[V pb,.int .u8 z] .nilIface w0 B pb T rest (s++[UInt8.ofNat z.toNat]):=by
  have h:=Lr hB (UInt8.ofNat z.toNat) hl;have e:(((UInt8.ofNat z.toNat).toNat:Nat):Int)=z:=by simp only[UInt8.toNat_ofNat'];omega
  rwa [e]at h
theorem quote_c(w0:World)(hG:Gl w0)(s:Str)(hl:s.length<=17592186044416):Calls prog 225 #[I s] w0 (Yc λv w'=>v=(if Lib.validD s=true then .tuple #[I (Py s),J 0] else .tuple #[I [],J 2])/\Same [] w0 w'):=by
 refine Fa func225 O ntmps225 Ab (Wb _) ?_;have hF:=FR.start w0 [];refine Ea (Ba (He O) (Ba (Fb O) (Da (Ga (Ea (Ba (Ad O) ?_))))));refine Eb (OD s Aa _ (hG.ext hF.same)) (Ma en_78 O O) ?_;rintro _ w ⟨n0,rfl,hE⟩;have hF:=hF.ext hE;refine Ba (Mj O) (Ba (Rj O O) (Ba (Ym O O) (Ba (Fb O) (Ba (Kb O) (Lb (Ba (Dc O) (Ba (Di O) (Da ?_))))))));refine Jd O O (λhc0=>?_) (λhc0=>?_);refine Ea (Ba (He O) (Ba (Fb O) (Da ?_)));refine Db (Cb (La (Oc (v:=I []) (x:=J 2) O O O) ?_));exact⟨by rw[if_neg (by simpa using hc0)],hF.same⟩;refine Ka (Ha (Ea ?_));refine Pc (cs:=#[.pointer none,aQ]) hF zeroValue123 O ?_;rintro b1 w hb1 hF -;refine Lb ?_;have hBn:BW w0 [] w b1 b1 123 [] []:=BW.own ⟨.inl ⟨rfl,rfl⟩,gQ _,_,_,hF.heap (i:=0) rfl,World.ownsRow_nil _ _ _ _,.inl rfl⟩ (hF.ge (i:=0) rfl) hF.same.size;have hB:=hBn;have hF:=hF.drop 1;have hF:FR w0 [] [] w:=hF;have ho:(0:Nat)<=0/\([]:Str).length<=0:=by simp
 refine Eb (Dj hB.bd (34) Aa Aa Oa) (Xa Qp O O O) ?_;rintro _ w ⟨rfl,hBd,hE⟩;have hF:=hF.wrote hB hE Oa;have hB:=hB.wrote hBd hE;clear hBd hE;refine Da (Ga (Ea (Ba (Ad O) ?_)));refine O0 (str:=s) hF kX O ?_;intro b2 w hb2 hF hE;have nb2:b2≠b1:=by have:=hB.lt;omega
 have hB:=hB.ext hE;refine Da (Qa ?_);refine Fc (λμ σ w=>∃(q:Nat),∃(o:Str),μ=s.length-q/\(o++Rv s q=[34]++Rv s 0)/\(o.length<=1+6*q/\o.length<=1+6*s.length)/\(BW w0 [] w b1 b1 123 [] o)/\AllEq σ [(6,V b1),(20,V b2)]/\FR w0 [] [(b2,.stringIter (bs s) (q))] w) _ ⟨0,[34],O,(O),Oa,(hB),Rq,hF⟩ ?_;rintro μ σ w ⟨q,o,rfl,hq,ho,hB,hs,hF⟩;refine Cg.slots hs ?_;clear hs;intro σ;have hr2:Hw w b2=false:=by rw[Aw (hF.heap (i:=0) rfl)];rfl
 refine Ea ?_;by_cases hn0:(q)<(s:Str).length;refine F6 0 (p:=q) (str:=s) hF O O hn0 ?_;intro w hF hE;have hB:=hB.step hE (by simpa using nb2.symm) (by simpa using hr2) (by simp[Aw (hF.heap (i:=0) rfl),Tl]);refine Ba (Ym O O) (Da (Ga (Yd O (Ka (Ha (Qa (Ea (Ba (Rj O O) (Ba (Fb O) (Da ?_))))))))));refine Ga (Ea (Ba (Za O) ?_));refine Eb (letter_c _ (((Utf8.decode (bs s) q).1:Nat):Int)) (Ma en_257 O O) ?_;rintro _ w ⟨rfl,hE⟩;have hF:=hF.ext hE;have hB:=hB.ext hE;refine Ba (Fb O) (Lb (Ba (Za O) (Ba (Wm O O) (Da ?_))));refine Jb O O (λhc2=>?_) (λhc2=>?_);refine Ea ?_;refine Eb (Dj hB.bd (92) Aa Aa (by have h1:=ho.1;have h2:=ho.2;simp;omega)) (Xa Qp O O O) ?_;rintro _ w ⟨rfl,hBd,hE⟩;have hF:=hF.wrote hB hE (by simp[Tl,nb2]);have hB:=hB.wrote hBd hE;clear hBd hE;refine Lb (Ba (Za O) ?_);refine Eb (Dj hB.bd (Ug (((Utf8.decode (bs s) q).1:Nat):Int)) (Lx _).1 (Lx _).2 (by have h1:=ho.1;have h2:=ho.2;simp;omega)) (Xa Qp O O O) ?_;rintro _ w ⟨rfl,hBd,hE⟩;have hF:=hF.wrote hB hE (by simp[Tl,nb2]);have hB:=hB.wrote hBd hE;have e1:o++[UInt8.ofNat (92:Int).toNat]++[UInt8.ofNat (Ug (((Utf8.decode (bs s) q).1:Nat):Int)).toNat]=o++Zu (Utf8.decode (bs s) q).1:=by rw[Zu,if_pos (by simpa using hc2)];simp
 rw[e1]at hB;clear hBd hE;refine Da (Bc (Yb O ?_));have h1:=Jg s q;refine Ta ⟨_,?_,q+(Utf8.decode (bs s) q).2,o++Zu (Utf8.decode (bs s) q).1,O,(by rw[sQ,<-Wp Aa];exact hq),(by have h1:=Jg s q;have h2:=Hr (Utf8.decode (bs s) q).1;rw[dQ];omega),(hB),Rq,hF⟩;omega;refine Ka (Ha (Ga (Ea (Ba (Za O) (Ba (Vx O O) (Da ?_))))));refine Jb O O (λhc3=>?_) (λhc3=>?_);refine Ea (Ba (Za O) ?_);refine Eb (N4 hB.bd (((Utf8.decode (bs s) q).1:Nat):Int) Aa (by have:=Lib.rune_le (bs s) q;omega) (by have h1:=ho.1;have h2:=ho.2;simp;omega)) (Xa en_258 O O O) ?_;rintro _ w ⟨rfl,hBd,hE⟩;have hF:=hF.wrote hB hE (by simp[Tl,nb2]);have hB:=hB.wrote hBd hE;have e1:o++Ai (((Utf8.decode (bs s) q).1:Nat):Int)=o++Zu (Utf8.decode (bs s) q).1:=by rw[Zu,if_neg (by simpa using hc2),if_pos Aa]
 rw[e1]at hB;clear hBd hE;refine Da (Bc (Yb O ?_));have h1:=Jg s q;refine Ta ⟨_,?_,q+(Utf8.decode (bs s) q).2,o++Zu (Utf8.decode (bs s) q).1,O,(by rw[sQ,<-Wp Aa];exact hq),(by have h1:=Jg s q;have h2:=Hr (Utf8.decode (bs s) q).1;rw[dQ];omega),(hB),Rq,hF⟩;omega;refine Ka (Ha (Ea (Ba (Za O) (Ia (v:=J ((((Utf8.decode (bs s) q).1:Nat):Int))) (Be yZ underlying2 O (Rh Aa Aa)) ?_))));refine Eb (hex_c _ (hG.ext hF.same) (Utf8.decode (bs s) q).1 Aa) (Xa en_259 O O O) ?_;rintro _ w ⟨rfl,hE⟩;have hF:=hF.ext hE;have hB:=hB.ext hE;refine Ba (He O) (Da (Ja (Ba (Ad O) (Ba (Sk kX O) (Ia (v:=J (((4-(Rn (Utf8.decode (bs s) q).1).length:Nat):Int))) (Tu O O (have:=Ko (Utf8.decode (bs s) q).1;Hg Aa Aa Aa)) ?_)))));refine Eb (IB ((4-(Rn (Utf8.decode (bs s) q).1).length:Nat):Int) Aa Aa _) (Xa UO O O O) ?_;rintro _ w ⟨rfl,hE⟩;have hF:=hF.ext hE;have hB:=hB.ext hE;refine Ia (v:=I (([92,117])++(Lib.repeatL [48] (4-(Rn (Utf8.decode (bs s) q).1).length)))) (Hi O O (by have:=Ko (Utf8.decode (bs s) q).1;simp[Ft];omega)) ?_;refine Ba (Ad O) ?_;refine Ia (v:=I ((([92,117])++(Lib.repeatL [48] (4-(Rn (Utf8.decode (bs s) q).1).length)))++(Rn (Utf8.decode (bs s) q).1))) (Hi O O (by have:=Ko (Utf8.decode (bs s) q).1;simp[Ft];omega)) ?_;refine Eb (Am hB.bd _ (by have:=Ko (Utf8.decode (bs s) q).1;have h1:=ho.1;have h2:=ho.2;simp[Ft];omega)) (Xa U6 O O O) ?_;rintro _ w ⟨rfl,hBd,hE⟩;have hF:=hF.wrote hB hE (by simp[Tl,nb2]);have hB:=hB.wrote hBd hE;have e1:o++((([92,117])++(Lib.repeatL [48] (4-(Rn (Utf8.decode (bs s) q).1).length)))++(Rn (Utf8.decode (bs s) q).1))=o++Zu (Utf8.decode (bs s) q).1:=by rw[Zu,if_neg (by simpa using hc2),if_neg Aa]
 rw[e1]at hB;clear hBd hE;refine Va (Ya ?_);have h1:=Jg s q;refine Ta ⟨_,?_,q+(Utf8.decode (bs s) q).2,o++Zu (Utf8.decode (bs s) q).1,O,(by rw[sQ,<-Wp Aa];exact hq),(by have h1:=Jg s q;have h2:=Hr (Utf8.decode (bs s) q).1;rw[dQ];omega),(hB),Rq,hF⟩;omega;refine It 0 (p:=q) (str:=s) hF O O hn0 (Ba (Ym O O) (Da (Ga (Zd O ?_))));refine Bc (Yb O ?_);refine Ha (Ea ?_);refine Eb (Dj hB.bd (34) Aa Aa (by have h1:=ho.1;have h2:=ho.2;simp;omega)) (Xa Qp O O O) ?_;rintro _ w ⟨rfl,hBd,hE⟩;have hF:=hF.wrote hB hE (by simp[Tl,nb2]);have hB:=hB.wrote hBd hE;clear hBd hE;refine Lb (Eb (W9 hB.bd Oa) (Ma RE O O) ?_);rintro _ w ⟨rfl,hE⟩;have hF:=hF.wrote hB hE (by simp[Tl,nb2]);refine Ba (He O) (Ba (Fb O) (Da ?_));refine Db (Cb (La (Oc (v:=I (o++[34])) (x:=J 0) O O O) ?_));refine⟨?_,hF.same⟩;rw[if_pos (by simpa using hc0),Py,<-hq,X2 Aa,qQ]
def Nh(m:Bool)(ind d:Nat):Str:=if m then [10]++Lib.repeatL [32] (ind*d) else []
def qS(t:Str):Str:=if Lib.validD t=true then Py t else []
theorem Ov(c:UInt8)(n:Nat):(Lib.repeatL [c] n).length=n:=by
  induction n with
  | zero=>rfl
  | succ n ih=>simp[Lib.repeatL,ih];try omega
theorem K0(m:Bool)(ind d:Nat):(Nh m ind d).length<=1+ind*d:=by unfold Nh;split <;> simp[Ov] <;> omega
theorem PE(s:Str)(p:Nat):(Rv s p).length<=6*(s.length-p):=by
  induction h:s.length-p using Nat.strongRecOn generalizing p with
  | ind n ih =>
    by_cases hp:p<s.length
    ·rw[Wp hp, dQ]
     have h1:=Hr (Utf8.decode (bs s) p).1;have h2:=Jg s p;have h3:=ih (s.length-(p+(Utf8.decode (bs s) p).2)) Aa (p+(Utf8.decode (bs s) p).2) rfl;omega
    rw[X2 hp];simp
theorem G2(s:Str):(qS s).length<=6*s.length+2:=by
  unfold qS;split
  ·have := PE s 0
   simp[Py];omega
  simp
theorem repeat_c(t:Str)(c:Nat)(h1:c<=9223372036854775807)(h2:t.length*c<=140737488355328)(w:World):Calls prog 254 #[I t,J (c:Int)] w (Yc λv w'=>v=I (Lib.repeatL t c)/\Same [] w w'):=by
  have h:=strings_Repeat (bs t) c w h1 (by rw[Ao];exact h2);exact Fx h
theorem quoted_c(t:Str)(hl:t.length<=17592186044416)(w0:World)(hG:Gl w0):Calls prog 225 #[I t] w0 (Yc λv w'=>v=.tuple #[I (qS t),J (if Lib.validD t=true then 0 else 2)]/\Same [] w0 w'):=by
  refine Cm (quote_c w0 hG t hl) λv w' ⟨h1,h2⟩=>⟨?_,h2⟩;rw[h1,qS];split <;> rfl
theorem Bd.mul{w:World}{B pb T:Nat}{m:Bool}{ind:Int}{s:Str}(h:Bd w B pb T [.bool m,J ind] s):w.cell? ⟨pb,2,none⟩=some (.bool m):=by
  obtain⟨ap,v,hh,-⟩:=h.ex;rw[Zc hh];rfl
theorem Bd.ind{w:World}{B pb T:Nat}{m:Bool}{ind:Int}{s:Str}(h:Bd w B pb T [.bool m,J ind] s):w.cell? ⟨pb,3,none⟩=some (J ind):=by
  obtain⟨ap,v,hh,-⟩:=h.ex;rw[Zc hh];rfl
theorem Gl.wrote{w0 w:World}{B pb:Nat}(h:Gl w0)(hs:Same (Wk w0 B pb) w0 w)(hb:8<=B)(hp:B<=pb):Gl w:=h.same hs λx hx=>by
  rcases Th.1 hx with rfl|⟨-,h1,-⟩ <;> omega
theorem AQ(w0:World)(B pb:Nat)(m:Bool)(ind:Nat)(s:Str)(hBd:Bd w0 B pb 125 [.bool m,J (ind:Int)] s)(d:Nat)(hd:ind*d<=1000000000)(hl:s.length+(Nh m ind d).length<=140737488355328):Gz 227 #[V pb,J (d:Int)] (.tuple #[]) w0 B pb 125 [.bool m,J (ind:Int)] (s++Nh m ind d):=by
 unfold Gz;refine Fa func227 O ntmps227 Ab (Uc _ _) ?_;have hB:=BW.start hBd;have hF:=FR.start w0 (Wk w0 B pb);refine Ea (Ba (Uh O) (Ba (Ek O) (Ba (Mb OK O) (Ia (v:=.bool (m)) (Nc dZ O hB.bd.mul) (Da ?_)))));refine Jd O O (λhc0=>?_) (λhc0=>?_);rw[Nh,if_pos hc0]at hl;simp only[dQ,kQ,List.length_nil,Ov]at hl;refine Ea (Ba (Uh O) (Ba (Ek O) (Ba (Mb Fk O) ?_)));refine Eb (Dj hB.bd 10 Ua Ua Aa) (Xa Qp O O O) ?_;rintro _ w ⟨rfl,hBd,hE⟩;have hF:=hF.wrote hB hE Oa;have hB:=hB.wrote hBd hE;clear hBd hE;refine Da (Md (.of []) (bQ [0,1,2,3,4,5,6,7,8] (.act 9 (.act 10 .nil))) hF ?_);intro w hF hE;have hB:=hB.ext hE;refine⟨λwq=>FR w0 (Wk w0 B pb) _ wq/\∃s',Bd wq B pb 125 [.bool m,J (ind:Int)] s',⟨hF,⟨_,hB.bd⟩⟩,?_⟩;refine Ib O (Uh O) (Ib O (Ek O) (Ib O (Mb Fk O) (Ib O (Uh O) (Ib O (Ek O) (Ib O (Mb fa_125_2 O) ?_)))));refine Sa rfl (v:=J ((ind:Int))) (λw hC=>Nc xQ rfl (by obtain⟨-,s_,hs_⟩:=hC;exact hs_.ind)) ?_;refine Ib O (Za O) (Sa O (v:=J (((ind*d:Nat):Int))) (λw hC=>Q1 O O (Hg (by rw[Int.natCast_mul]) Aa Aa)) ?_);refine Dd O (repeat_c [32] (ind*d) Aa (by simp;omega) _) (Xa UO O O O) ?_;rintro _ w ⟨rfl,hE⟩;have hF:=hF.ext hE;have hB:=hB.ext hE;refine⟨⟨hF,⟨_,hB.bd⟩⟩,?_⟩;refine Dd O (Am hB.bd (Lib.repeatL [32] (ind*d)) (by simp[Ov];omega)) (Xa U6 O O O) ?_;rintro _ w ⟨rfl,hBd,hE⟩;have hF:=hF.wrote hB hE Oa;have hB:=hB.wrote hBd hE;clear hBd hE;refine⟨⟨hF,⟨_,hB.bd⟩⟩,?_⟩;refine Ic (Kh (Ve (Zj O) ?_));exact⟨O,by simpa[Nh,hc0]using hB.bd,hF.same⟩;refine Ka (Kh (Ve (Zj O) ?_));exact⟨O,by simpa[Nh,hc0]using hB.bd,hF.same⟩
theorem YA(w0:World)(B pb:Nat)(m:Bool)(ind:Nat)(s:Str)(hBd:Bd w0 B pb 125 [.bool m,J (ind:Int)] s)(hG:Gl w0)(h8:8<=B)(t:Str)(ht:t.length<=17592186044416)(hl:s.length+(qS t).length<=140737488355328):Gz 164 #[V pb,I t] (.tuple #[]) w0 B pb 125 [.bool m,J (ind:Int)] (s++qS t):=by
 unfold Gz;refine Fa func164 O ntmps164 Ab (Uc _ _) ?_;have hB:=BW.start hBd;have hF:=FR.start w0 (Wk w0 B pb);refine Ea (Ba (Ad O) ?_);refine Eb (quoted_c t ht _ ((hG.wrote hF.same h8 hBd.le))) (Ma en_225 O O) ?_;rintro _ w ⟨rfl,hE⟩;have hF:=hF.ext hE;have hB:=hB.ext hE;refine Ba (Mj O) (Ba (Ly O O) (Ba (Rj O O) (Ba (He O) (Ba (Fb O) (Da (Ja (Ba (Uh O) (Ba (Ek O) (Ba (Mb Fk O) (Ba (Ad O) ?_))))))))));refine Eb (Am hB.bd (qS t) Aa) (Xa U6 O O O) ?_;rintro _ w ⟨rfl,hBd,hE⟩;have hF:=hF.wrote hB hE Oa;have hB:=hB.wrote hBd hE;clear hBd hE;refine Va (Kh (Ve (Zj O) ?_));exact⟨O,hB.bd,hF.same⟩
def Qi(m:Bool)(ind d:Nat):Bool->List Str->Str
  | _,[]=>[]
  | first,p::ps=>(if first then [] else [44])++(Nh m ind (d+1)++(p++Qi m ind d false ps))
def Im(m:Bool)(ind d:Nat)(o c:UInt8)(ps:List Str):Str:=[o]++(Qi m ind d true ps++((if ps=[] then [] else Nh m ind d)++[c]))
mutual
def Ag(m:Bool)(ind:Nat):Tree->Nat->Str
  | .node k t ks xs,d=>if k=1 then [110,117,108,108] else if k=4 then qS t else if k=5 then Im m ind d 91 93 (Br m ind xs (d+1)) else if k=6 then Im m ind d 123 125 (Em m ind xs ks (d+1)) else t
def Br(m:Bool)(ind:Nat):List Tree->Nat->List Str
  | [],_=>[]
  | x::xs,d=>Ag m ind x d::Br m ind xs d
def Em(m:Bool)(ind:Nat):List Tree->List Str->Nat->List Str
  | [],_,_=>[]
  | x::xs,ks,d=>(qS (ks.headD [])++([58]++((if m then [32] else [])++Ag m ind x d)))::Em m ind xs ks.tail d
end
theorem Lh:∀{xs:List Tree}{x:Tree},x∈xs->Vc x<=Od xs
  | y :: ys, x, h => by
    rw[Od];rcases oQ.1 h with rfl|h
    ·omega
    have:=Lh h;omega
theorem Lo(m:Bool)(ind d:Nat):∀xs,Br m ind xs d=xs.map (λx=>Ag m ind x d)
  | []=>by simp[Br]
  | x::xs=>by simp[Br,Lo m ind d xs]
def M_(m:Bool)(ind d:Nat)(k:Str)(x:Tree):Str:=qS k++([58]++((if m then [32] else [])++Ag m ind x d))
theorem Uo(m:Bool)(ind d:Nat):∀xs ks,(Em m ind xs ks d).length=xs.length
  | [],ks=>by simp[Em]
  | x::xs,ks=>by simp[Em,Uo m ind d xs ks.tail]
theorem U2(m:Bool)(ind d:Nat):∀(xs:List Tree)(ks:List Str)(j:Nat)(h:j<xs.length)(hk:j<ks.length)(h':j<(Em m ind xs ks d).length),(Em m ind xs ks d)[j]=M_ m ind d ks[j] xs[j]
  | x::xs,k::ks,0,_,_,_=>by simp[Em,M_]
  | x :: xs, k :: ks, j + 1, h, hk, h' => by
    simp only[Em,List.tail_cons,List.getElem_cons_succ];exact U2 m ind d xs ks j (by simpa using h) (by simpa using hk) (by simpa[Em]using h')
theorem MX(m:Bool)(ind d:Nat){ps:List Str}{j:Nat}(h:j<ps.length):Qi m ind d (decide (j=0)) (ps.drop j)=(if j=0 then [] else [44])++(Nh m ind (d+1)++(ps[j]++Qi m ind d (decide (j+1=0)) (ps.drop (j+1)))):=by
  rw[List.drop_eq_getElem_cons h,Qi];simp
mutual
def CT:Tree->Prop|.node _ t ks xs=>t.length<=17592186044416/\(∀k∈ks,k.length<=17592186044416)/\IP xs
def IP:List Tree->Prop|[]=>True|x::xs=>CT x/\IP xs
end
theorem E0:∀{xs:List Tree},IP xs->∀x∈xs,CT x
  | [],_,_,h=>absurd h Oa
  | y :: ys, h, x, hx => by
    rw[IP]at h;rcases oQ.1 hx with rfl|hx
    ·exact h.1
    exact E0 h.2 x hx
def ValC(x:Tree):Prop:=∀(m:Bool)(ind d:Nat)(w0:World)(B pb:Nat)(s:Str)(cs:List Value),Bd w0 B pb 125 [.bool m,J (ind:Int)] s->Gl w0->8<=B->Rep (λb=>b∉Wk w0 B pb) w0 (Ob x) cs->CT x->Me nodeB x=true ->
  ind*(d+Vc x)<=1000000000->d+Vc x<=1000000000->s.length+(Ag m ind x d).length<=140737488355328->Gz 105 #[V pb,.agg cs.toArray,J (d:Int)] (.tuple #[]) w0 B pb 125 [.bool m,J (ind:Int)] (s++Ag m ind x d)
def ItemC(f:Nat)(k:Int)(t:Str)(ks:List Str)(xs:List Tree)(m:Bool)(ind d:Nat)(ps:List Str):Prop:=∀(j:Nat)(hj:j<ps.length)(w0:World)(B pb:Nat)(s:Str)(A B':Option Addr)(c e:Nat),Bd w0 B pb 125 [.bool m,J (ind:Int)] s->Gl w0->8<=B ->
  Rep (λb=>b∉Wk w0 B pb) w0 (Ob (.node k t ks xs)) [J k,I t,.slice A ks.length c,.slice B' xs.length e]->s.length+ps[j].length<=140737488355328 ->
  Gz f #[V pb,.agg #[J k,I t,.slice A ks.length c,.slice B' xs.length e],J (j:Int),J (d:Int)] (.tuple #[]) w0 B pb 125 [.bool m,J (ind:Int)] (s++ps[j])
theorem item_c(k:Int)(t:Str)(ks:List Str)(xs:List Tree)(m:Bool)(ind d:Nat)(j:Nat)(hj:j<xs.length)(w0:World)(B pb:Nat)(s:Str)(A B_:Option Addr)(c e:Nat)(hBd:Bd w0 B pb 125 [.bool m,J (ind:Int)] s)(hG:Gl w0)(h8:8<=B)(hX:Rep (λb=>b∉Wk w0 B pb) w0 (Ob (.node k t ks xs)) [J k,I t,.slice A ks.length c,.slice B_ xs.length e])(hv:∀x∈xs,ValC x)(hok:CT (.node k t ks xs))(hn:Me nodeB (.node k t ks xs)=true)(hd:ind*(d+Od xs)<=1000000000)(hd2:d+Od xs<=1000000000)(hl:s.length+(Ag m ind xs[j] d).length<=140737488355328):Gz 166 #[V pb,.agg #[J k,I t,.slice A ks.length c,.slice B_ xs.length e],J (j:Int),J (d:Int)] (.tuple #[]) w0 B pb 125 [.bool m,J (ind:Int)] (s++Ag m ind xs[j] d):=by
 unfold Gz;rw[CT]at hok;refine Fa func166 O ntmps166 Ab (VC _ _ _ _) ?_;have hB:=BW.start hBd;have hF:=FR.start w0 (Wk w0 B pb);refine Ea (Ce hF O ?_);intro b1 w hb1 hF hE;have nb1:b1≠pb:=by have:=hB.lt;omega
 have hX:=hX.off_ext hB.lt hE;have hB:=hB.ext hE;refine Da (Ja (Ba (Uh O) (Ba (Mb Tb O) (Xb (Ie zQ O hF.F 0 O O) (Ba (Za O) ?_)))));obtain⟨A_,c_,B__,e_,heq_,-,-,hK_,hXs_⟩:=hX.tree_inv;simp only[List.cons.injEq,Value.slice.injEq,true_and,and_true]at heq_;obtain⟨⟨rfl,rfl⟩,rfl,rfl⟩:=heq_;obtain⟨ad0,cs0,hA0,hl0,hk0,hx0⟩:=hXs_.tree_elem (i:=j) Aa;have ho0:=hx0.one_;refine Ia (v:=.pointer (some (ad0.add (j*4)))) (Na (i:=(j:Int)) Wf O hA0 O Aa Aa) (Ia (v:=.agg (List.toArray cs0)) (Wa (l:=cs0) aZ nZ O hl0 hk0) (Ba (Za O) ?_));refine Eb (hv xs[j] (eQ hj) m ind d _ B pb s _ hB.bd (hG.wrote hF.same h8 hBd.le) h8 hx0 (E0 hok.2.2 _ (eQ hj)) ((Bh hn).2 _ (eQ hj)) (by have h1:=Lh (eQ hj);exact fQ (Nat.mul_le_mul_left ind Aa) hd) (by have h1:=Lh (eQ hj);omega) hl) (Af YF O O O O) ?_;rintro _ w ⟨rfl,hBd2,hE⟩;have hF:=hF.wrote hB hE (by simp[Tl,nb1]);have hX:=hX.off hE;have hB:=hB.wrote hBd2 hE;clear hBd2 hE;refine Va (Kh (Ve (Zj O) ?_));exact⟨O,hB.bd,hF.same⟩
theorem member_c(k:Int)(t:Str)(ks:List Str)(xs:List Tree)(m:Bool)(ind d:Nat)(j:Nat)(hj:j<xs.length)(hjk:j<ks.length)(w0:World)(B pb:Nat)(s:Str)(A B_:Option Addr)(c e:Nat)(hBd:Bd w0 B pb 125 [.bool m,J (ind:Int)] s)(hG:Gl w0)(h8:8<=B)(hX:Rep (λb=>b∉Wk w0 B pb) w0 (Ob (.node k t ks xs)) [J k,I t,.slice A ks.length c,.slice B_ xs.length e])(hv:∀x∈xs,ValC x)(hok:CT (.node k t ks xs))(hn:Me nodeB (.node k t ks xs)=true)(hd:ind*(d+Od xs)<=1000000000)(hd2:d+Od xs<=1000000000)(hl:s.length+(M_ m ind d ks[j] xs[j]).length<=140737488355328):Gz 167 #[V pb,.agg #[J k,I t,.slice A ks.length c,.slice B_ xs.length e],J (j:Int),J (d:Int)] (.tuple #[]) w0 B pb 125 [.bool m,J (ind:Int)] (s++M_ m ind d ks[j] xs[j]):=by
 unfold Gz;rw[CT]at hok;rw[M_]at hl;simp only[dQ,kQ,List.length_nil]at hl;refine Fa func167 O ntmps167 Ab (VC _ _ _ _) ?_;have hB:=BW.start hBd;have hF:=FR.start w0 (Wk w0 B pb);refine Ea (Ce hF O ?_);intro b1 w hb1 hF hE;have nb1:b1≠pb:=by have:=hB.lt;omega
 have hX:=hX.off_ext hB.lt hE;have hB:=hB.ext hE;refine Lb (Ba (Uh O) (Ba (Mb Tc O) (Xb (Ie yQ O hF.F 0 O O) (Ba (Za O) ?_))));obtain⟨A_,c_,B__,e_,heq_,-,-,hK_,hXs_⟩:=hX.tree_inv;simp only[List.cons.injEq,Value.slice.injEq,true_and,and_true]at heq_;obtain⟨⟨rfl,rfl⟩,rfl,rfl⟩:=heq_;obtain⟨ad0,hA0,hk0,hx0⟩:=hK_.str_elem (i:=j) Aa;refine Ia (v:=.pointer (some (ad0.add (j*1)))) (Na (i:=(j:Int)) Pk O hA0 O Aa Aa) (Ia (v:=I (ks[j])) (Nc iZ O hk0) ?_);refine Eb (YA _ B pb m ind s hB.bd (hG.wrote hF.same h8 hBd.le) h8 ks[j] (hok.2.1 _ (eQ hjk)) Aa) (Xa en_164 O O O) ?_;rintro _ w ⟨rfl,hBd2,hE⟩;have hF:=hF.wrote hB hE (by simp[Tl,nb1]);have hX:=hX.off hE;have hB:=hB.wrote hBd2 hE;clear hBd2 hE;refine Lb (Ba (Uh O) (Ba (Ek O) (Ba (Mb Fk O) ?_)));refine Eb (Dj hB.bd 58 Ua Ua (by rw[dQ];omega)) (Xa Qp O O O) ?_;rintro _ w ⟨rfl,hBd2,hE⟩;have hF:=hF.wrote hB hE (by simp[Tl,nb1]);have hX:=hX.off hE;have hB:=hB.wrote hBd2 hE;clear hBd2 hE;refine Da (Ga (Ea (Ba (Uh O) (Ba (Ek O) (Ba (Mb OK O) (Ia (v:=.bool (m)) (Nc dZ O hB.bd.mul) (Da ?_)))))));refine Jd O O (λhc0=>?_) (λhc0=>?_);refine Ja (Ba (Uh O) (Ba (Ek O) (Ba (Mb Fk O) ?_)));refine Eb (Dj hB.bd 32 Ua Ua (by simp only[dQ,kQ,List.length_nil];(first|rw[if_pos hc0]at hl|rw[if_neg (by simp[hc0])]at hl);simp only[kQ,List.length_nil]at hl;omega)) (Xa Qp rfl rfl rfl) ?_;rintro _ w ⟨rfl,hBd2,hE⟩;have hF:=hF.wrote hB hE (by simp[Tl,nb1]);have hX:=hX.off hE;have hB:=hB.wrote hBd2 hE;clear hBd2 hE;refine Da (Ja (Ba (Uh O) (Ba (Mb Tb O) (Xb (Ie zQ O hF.F 0 O O) (Ba (Za O) ?_)))));obtain⟨A_,c_,B__,e_,heq_,-,-,hK_,hXs_⟩:=hX.tree_inv;simp only[List.cons.injEq,Value.slice.injEq,true_and,and_true]at heq_;obtain⟨⟨rfl,rfl⟩,rfl,rfl⟩:=heq_;obtain⟨ad1,cs1,hA1,hl1,hk1,hx1⟩:=hXs_.tree_elem (i:=j) Aa
 have ho1:=hx1.one_;refine Ia (v:=.pointer (some (ad1.add (j*4)))) (Na (i:=(j:Int)) Wf O hA1 O Aa Aa) (Ia (v:=.agg (List.toArray cs1)) (Wa (l:=cs1) aZ nZ O hl1 hk1) (Ba (Za O) ?_));refine Eb (hv xs[j] (eQ hj) m ind d _ B pb _ _ hB.bd (hG.wrote hF.same h8 hBd.le) h8 hx1 (E0 hok.2.2 _ (eQ hj)) ((Bh hn).2 _ (eQ hj)) (by have h1:=Lh (eQ hj);exact fQ (Nat.mul_le_mul_left ind Aa) hd) (by have h1:=Lh (eQ hj);omega) (by simp only[dQ,kQ,List.length_nil];(first|rw[if_pos hc0]at hl|rw[if_neg (by simp[hc0])]at hl);simp only[kQ,List.length_nil]at hl;omega)) (Af YF rfl rfl rfl rfl) ?_;rintro _ w ⟨rfl,hBd2,hE⟩;have hF:=hF.wrote hB hE (by simp[Tl,nb1]);have hX:=hX.off hE;have hB:=hB.wrote hBd2 hE;clear hBd2 hE;refine Va (Kh (Ve (Zj O) ?_));exact⟨O,by simpa[M_,hc0]using hB.bd,hF.same⟩;refine Ka (Ha (Ja (Ba (Uh O) (Ba (Mb Tb O) (Xb (Ie zQ O hF.F 0 O O) (Ba (Za O) ?_))))));obtain⟨A_,c_,B__,e_,heq_,-,-,hK_,hXs_⟩:=hX.tree_inv;simp only[List.cons.injEq,Value.slice.injEq,true_and,and_true]at heq_;obtain⟨⟨rfl,rfl⟩,rfl,rfl⟩:=heq_;obtain⟨ad2,cs2,hA2,hl2,hk2,hx2⟩:=hXs_.tree_elem (i:=j) Aa;have ho2:=hx2.one_;refine Ia (v:=.pointer (some (ad2.add (j*4)))) (Na (i:=(j:Int)) Wf O hA2 O Aa Aa) (Ia (v:=.agg (List.toArray cs2)) (Wa (l:=cs2) aZ nZ O hl2 hk2) (Ba (Za O) ?_));refine Eb (hv xs[j] (eQ hj) m ind d _ B pb _ _ hB.bd (hG.wrote hF.same h8 hBd.le) h8 hx2 (E0 hok.2.2 _ (eQ hj)) ((Bh hn).2 _ (eQ hj)) (by have h1:=Lh (eQ hj);exact fQ (Nat.mul_le_mul_left ind Aa) hd) (by have h1:=Lh (eQ hj);omega) (by simp only[dQ,kQ,List.length_nil];(first|rw[if_pos hc0]at hl|rw[if_neg (by simp[hc0])]at hl);simp only[kQ,List.length_nil]at hl;omega)) (Af YF rfl rfl rfl rfl) ?_;rintro _ w ⟨rfl,hBd2,hE⟩;have hF:=hF.wrote hB hE (by simp[Tl,nb1]);have hX:=hX.off hE
 have hB:=hB.wrote hBd2 hE;clear hBd2 hE;refine Va (Kh (Ve (Zj O) ?_));exact⟨O,by simpa[M_,hc0]using hB.bd,hF.same⟩
theorem OV(m:Bool)(ind d:Nat)(b:Bool):Qi m ind d b []=[]:=by cases b <;> rfl
theorem qQq(f:Nat)(hen:Ra prog f)(k:Int)(t:Str)(ks:List Str)(xs:List Tree)(m:Bool)(ind d:Nat)(bo bc:UInt8)(ps:List Str)(hps:ps.length=xs.length)(hI:ItemC f k t ks xs m ind (d+1) ps)(w0:World)(B pb:Nat)(s:Str)(A B_:Option Addr)(c e:Nat)(hBd:Bd w0 B pb 125 [.bool m,J (ind:Int)] s)(hG:Gl w0)(h8:8<=B)(hX:Rep (λb=>b∉Wk w0 B pb) w0 (Ob (.node k t ks xs)) [J k,I t,.slice A ks.length c,.slice B_ xs.length e])(hd1:ind*(d+1)<=1000000000)(hd2:d+1<=1000000000)(hxl:xs.length<=9223372036854775807)(hlim:s.length+(Im m ind d bo bc ps).length<=140737488355328):Gz 165 #[V pb,.agg #[J k,I t,.slice A ks.length c,.slice B_ xs.length e],J (d:Int),I [bo,bc],.func (.func f) #[V pb] #[]] (.tuple #[]) w0 B pb 125 [.bool m,J (ind:Int)] (s++Im m ind d bo bc ps):=by
 unfold Gz;rw[Im]at hlim;simp only[dQ,kQ,List.length_nil]at hlim;refine Fa func165 O ntmps165 Ab (AP _ _ _ _ _) ?_;have hB:=BW.start hBd;have hF:=FR.start w0 (Wk w0 B pb);refine Ea (Ce hF O ?_);intro b1 w hb1 hF hE;have nb1:b1≠pb:=by have:=hB.lt;omega
 have hX:=hX.off_ext hB.lt hE;have hB:=hB.ext hE;refine Da (Ga ?_);refine Md (.of []) (bQ [0,1,2,3,4] (.act 5 .nil)) hF ?_;intro w hF hE;have hX:=hX.off_ext hB.lt hE;have hB:=hB.ext hE;refine⟨λwq=>FR w0 (Wk w0 B pb) _ wq,hF,?_⟩;refine Ib O (Uh O) (Ib O (Ek O) (Ib O (Mb Fk O) (Ib O (Ad O) ?_)));refine Sa O (v:=.int .u8 (((bo.toNat:Nat):Int))) (λw hC=>Td (s:=[bo,bc]) 0 kX O O Oa) (Dd O (Lr hB.bd bo Aa) (Xa Qp O O O) ?_);rintro _ w ⟨rfl,hBd2,hE⟩;have hF:=hF.wrote hB hE (by simp[Tl,nb1]);have hX:=hX.off hE;have hB:=hB.wrote hBd2 hE;clear hBd2 hE;refine⟨hF,?_⟩;refine Ic (Ha (Ga (Ea (Ba (Mb Tb O) (Xb (Ie zQ O hF.F 0 O O) (Ba (Nf dX O) (Ba (Za O) (Da (Qa ?_)))))))));refine Fc (λμ σ w=>∃(j:Nat),∃(o:Str),μ=xs.length-j/\(j<=xs.length)/\(o++Qi m ind d (decide (j=0)) (ps.drop j)=s++([bo]++Qi m ind d true ps))/\(BW w0 (Wk w0 B pb) w B pb 125 [.bool m,J (ind:Int)] (o))/\(Rep (λb=>b∉Wk w B pb) w (Ob (.node k t ks xs)) [J k,I t,.slice A ks.length c,.slice B_ xs.length e])/\AllEq σ [(0,V pb),(2,J ((d:Int))),(3,I ([bo,bc])),(4,.func (.func f) #[V pb] #[]),(6,V b1),(19,J ((xs.length:Nat))),(20,J ((j:Int)))]/\FR w0 (Wk w0 B pb) [(b1,.cells #[J k,I t,.slice A ks.length c,.slice B_ xs.length e] 36)] w) _ ⟨0,s++[bo],O,(Nat.zero_le _),Oa,(hB),(hX),WB,hF⟩ ?_;rintro μ σ w ⟨j,o,rfl,hj,hq,hB,hX,hs,hF⟩;refine Cg.slots hs ?_;clear hs;intro σ;refine Ea (Ba (Pg O O) (Da (Ga ?_)));refine Jb O O (λhc0=>?_) (λhc0=>?_);have hjp:j<ps.length:=by omega
 have hjd:=MX m ind d hjp;have hL:=congrArg List.length hq;rw[hjd]at hL;have hif:(if j=0 then ([]:Str) else [44]).length=if j=0 then 0 else 1:=by split <;> rfl
 simp only[dQ,kQ,List.length_nil,hif]at hL;refine Ka (Ha (Ga (Qa (Ea (Ba (Za O) (Ba (Fb O) (Da (Ga (Ea (Ba (Za O) ?_))))))))));refine Ba (Mo O O) (Da ?_);refine Jb O O (λhc1=>?_) (λhc1=>?_);refine Ja (Ba (Uh O) (Ba (Ek O) (Ba (Mb Fk O) ?_)));refine Eb (Dj hB.bd 44 Ua Ua (by rw[if_neg Aa]at hL;omega)) (Xa Qp O O O) ?_;rintro _ w ⟨rfl,hBd2,hE⟩;have hF:=hF.wrote hB hE (by simp[Tl,nb1]);have hX:=hX.off hE;have hB:=hB.wrote hBd2 hE;clear hBd2 hE;refine Lb (Ba (Uh O) (Ba (Za O) (Ba (Bi (((d+1:Nat):Int)) O O) ?_)));refine Eb (AQ _ B pb m ind _ hB.bd (d+1) hd1 (by (try simp only[dQ,kQ,List.length_nil]);first|(rw[if_neg Aa]at hL;omega)|(rw[if_pos Aa]at hL;omega))) (Xa OP rfl rfl rfl) ?_;rintro _ w ⟨rfl,hBd2,hE⟩;have hF:=hF.wrote hB hE (by simp[Tl,nb1]);have hX:=hX.off hE;have hB:=hB.wrote hBd2 hE;clear hBd2 hE;refine Da (Ja (Ba (Pu) (Xb (Bf aZ nZ O hF.F 0 O O) (Ba (Za O) (Ba (Za O) (Ba (Bi (((d+1:Nat):Int)) O O) ?_))))));refine Eb (hI j hjp _ B pb _ A B_ c e hB.bd (hG.wrote hF.same h8 hBd.le) h8 hX (by (try simp only[dQ,kQ,List.length_nil]);first|(rw[if_neg Aa]at hL;omega)|(rw[if_pos Aa]at hL;omega))) (WH rfl hen rfl rfl rfl rfl) ?_;rintro _ w ⟨rfl,hBd2,hE⟩;have hF:=hF.wrote hB hE (by simp[Tl,nb1]);have hX:=hX.off hE;have hB:=hB.wrote hBd2 hE;clear hBd2 hE;have hB:BW w0 (Wk w0 B pb) w B pb 125 [.bool m,J (ind:Int)] (o++((if j=0 then [] else [44])++(Nh m ind (d+1)++ps[j]))):=by first|(have h0:¬j=0:=Aa;rw[if_neg h0];simpa using hB)|(have h0:j=0:=Aa;rw[if_pos h0];simpa using hB)
 refine Va (Ya (Ha (Ja (Ba (Cl O O) (Ba (Za O) (Va ?_))))));refine Ta ⟨_,?_,j+1,o++((if j=0 then [] else [44])++(Nh m ind (d+1)++ps[j])),O,Aa,(by have h:=hq;rw[hjd]at h;simpa[sQ]using h),(hB),(hX),WB,hF⟩;omega;refine Ka (Ha (Ea (Ba (Uh O) (Ba (Za O) (Ba (Bi (((d+1:Nat):Int)) O O) ?_)))));refine Eb (AQ _ B pb m ind _ hB.bd (d+1) hd1 (by (try simp only[dQ,kQ,List.length_nil]);first|(rw[if_neg Aa]at hL;omega)|(rw[if_pos Aa]at hL;omega))) (Xa OP rfl rfl rfl) ?_;rintro _ w ⟨rfl,hBd2,hE⟩;have hF:=hF.wrote hB hE (by simp[Tl,nb1]);have hX:=hX.off hE;have hB:=hB.wrote hBd2 hE;clear hBd2 hE;refine Da (Ja (Ba (Pu) (Xb (Bf aZ nZ O hF.F 0 O O) (Ba (Za O) (Ba (Za O) (Ba (Bi (((d+1:Nat):Int)) O O) ?_))))));refine Eb (hI j hjp _ B pb _ A B_ c e hB.bd (hG.wrote hF.same h8 hBd.le) h8 hX (by (try simp only[dQ,kQ,List.length_nil]);first|(rw[if_neg Aa]at hL;omega)|(rw[if_pos Aa]at hL;omega))) (WH rfl hen rfl rfl rfl rfl) ?_;rintro _ w ⟨rfl,hBd2,hE⟩;have hF:=hF.wrote hB hE (by simp[Tl,nb1]);have hX:=hX.off hE;have hB:=hB.wrote hBd2 hE;clear hBd2 hE;have hB:BW w0 (Wk w0 B pb) w B pb 125 [.bool m,J (ind:Int)] (o++((if j=0 then [] else [44])++(Nh m ind (d+1)++ps[j]))):=by first|(have h0:¬j=0:=Aa;rw[if_neg h0];simpa using hB)|(have h0:j=0:=Aa;rw[if_pos h0];simpa using hB)
 refine Va (Ya (Ha (Ja (Ba (Cl O O) (Ba (Za O) (Va ?_))))));refine Ta ⟨_,?_,j+1,o++((if j=0 then [] else [44])++(Nh m ind (d+1)++ps[j])),O,Aa,(by have h:=hq;rw[hjd]at h;simpa[sQ]using h),(hB),(hX),WB,hF⟩;omega;have hq2:o=s++([bo]++Qi m ind d true ps):=by have h:=hq;rw[List.drop_eq_nil_of_le Aa,OV,qQ]at h;exact h
 refine Bc (Yb O ?_);refine Ha (Ga (Ea (Ba (Mb Tb O) (Xb (Ie zQ O hF.F 0 O O) (Ba (Nf dX O) (Ba (Mo O O) (Da ?_)))))));refine Jb O O (λhc2=>?_) (λhc2=>?_);have hpn:ps≠[]:=by intro hp;rw[hp]at hps;simp at hps;omega
 refine Ja (Ba (Uh O) (Ba (Za O) ?_));refine Eb (AQ _ B pb m ind _ hB.bd d (fQ (Nat.mul_le_mul_left ind Aa) hd1) (by have hp:ps≠[]:=(by intro hp;rw[hp]at hps;simp at hps;omega);rw[if_neg hp]at hlim;rw[hq2];(try simp only[dQ,kQ,List.length_nil]);omega)) (Xa OP rfl rfl rfl) ?_;rintro _ w ⟨rfl,hBd2,hE⟩;have hF:=hF.wrote hB hE (by simp[Tl,nb1]);have hX:=hX.off hE;have hB:=hB.wrote hBd2 hE;clear hBd2 hE;refine Da (Md (.of []) (bQ [0,1,2,3,4] (.act 5 .nil)) hF ?_);intro w hF hE;have hX:=hX.off_ext hB.lt hE;have hB:=hB.ext hE;refine⟨λwq=>FR w0 (Wk w0 B pb) _ wq,hF,?_⟩;refine Ib O (Uh O) (Ib O (Ek O) (Ib O (Mb Fk O) (Ib O (Ad O) ?_)));refine Sa O (v:=.int .u8 (((bc.toNat:Nat):Int))) (λw hC=>Td (s:=[bo,bc]) 1 kX O O Oa) ?_;refine Dd rfl (Lr hB.bd bc (by rw[hq2];(try simp only[dQ,kQ,List.length_nil]);first|(rw[if_neg hpn]at hlim;omega)|omega)) (Xa Qp rfl rfl rfl) ?_;rintro _ w ⟨rfl,hBd2,hE⟩;have hF:=hF.wrote hB hE (by simp[Tl,nb1]);have hX:=hX.off hE;have hB:=hB.wrote hBd2 hE;clear hBd2 hE;refine⟨hF,?_⟩;refine Ic (Kh (Ve (Zj O) ?_));refine⟨O,?_,hF.same⟩;have hb:=hB.bd;rw[hq2]at hb;rw[Im,if_neg hpn];simpa[sQ]using hb;have hpz:ps=[]:=List.eq_nil_of_length_eq_zero Aa;refine Ka (Ha ?_);refine Md (.of []) (bQ [0,1,2,3,4] (.act 5 .nil)) hF ?_;intro w hF hE;have hX:=hX.off_ext hB.lt hE;have hB:=hB.ext hE;refine⟨λwq=>FR w0 (Wk w0 B pb) _ wq,hF,?_⟩;refine Ib O (Uh O) (Ib O (Ek O) (Ib O (Mb Fk O) (Ib O (Ad O) ?_)));refine Sa O (v:=.int .u8 (((bc.toNat:Nat):Int))) (λw hC=>Td (s:=[bo,bc]) 1 kX O O Oa) ?_;refine Dd rfl (Lr hB.bd bc (by rw[hq2];(try simp only[dQ,kQ,List.length_nil]);first|(rw[if_neg hpn]at hlim;omega)|omega)) (Xa Qp rfl rfl rfl) ?_;rintro _ w ⟨rfl,hBd2,hE⟩;have hF:=hF.wrote hB hE (by simp[Tl,nb1])
 have hX:=hX.off hE;have hB:=hB.wrote hBd2 hE;clear hBd2 hE;refine⟨hF,?_⟩;refine Ic (Kh (Ve (Zj O) ?_));refine⟨O,?_,hF.same⟩;have hb:=hB.bd;rw[hq2]at hb;rw[Im,if_pos hpz];simpa[sQ]using hb
theorem MN(k:Int)(t:Str)(ks:List Str)(xs:List Tree)(ih:∀x∈xs,ValC x)(m:Bool)(ind d:Nat)(w0:World)(B pb:Nat)(s:Str)(A B_:Option Addr)(c e:Nat)(hBd:Bd w0 B pb 125 [.bool m,J (ind:Int)] s)(hG:Gl w0)(h8:8<=B)(hX:Rep (λb=>b∉Wk w0 B pb) w0 (Ob (.node k t ks xs)) [J k,I t,.slice A ks.length c,.slice B_ xs.length e])(hok:CT (.node k t ks xs))(hn:Me nodeB (.node k t ks xs)=true)(hd:ind*(d+Vc (.node k t ks xs))<=1000000000)(hd2:d+Vc (.node k t ks xs)<=1000000000)(hxl:xs.length<=9223372036854775807)(hl:s.length+(Ag m ind (.node k t ks xs) d).length<=140737488355328):Gz 105 #[V pb,.agg #[J k,I t,.slice A ks.length c,.slice B_ xs.length e],J (d:Int)] (.tuple #[]) w0 B pb 125 [.bool m,J (ind:Int)] (s++Ag m ind (.node k t ks xs) d):=by
 unfold Gz;refine Fa func105 O ntmps105 Ab (Ik _ _ _) ?_;have hB:=BW.start hBd;have hF:=FR.start w0 (Wk w0 B pb);refine Ea (Ce hF O ?_);intro b1 w hb1 hF hE;have nb1:b1≠pb:=by have:=hB.lt;omega
 have hX:=hX.off_ext hB.lt hE;have hB:=hB.ext hE;refine Lb (Ba (Mb Xc O) (Xb (Zg xQ O hF.F 0 O O) (Da (Qa (Ea (Ba (Of O O) (Ba (Kb O) (Va ?_))))))));refine Ha (Jb O O (λhc0=>?_) (λhc0=>?_));refine Ja (Ba (Uh O) (Ba (Ek O) (Ba (Mb Fk O) ?_)));have hkk_:k=1:=by omega
 refine Eb (Am hB.bd [110,117,108,108] (by rw[Ag,if_pos hkk_]at hl;exact hl)) (Xa U6 O O O) ?_;rintro _ w ⟨rfl,hBd2,hE⟩;have hF:=hF.wrote hB hE (by simp[Tl,nb1]);have hX:=hX.off hE;have hB:=hB.wrote hBd2 hE;clear hBd2 hE;refine Va (Ya ?_);refine Kh (Ve (Zj O) ?_);refine⟨O,?_,hF.same⟩;rw[Ag]
 first|(rw[if_pos hkk_];exact hB.bd)|(rw[if_neg Aa,if_pos hkk_];exact hB.bd)|(rw[if_neg Aa,if_neg Aa,if_pos hkk_];exact hB.bd)|(rw[if_neg Aa,if_neg Aa,if_neg Aa,if_pos hkk_];exact hB.bd)|(rw[if_neg Aa,if_neg Aa,if_neg Aa,if_neg Aa];exact hB.bd)
 refine Ea (Ba (Of O O) (Ba (Kb O) (Da ?_)));refine Jb O O (λhc1=>?_) (λhc1=>?_);refine Ja (Ba (Uh O) (Ba (Mb Id O) (Xb (Ej iZ O hF.F 0 O O) ?_)));have hkk_:k=4:=by omega
 refine Eb (YA _ B pb m ind s hB.bd (hG.wrote hF.same h8 hBd.le) h8 t (by rw[CT]at hok;exact hok.1) (by rw[Ag,if_neg Aa,if_pos hkk_]at hl;exact hl)) (Xa en_164 O O O) ?_;rintro _ w ⟨rfl,hBd2,hE⟩;have hF:=hF.wrote hB hE (by simp[Tl,nb1]);have hX:=hX.off hE;have hB:=hB.wrote hBd2 hE;clear hBd2 hE;refine Va (Ya ?_);refine Kh (Ve (Zj O) ?_);refine⟨O,?_,hF.same⟩;rw[Ag]
 first|(rw[if_pos hkk_];exact hB.bd)|(rw[if_neg Aa,if_pos hkk_];exact hB.bd)|(rw[if_neg Aa,if_neg Aa,if_pos hkk_];exact hB.bd)|(rw[if_neg Aa,if_neg Aa,if_neg Aa,if_pos hkk_];exact hB.bd)|(rw[if_neg Aa,if_neg Aa,if_neg Aa,if_neg Aa];exact hB.bd)
 refine Ea (Ba (Of O O) (Ba (Kb O) (Da ?_)));refine Jb O O (λhc2=>?_) (λhc2=>?_);refine Ja (Ba (Uh O) (Xb (Bf aZ nZ O hF.F 0 O O) (Ba (Za O) (Ba (Uh O) (Ia (v:=.func (.func 166) #[V pb] #[]) (Ys O) ?_)))));have hkk_:k=5:=by omega
 refine Eb (qQq 166 en_166 k t ks xs m ind d 91 93 (Br m ind xs (d+1)) (by rw[Lo,rQ]) (λj hj w1 B1 p1 s1 A1 B1_ c1 e1 hb1_ hg1 h81 hx1 hl1=>by have hj2:j<xs.length:=(by rw[Lo,rQ]at hj;exact hj);have hg:(Br m ind xs (d+1))[j]=Ag m ind xs[j] (d+1):=(by simp only[Lo,List.getElem_map]);rw[hg]at hl1 ⊢;exact item_c k t ks xs m ind (d+1) j hj2 w1 B1 p1 s1 A1 B1_ c1 e1 hb1_ hg1 h81 hx1 ih hok hn (by rw[Vc]at hd;exact fQ (Nat.mul_le_mul_left ind Aa) hd) (by rw[Vc]at hd2;omega) hl1) _ B pb s A B_ c e hB.bd (hG.wrote hF.same h8 hBd.le) h8 hX (by have h1:=hd;rw[Vc]at h1;exact fQ (Nat.mul_le_mul_left ind Aa) h1) (by rw[Vc]at hd2;omega) hxl (by rw[Ag]at hl;simpa[hkk_]using hl)) (I6 en_165 O O O O O O) ?_;rintro _ w ⟨rfl,hBd2,hE⟩;have hF:=hF.wrote hB hE (by simp[Tl,nb1]);have hX:=hX.off hE;have hB:=hB.wrote hBd2 hE;clear hBd2 hE;refine Va (Ya ?_);refine Kh (Ve (Zj O) ?_);refine⟨O,?_,hF.same⟩;rw[Ag]
 first|(rw[if_pos hkk_];exact hB.bd)|(rw[if_neg Aa,if_pos hkk_];exact hB.bd)|(rw[if_neg Aa,if_neg Aa,if_pos hkk_];exact hB.bd)|(rw[if_neg Aa,if_neg Aa,if_neg Aa,if_pos hkk_];exact hB.bd)|(rw[if_neg Aa,if_neg Aa,if_neg Aa,if_neg Aa];exact hB.bd)
 refine Ea (Ba (Of O O) (Ba (Kb O) (Da ?_)));refine Jb O O (λhc3=>?_) (λhc3=>?_);refine Ja (Ba (Uh O) (Xb (Bf aZ nZ O hF.F 0 O O) (Ba (Za O) (Ba (Uh O) (Ia (v:=.func (.func 167) #[V pb] #[]) (Ys O) ?_)))));have hkk_:k=6:=by omega
 have hkl:ks.length=xs.length:=(Wv (hkk_▸(Bh hn).1)).2;refine Eb (qQq 167 en_167 k t ks xs m ind d 123 125 (Em m ind xs ks (d+1)) (by rw[Uo]) (λj hj w1 B1 p1 s1 A1 B1_ c1 e1 hb1_ hg1 h81 hx1 hl1=>by have hj2:j<xs.length:=(by rw[Uo]at hj;exact hj);have hg:=U2 m ind (d+1) xs ks j hj2 Aa hj;rw[hg]at hl1 ⊢;exact member_c k t ks xs m ind (d+1) j hj2 Aa w1 B1 p1 s1 A1 B1_ c1 e1 hb1_ hg1 h81 hx1 ih hok hn (by rw[Vc]at hd;exact fQ (Nat.mul_le_mul_left ind Aa) hd) (by rw[Vc]at hd2;omega) hl1) _ B pb s A B_ c e hB.bd (hG.wrote hF.same h8 hBd.le) h8 hX (by have h1:=hd;rw[Vc]at h1;exact fQ (Nat.mul_le_mul_left ind Aa) h1) (by rw[Vc]at hd2;omega) hxl (by rw[Ag]at hl;simpa[hkk_]using hl)) (I6 en_165 O O O O O O) ?_;rintro _ w ⟨rfl,hBd2,hE⟩;have hF:=hF.wrote hB hE (by simp[Tl,nb1]);have hX:=hX.off hE;have hB:=hB.wrote hBd2 hE;clear hBd2 hE;refine Va (Ya ?_);refine Kh (Ve (Zj O) ?_);refine⟨O,?_,hF.same⟩;rw[Ag]
 first|(rw[if_pos hkk_];exact hB.bd)|(rw[if_neg Aa,if_pos hkk_];exact hB.bd)|(rw[if_neg Aa,if_neg Aa,if_pos hkk_];exact hB.bd)|(rw[if_neg Aa,if_neg Aa,if_neg Aa,if_pos hkk_];exact hB.bd)|(rw[if_neg Aa,if_neg Aa,if_neg Aa,if_neg Aa];exact hB.bd)
 refine Md (.of []) (bQ [0,1,2,3,4] (.act 5 .nil)) hF ?_;intro w hF hE;have hX:=hX.off_ext hB.lt hE;have hB:=hB.ext hE;refine⟨λwq=>FR w0 (Wk w0 B pb) _ wq,hF,?_⟩;refine Ib O (Uh O) (Ib O (Ek O) (Ib O (Mb Fk O) (Ib O (Mb Id O) (Ng O (Ej iZ O C0 0 O O) ?_))));refine Dd O (Am hB.bd t (by rw[Ag,if_neg Aa,if_neg Aa,if_neg Aa,if_neg Aa]at hl;exact hl)) (Xa U6 O O O) ?_;rintro _ w ⟨rfl,hBd2,hE⟩;have hF:=hF.wrote hB hE (by simp[Tl,nb1]);have hX:=hX.off hE;have hB:=hB.wrote hBd2 hE;clear hBd2 hE;refine⟨hF,?_⟩;refine Ic (Ya ?_);refine Kh (Ve (Zj O) ?_);refine⟨O,?_,hF.same⟩;rw[Ag]
 first|(rw[if_pos hkk_];exact hB.bd)|(rw[if_neg Aa,if_pos hkk_];exact hB.bd)|(rw[if_neg Aa,if_neg Aa,if_pos hkk_];exact hB.bd)|(rw[if_neg Aa,if_neg Aa,if_neg Aa,if_pos hkk_];exact hB.bd)|(rw[if_neg Aa,if_neg Aa,if_neg Aa,if_neg Aa];exact hB.bd)
theorem value_c(x:Tree):ValC x:=Tree.ind (Q:=ValC) (λk t ks xs ih m ind d w0 B pb s cs hBd hG h8 hX hok hn hd hd2 hl=>by
  obtain⟨A,c,B_,e,rfl,-,-,-,hXs⟩:=hX.tree_inv;have h1:=hXs.slice_len;exact MN k t ks xs ih m ind d w0 B pb s A B_ c e hBd hG h8 hX hok hn hd hd2 Aa hl) x
theorem RM{t:Str}(h:Pj t=true):t≠[]:=by
  rintro rfl
  revert h
  decide
theorem valS_ne(m:Bool)(ind:Nat)(x:Tree)(d:Nat)(h:Pf x=true):Ag m ind x d≠[]:=by
  obtain⟨k,t,ks,xs⟩:=x;unfold Pf at h;rw[Bool.and_eq_true]at h;have h1:=(Bh h.2).1;unfold rnodeB at h1;rw[Bool.and_eq_true,decide_eq_true_eq]at h1;obtain⟨h7,h1⟩:=h1;have h7':k≠7:=h7;rw[Ag];split
  ·simp
  split
  ·rename_i h4
   subst h4;simp[nodeB]at h1;rw[qS,if_pos h1.2];simp[Py]
  split
  ·simp[Im]
  split
  ·simp[Im]
  rename_i g1 g4 g5 g6
  simp only[nodeB,if_neg g5,if_neg g6,if_neg g1,if_neg g4,if_neg h7']at h1;split at h1
  ·cases h1
  split at h1
  ·rw[Bool.or_eq_true, decide_eq_true_eq, decide_eq_true_eq]at h1
   rcases h1 with rfl|rfl <;> simp
  split at h1
  ·exact RM h1
  cases h1
theorem JW{x:Tree}(h:Pf x=true):Me nodeB x=true:=by
  unfold Pf at h;rw[Bool.and_eq_true]at h;refine Tree.ind (Q:=λx=>Me rnodeB x=true->Me nodeB x=true) (λk t ks xs ih h=>?_) x h.2;rw[Me,Bool.and_eq_true]at h ⊢;have h1:=h.1;unfold rnodeB at h1;rw[Bool.and_eq_true]at h1;refine⟨h1.2,?_⟩;have key:∀ys:List Tree,(∀y∈ys,y∈xs)->Gs rnodeB ys=true->Gs nodeB ys=true:=by
    intro ys
    induction ys with
    | nil=>intro _ _;rfl
    | cons y ys ihy =>
      intro hm hs;rw[Gs,Bool.and_eq_true]at hs ⊢;exact⟨ih y (hm y Oa) hs.1,ihy (λz hz=>hm z (by simp[hz])) hs.2⟩
  exact key xs (λ_ h=>h) h.2
theorem Kr{x:Tree}(h:Pf x=true):Vc x<=32:=by
  unfold Pf Km at h;simp only[Bool.and_eq_true,decide_eq_true_eq]at h;exact h.1.2
theorem XW(x:Tree)(S:Nat->Prop)(w0:World)(cs:List Value)(rx:Rep S w0 (Ob x) cs)(hG:Gl w0)(hk:Tq x)(hq:CT x)(hsz:Nb x<=1000000000)(hlim:Pf x=true->(Ag false 0 x 0).length<=140737488355328):Calls prog 69 #[.agg cs.toArray] w0 (Yc λv w'=>v=(if Pf x=true then .tuple #[I (Ag false 0 x 0),J 0] else .tuple #[I [],J 1])/\Same [] w0 w'):=by
 have hl:cs.length=4:=rx.length.trans (Hc x);have ho:=rx.one_;refine Fa func69 O ntmps69 Ab (Wb _) ?_;have hF:=FR.start w0 [];refine Ea (Pl (v:=.agg (List.toArray cs)) (cs:=(List.toArray cs)) hF O O ?_);rintro b1 w hb1 hF -;refine Ba (He O) (Ba (Fb O) (Da (Ga (Ea (Ia (v:=.agg (List.toArray cs)) (Wa (l:=cs) aZ nZ O hl (hF.cellsAll 0 O)) ?_)))));refine Pa hF (L6 x Aa _ _ _ (hF.rep rx) hk (hG.ext hF.same)) (Ma OT O O) ?_;intro w hF;refine Ba (Di O) (Da ?_);refine Jd O O (λhc0=>?_) (λhc0=>?_);refine Ea (Ba (He O) (Ba (Fb O) (Da ?_)));refine Db (Cb (La (Oc (v:=I []) (x:=J 1) O O O) ?_));exact⟨by rw[if_neg (by simpa using hc0)],hF.same⟩;refine Ka (Ha (Ea ?_));refine Pc (cs:=#[.pointer none,aQ,.bool false,J 0]) hF zeroValue125 O ?_;rintro b2 w hb2 hF -;refine Lb (Ia (v:=.agg (List.toArray cs)) (Wa (l:=cs) aZ nZ O hl (hF.cellsAll 1 O)) ?_);have hB:BW w0 [] w b2 b2 125 [.bool false,J ((0:Nat):Int)] []:=BW.own ⟨.inr ⟨rfl,_,_,rfl⟩,gQ _,_,_,hF.heap (i:=0) rfl,World.ownsRow_nil _ _ _ _,.inl rfl⟩ (hF.ge (i:=0) rfl) hF.same.size;have nb1:b1≠b2:=IT hF.desc (i:=1) (j:=0) rfl rfl Ua;have hge:=hF.ge (i:=0) rfl;have hF:FR w0 [] [(b1,.cells cs.toArray 36)] w:=hF.drop 1;have hXo:Rep (λb=>b∉Wk w b2 b2) w (Ob x) cs:=(rx.old.same hF.same Oa).weaken λb hb _ hm=>by have h1:=hb.2;rcases Th.1 hm with rfl|⟨-,h2,-⟩ <;> omega
 refine Eb (value_c x false 0 0 _ b2 b2 [] cs hB.bd (hG.ext hF.same) (by have:=hG.size;omega) hXo hq (JW (by simpa using hc0)) Aa (by have:=Kr (x:=x) (by simpa using hc0);omega) (by simpa using hlim (by simpa using hc0))) (Af YF O O O O) ?_;rintro _ w ⟨rfl,hBd2,hE⟩;have hF:=hF.wrote hB hE (by simp[Tl,nb1]);have hB:=hB.wrote hBd2 hE;clear hBd2 hE;refine Lb (Ba (Mb Fk O) ?_);refine Eb (W9 hB.bd (by simpa using valS_ne false 0 x 0 (by simpa using hc0))) (Ma RE O O) ?_;rintro _ w ⟨rfl,hE⟩;have hF:=hF.wrote hB hE (by simp[Tl,nb1]);refine Ba (He O) (Ba (Fb O) (Da ?_));refine Db (Cb (La (Oc (v:=I ([]++Ag false 0 x 0)) (x:=J 0) O O O) ?_));exact⟨by rw[if_pos (by simpa using hc0)];rfl,hF.same⟩
end Go.Scarf
