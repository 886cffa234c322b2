/- A part of the proof. -/
import Derived.Lib.AppendStr
import Derived.Lib.Builder
import Derived.Lib.UnsafeStr
import Derived.Lib.RuneBytes
import Derived.Test.YtndkhbfnfagbgaaGreatDoorW19
import Derived.Laws.BytesString
import Derived.Lib.TrimU
set_option linter.all false
set_option maxHeartbeats 8000000
set_option maxRecDepth 10000
namespace Go.Scarf
open Go.RowKit Go.Proofs Go.Proofs.Tryz
section
variable {P:Program}{w w' w0:World}{Ds E:List Nat}{bs_:List (Nat × Obj)}
def Yl:Obj->Bool
  | .cells _ e _=>e==5
  | _=>false
def Ew(w:World)(b:Nat):Bool:=match w.heap[b]? with|some o=>Yl o|none=>false
def Wk(w:World)(B pb:Nat):List Nat:=pb::(List.range w.heap.size).filter λb=>decide (B<=b)&&Ew w b
theorem Hh{B pb x:Nat}:x∈Wk w B pb↔x=pb\/(x<w.heap.size/\B<=x/\Ew w x=true):=by simp[Wk]
theorem Bw{b:Nat}{o:Obj}(h:w.heap[b]? = some o):Ew w b=Yl o:=by simp[Ew,h]
def Shp(T:Nat)(rest:List Value):Prop:=(T=263/\rest=[])\/(T=296/\∃m i,rest=[.bool m,J i])
theorem Shp.ne{T:Nat}{rest:List Value}(h:Shp T rest):(T==5)=false:=by rcases h with ⟨rfl,-⟩|⟨rfl,-⟩ <;> rfl
structure Bd (w:World) (B pb T:Nat) (rest:List Value) (s:Str):Prop where
  shp:Shp T rest
  le:B<=pb
  ex:∃ap v,w.heap[pb]? = some (.cells (ap::v::rest).toArray T)/\w.ownsRow B 5 1 v s.length (Lib.byteCells s)/\(ap=.pointer none\/ap=V pb)
theorem Bd.lt{B pb T:Nat}{rest:List Value}{s:Str}(h:Bd w B pb T rest s):pb<w.heap.size:=by
  obtain⟨ap,v,hh,-⟩:=h.ex;exact Ma hh
theorem Bd.base{B pb T:Nat}{rest:List Value}{s:Str}(h:Bd w B pb T rest s):B<=w.heap.size:=fQ h.le (Nat.le_of_lt h.lt)
theorem Hq{B n g:Nat}{v:Value}{xs:List Value}(h:w.ownsRow B 5 1 v n xs)(hg:v.ownBlock=some g):g<w.heap.size/\B<=g/\Ew w g=true:=by
  rcases h.2 with ⟨rfl,-⟩|⟨g',cap,cur,rfl,h1,h2,-⟩
  ·cases hg
  cases hg;exact⟨Ma h2,h1,by rw[Bw h2];rfl⟩
theorem MF{B n g pb:Nat}{v:Value}{xs:List Value}(h:w.ownsRow B 5 1 v n xs)(hg:v.ownBlock=some g):g∈Wk w B pb:=Hh.2 (.inr (Hq h hg))
theorem Fu{B n g pb:Nat}{v:Value}{xs:List Value}{o:Obj}(h:w.ownsRow B 5 1 v n xs)(hg:v.ownBlock=some g)(hh:w.heap[pb]? = some o)(ho:Yl o=false):g≠pb:=by
  rintro rfl;have h1:=(Hq h hg).2.2;rw[Bw hh,ho]at h1;cases h1
theorem Qj{B n:Nat}{v:Value}{xs:List Value}(h:w.ownsRow B 5 1 v n xs)(hs:Same E w w')(he:∀g,v.ownBlock=some g->g∉E):w'.ownsRow B 5 1 v n xs:=by
  refine⟨h.1,?_⟩;rcases h.2 with h2|⟨g,cap,cur,rfl,h1,h2,h3⟩
  ·exact .inl h2
  exact .inr ⟨g,cap,cur,O,h1,(hs.block g (Ma h2) (he g O)).trans h2,h3⟩
theorem Zh{B n:Nat}{v:Value}{xs:List Value}(h:w.ownsRow B 5 1 v n xs):∃A c,v=.slice A n c:=by
  rcases h.2 with ⟨rfl,rfl⟩|⟨g,cap,cur,rfl,-⟩
  ·exact⟨_,_,O⟩
  exact⟨_,_,O⟩
theorem Wk.step{B pb x:Nat}(hs:Same (Wk w B pb) w w')(hx:x∈Wk w' B pb):x∈Wk w B pb\/w.heap.size<=x:=by
  by_cases h:x<w.heap.size
  ·by_cases hm : x ∈ Wk w B pb
   ·exact .inl hm
   rcases Hh.1 hx with rfl|⟨h1, h2, h3⟩
   ·exact .inl (Hh.2 (.inl O))
   refine absurd (Hh.2 (.inr ⟨h, h2, ?_⟩)) hm;rw[Ew,<-hs.block x h hm];exact h3
  exact .inr sX
theorem FR.grown{g:Option Nat}(h:FR w0 Ds bs_ w)(hg:w.grownBy w' g)(hr:∀b,g=some b->(b<w0.heap.size->b∈Ds)/\∀p∈bs_,p.1≠b):FR w0 Ds bs_ w':=by
  have hs:Same g.toList w w':=⟨hg.os,hg.tape,hg.output,hg.size,λb hb hn=>hg.block b hb (λe=>hn (by simp[<-e]))⟩;exact h.touch hs (λb hb=>hr b (by simpa using hb))
theorem Jq(s t:Str):Lib.byteCells (s++t)=Lib.byteCells s++Lib.byteCells t:=Lib.byteCells_append s t
end
section
variable {P:Program}{w:World}{ρ:Operand->Value}{dst:Option Nat}{ty:TypeId}{pos:String}{aft:Array Edge}{g:Option (Nat × Bool)}
theorem VQ{t t' te:Nat}{x y:Operand}(ht:P.underlying t=some (.pointer te))(hx:ρ x=.pointer none)(hy:ρ y=.pointer none) :
    (execOp ρ ⟨dst,.binOp .eql t x y t',ty,pos,aft,g⟩).run P w=.ok (.value (.bool true)) w:=by
  have h:∀d:Nat,(Op.equalIn (d+1) t (.pointer none) (.pointer none)).run P w=.ok true w:=λd=>by
    simp[Op.equalIn,run_underlying ht]
  have hg:(eqGuard .eql t x y (.pointer none) (.pointer none)).run P w=.ok () w:=by unfold eqGuard;split <;> simp
  simp only[execOp,hx,hy,Sem.run_bind,hg,Result.andThen_ok,binOp];simp[Op.equal,Op.maxDepth,h 9999]
theorem MP{t t' te:Nat}{x y:Operand}{a:Addr}(ht:P.underlying t=some (.pointer te))(hx:ρ x=.pointer (some a))(hy:ρ y=.pointer none) :
    (execOp ρ ⟨dst,.binOp .eql t x y t',ty,pos,aft,g⟩).run P w=.ok (.value (.bool false)) w:=by
  have h:∀d:Nat,(Op.equalIn (d+1) t (.pointer (some a)) (.pointer none)).run P w=.ok false w:=λd=>by
    simp[Op.equalIn,run_underlying ht]
  have hg:(eqGuard .eql t x y (.pointer (some a)) (.pointer none)).run P w=.ok () w:=by unfold eqGuard;split <;> simp
  simp only[execOp,hx,hy,Sem.run_bind,hg,Result.andThen_ok,binOp];simp[Op.equal,Op.maxDepth,h 9999]
theorem EX{t t' te:Nat}{x y:Operand}{a:Addr}{j:TypeInfo}(ht:P.underlying t=some (.pointer te))(hte:P.info? te=some j)(hx:ρ x=.pointer (some a))(hy:ρ y=.pointer (some a)) :
    (execOp ρ ⟨dst,.binOp .neq t x y t',ty,pos,aft,g⟩).run P w=.ok (.value (.bool false)) w:=by
  have h:=Lib.run_neq_ptr_same w a ht hte;have hg:(eqGuard .neq t x y (.pointer (some a)) (.pointer (some a))).run P w=.ok () w:=by unfold eqGuard;split <;> simp
  simp only[execOp,hx,hy,Sem.run_bind,hg,Result.andThen_ok,h,Sem.run_pure]
theorem T6{t t':Nat}{x:Operand}{v:Value}(hx:ρ x=v)(h:(convert t t' v).run P w=.ok v w):(execOp ρ ⟨dst,.convert t t' x,ty,pos,aft,g⟩).run P w=.ok (.value v) w:=by
  simp[execOp,hx,h]
theorem EZ {f:FuncId} {fn:Func} {e:Array Value->Sem Value} {x1:Operand} {ats:Array TypeId} {v1 v:Value} (hf:P.funcs[f]? = some fn) (hname:(fn.name == "runtime.NumGoroutine")=false)
    (hb:fn.body.isNone=true) (hn:Extern.findNext fn=none) (he:Extern.find fn=some e) (h0:ρ (.func f)=.func (.func f) #[] #[]) (h1:ρ x1=v1) (hr:(e #[v1]).run P w=.ok v w) :
    (execOp ρ ⟨dst,.call ⟨.value (.func f),#[x1],ats⟩,ty,pos,aft,g⟩).run P w=.ok (.value v) w:=by
  simp[execOp,resolve,Deferred.ofValue,h0,h1,invoke,run_callFunc_extern hf hname hb hn he,hr]
theorem x_usd{x:Operand}{ats:Array TypeId}{a:Addr}{n c:Nat}(hx:ρ x=.slice (some a) n c)(hc:c≠0):(execOp ρ ⟨dst,.call ⟨.builtin .unsafeSliceData,#[x],ats⟩,ty,pos,aft,g⟩).run P w=.ok (.value (.pointer (some a))) w:=by
  simp[execOp,resolve,invoke,builtin,hx,Lib.run_unsafeSliceData_row w ats ty a n c hc]
theorem x_uss{x y:Operand}{t1 t2:Nat}{u v r:Value}{w':World}(hx:ρ x=u)(hy:ρ y=v)(h:(Builtin.unsafeString_ #[t1,t2] ty #[u,v]).run P w=.ok r w'):(execOp ρ ⟨dst,.call ⟨.builtin .unsafeString,#[x,y],#[t1,t2]⟩,ty,pos,aft,g⟩).run P w=.ok (.value r) w':=by
  simp[execOp,resolve,invoke,builtin,hx,hy,h]
theorem TS{x y:Operand}{t1 t2:TypeId}{u v:Value}{r:Value}{w':World}(hx:ρ x=u)(hy:ρ y=v)(h:(Builtin.append_ #[t1,t2] ty #[u,v]).run P w=.ok r w') :
    (execOp ρ ⟨dst,.call ⟨.builtin .append,#[x,y],#[t1,t2]⟩,ty,pos,aft,g⟩).run P w=.ok (.value r) w':=by
  simp[execOp,resolve,invoke,builtin,hx,hy,h]
end
section
variable {P:Program}{R:Exit->Act->World->Prop}{n:Nat}{kt:Kt}{s:Nat->Value}{w:World}{ops rest:List Oper}
variable {d:Nat}{ty:TypeId}{pos:String}{aft:Array Edge}{g:Option (Nat × Bool)}
variable {w0:World}{Ds:List Nat}{bs_:List (Nat × Obj)}
theorem o_appB{x y:Operand}{t B len c2 k:Nat}{v:Value}{xs news:List Value}{a:Addr}(hE:Elems P t 5 1 1)
    (hF:FR w0 Ds bs_ w) (hO:w.ownsRow B 5 1 v len xs) (hB:B<=w.heap.size) (hx:ev n s x=v) (hy:ev n s y=.slice (some a) k c2)
    (hl:news.length=k*1) (hnews:∀j u,news[j]? = some u->w.cell? (a.add j)=some u) (h1:∀u∈news,u.oneCell'=true) (hb:len+k<=140737488355328)
    (hr:∀b,v.ownBlock=some b->(b<w0.heap.size->b∈Ds)/\∀p∈bs_,p.1≠b)
    (h:∀v' w',w'.ownsRow B 5 1 v' (len+k) (xs++news)->FR w0 Ds bs_ w'->w.heap.size<=w'.heap.size->Og P R n ops kt rest (Ng s d v') w')
    (hw:Vb ops n s ⟨some d,.call ⟨.builtin .append,#[x,y],#[t,t]⟩,ty,pos,aft,g⟩=true:=by rfl):Og P R n ops kt (⟨some d,.call ⟨.builtin .append,#[x,y],#[t,t]⟩,ty,pos,aft,g⟩::rest) s w:=by
  obtain⟨i,z,hi,hz,h2,h3,h4⟩:=hE.info;obtain⟨v',w',hr',hO',hg,-⟩:=run_append_own (P:=P) w B t ty 5 i z 1 1 hE.ht hi hz h2 h3 h4 Ua v len xs hO a k c2 news hl hnews h1 (by unfold maxLen;omega) sX hB;exact Ka (L0 hx hy hr') (h v' w' hO' (hF.grown hg hr) hg.size) hw
theorem o_appS{x y:Operand}{t u B len:Nat}{v:Value}{xs:List Value}{str:Str}(hE:Elems P t 5 1 1)(hz0:(P.info? 5).map (·.zero)=some (some (.int .u8 0)))(hu:P.underlying u=some .string)
    (hF:FR w0 Ds bs_ w) (hO:w.ownsRow B 5 1 v len xs) (hB:B<=w.heap.size) (hx:ev n s x=v) (hy:ev n s y=I str) (hb:len+str.length<=140737488355328)
    (hr:∀b,v.ownBlock=some b->(b<w0.heap.size->b∈Ds)/\∀p∈bs_,p.1≠b)
    (h:∀v' w',w'.ownsRow B 5 1 v' (len+str.length) (xs++Lib.byteCells str)->FR w0 Ds bs_ w'->w.heap.size<=w'.heap.size->Og P R n ops kt rest (Ng s d v') w')
    (hw:Vb ops n s ⟨some d,.call ⟨.builtin .append,#[x,y],#[t,u]⟩,ty,pos,aft,g⟩=true:=by rfl):Og P R n ops kt (⟨some d,.call ⟨.builtin .append,#[x,y],#[t,u]⟩,ty,pos,aft,g⟩::rest) s w:=by
  obtain⟨i,z,hi,hz,h2,h3,h4⟩:=hE.info;rw[hi]at hz0;have hz1:i.zero=some (.int .u8 0):=by simpa using hz0
  have e:(bs str).size=str.length:=Bs str;obtain⟨v',w',hr',hO',hg,-⟩:=Lib.run_append_own_string (P:=P) w B t u ty 5 i hE.ht hu hi hz1 h2 h3 v len xs hO (bs str) (by rw[e];unfold maxLen;omega) (by rw[e];omega) hB;rw[e]at hO';exact Ka (TS hx hy hr') (h v' w' (by simpa[Lib.strCells_eq,Gt,bs]using hO') (hF.grown hg hr) hg.size) hw
end
theorem QZ:liesAt prog prog.depth 263 (2/prog.cellsOf 263) 0 263 1=true:=by kernel_rfl
theorem VZ:liesAt prog prog.depth 296 (4/prog.cellsOf 296) 0 263 1=true:=by kernel_rfl
theorem C3:(prog.info? 263).map (·.size)=some 2:=by kernel_rfl
theorem AG(w0:World)(pb:Nat)(v:Value)(hh:w0.heap[pb]? = some (.cells #[.pointer none,v] 263)):Calls prog 221 #[V pb] w0 (Td λv_ w'=>v_=.tuple #[]/\Same [pb] w0 w'/\w'.heap[pb]? = some (.cells #[V pb,v] 263)):=by
 obtain⟨j,hj,hjs⟩:=Option.map_eq_some_iff.1 C3;have hne:pb<w0.heap.size:=Ma hh;refine Ga func221 O ntmps221 Fb (Ad _) ?_;have hF:FR w0 [pb] [(pb,.cells #[.pointer none,v] 263)] w0:=FR.open_ (by simpa using hh) Da;refine Ja (Ca (Re O) (Ca (Bh O) (Ca (Xb Ep O) (Yc (GW isAgg261 O hF.F 0 O O) (Ka (v:=.bool true) (VQ gX O O) (Ea (Ge O (Fa (Ca (Re O) (Ca (Re O) ?_))))))))));refine Ka (v:=V pb) (T6 O (Lib.run_to_unsafe _ ⟨pb,0,none⟩ gX underlying313 hj (by rw[hjs];decide) (e:=263) (cells:=2) (by simp[World.shape?,hF.heap (i:=0) O]) (Nat.zero_lt_succ _))) ?_;refine Ka (v:=V pb) (EZ func256 Mb Mb Mb (e:=Extern.AbiNoEscape.same) Mb O O (Lib.run_noEscape _ _)) (Ka (v:=V pb) (T6 O (Lib.run_from_unsafe _ ⟨pb,0,none⟩ underlying313 gX hj (e:=263) (cells:=2) (by simp[World.shape?,hF.heap (i:=0) O]) QZ)) ?_);refine Ca (Bh O) (Ca (Xb Ep O) ?_);refine Cp (.pointer _) hF sizeOf261 O O Mh Mh ?_;rintro w hF -;refine Db (Bf (Rd (Sg O) ?_));exact⟨O,hF.same,hF.heap (i:=0) O⟩
theorem BE(w0:World)(pb:Nat)(v:Value)(m:Bool)(i:Int)(hh:w0.heap[pb]? = some (.cells #[.pointer none,v,.bool (m),J i] 296)):Calls prog 221 #[V pb] w0 (Td λv_ w'=>v_=.tuple #[]/\Same [pb] w0 w'/\w'.heap[pb]? = some (.cells #[V pb,v,.bool (m),J i] 296)):=by
 obtain⟨j,hj,hjs⟩:=Option.map_eq_some_iff.1 C3;have hne:pb<w0.heap.size:=Ma hh;refine Ga func221 O ntmps221 Fb (Ad _) ?_;have hF:FR w0 [pb] [(pb,.cells #[.pointer none,v,.bool (m),J i] 296)] w0:=FR.open_ (by simpa using hh) Da;refine Ja (Ca (Re O) (Ca (Bh O) (Ca (Xb Ep O) (Yc (GW isAgg261 O hF.F 0 O O) (Ka (v:=.bool true) (VQ gX O O) (Ea (Ge O (Fa (Ca (Re O) (Ca (Re O) ?_))))))))));refine Ka (v:=V pb) (T6 O (Lib.run_to_unsafe _ ⟨pb,0,none⟩ gX underlying313 hj (by rw[hjs];decide) (e:=296) (cells:=4) (by simp[World.shape?,hF.heap (i:=0) O]) (Nat.zero_lt_succ _))) ?_;refine Ka (v:=V pb) (EZ func256 Mb Mb Mb (e:=Extern.AbiNoEscape.same) Mb O O (Lib.run_noEscape _ _)) (Ka (v:=V pb) (T6 O (Lib.run_from_unsafe _ ⟨pb,0,none⟩ underlying313 gX hj (e:=296) (cells:=4) (by simp[World.shape?,hF.heap (i:=0) O]) VZ)) ?_);refine Ca (Bh O) (Ca (Xb Ep O) ?_);refine Cp (.pointer _) hF sizeOf261 O O Mh Mh ?_;rintro w hF -;refine Db (Bf (Rd (Sg O) ?_));exact⟨O,hF.same,hF.heap (i:=0) O⟩
theorem VF(w0:World)(pb:Nat)(v:Value)(hh:w0.heap[pb]? = some (.cells #[V pb,v] 263)):Calls prog 221 #[V pb] w0 (Td λv_ w'=>v_=.tuple #[]/\Same [pb] w0 w'/\w'.heap[pb]? = some (.cells #[V pb,v] 263)):=by
 obtain⟨j,hj,hjs⟩:=Option.map_eq_some_iff.1 C3;have hne:pb<w0.heap.size:=Ma hh;refine Ga func221 O ntmps221 Fb (Ad _) ?_;have hF:FR w0 [pb] [(pb,.cells #[V pb,v] 263)] w0:=FR.open_ (by simpa using hh) Da;refine Ja (Ca (Re O) (Ca (Bh O) (Ca (Xb Ep O) (Yc (GW isAgg261 O hF.F 0 O O) (Ka (v:=.bool false) (MP gX O O) (Ea (Kg O (Ja (Ca (Re O) (Ca (Bh O) ?_))))))))));refine Ca (Xb Ep O) (Yc (GW isAgg261 O hF.F 0 O O) (Ca (Re O) (Ka (v:=.bool false) (EX gX hj O O) (Ea (Kg O (Ta ?_))))));refine Bf (Rd (Sg O) ?_);exact⟨O,hF.same,hF.heap (i:=0) O⟩
theorem VD(w0:World)(pb:Nat)(v:Value)(m:Bool)(i:Int)(hh:w0.heap[pb]? = some (.cells #[V pb,v,.bool (m),J i] 296)):Calls prog 221 #[V pb] w0 (Td λv_ w'=>v_=.tuple #[]/\Same [pb] w0 w'/\w'.heap[pb]? = some (.cells #[V pb,v,.bool (m),J i] 296)):=by
 obtain⟨j,hj,hjs⟩:=Option.map_eq_some_iff.1 C3;have hne:pb<w0.heap.size:=Ma hh;refine Ga func221 O ntmps221 Fb (Ad _) ?_;have hF:FR w0 [pb] [(pb,.cells #[V pb,v,.bool (m),J i] 296)] w0:=FR.open_ (by simpa using hh) Da;refine Ja (Ca (Re O) (Ca (Bh O) (Ca (Xb Ep O) (Yc (GW isAgg261 O hF.F 0 O O) (Ka (v:=.bool false) (MP gX O O) (Ea (Kg O (Ja (Ca (Re O) (Ca (Bh O) ?_))))))))));refine Ca (Xb Ep O) (Yc (GW isAgg261 O hF.F 0 O O) (Ca (Re O) (Ka (v:=.bool false) (EX gX hj O O) (Ea (Kg O (Ta ?_))))));refine Bf (Rd (Sg O) ?_);exact⟨O,hF.same,hF.heap (i:=0) O⟩
theorem Dn{w0:World}{B pb T:Nat}{rest:List Value}{s:Str}(h:Bd w0 B pb T rest s) :
    ∃v, w0.ownsRow B 5 1 v s.length (Lib.byteCells s) /\ (∀g, v.ownBlock = some g -> g ∈ Wk w0 B pb /\ g ≠ pb) /\
      Calls prog 221 #[V pb] w0 (Td λu w'=>u=.tuple #[]/\Same [pb] w0 w'/\w'.heap[pb]? = some (.cells (V pb::v::rest).toArray T)/\w'.ownsRow B 5 1 v s.length (Lib.byteCells s)):=by
  obtain⟨hs,hle,ap,v,hh,hO,ha⟩:=h;have hne:∀g,v.ownBlock=some g->g≠pb:=λg hg=>Fu hO hg hh (by exact hs.ne);refine⟨v,hO,λg hg=>⟨MF hO hg,hne g hg⟩,?_⟩;have fin:∀{u:Value}{w':World},(u=.tuple #[]/\Same [pb] w0 w'/\w'.heap[pb]? = some (.cells (V pb::v::rest).toArray T))->(u=.tuple #[]/\Same [pb] w0 w'/\w'.heap[pb]? = some (.cells (V pb::v::rest).toArray T)/\w'.ownsRow B 5 1 v s.length (Lib.byteCells s)) :=
    λ⟨h1,h2,h3⟩=>⟨h1,h2,h3,Qj hO h2 (λg hg=>by simpa using hne g hg)⟩
  rcases hs with ⟨rfl,rfl⟩|⟨rfl,m,i,rfl⟩ <;> rcases ha with rfl|rfl
  ·exact Vn (AG w0 pb v hh) λ_ _=>fin
  ·exact Vn (VF w0 pb v hh) λ_ _=>fin
  ·exact Vn (BE w0 pb v m i hh) λ_ _=>fin
  exact Vn (VD w0 pb v m i hh) λ_ _=>fin
theorem EC:(prog.info? 5).map (·.zero)=some (some (.int .u8 0)):=by kernel_rfl
theorem FR.addD{w0 w:World}{Ds:List Nat}{bs_:List (Nat × Obj)}{b:Nat}{o:Obj}(h:FR w0 Ds bs_ w)(hh:w.heap[b]? = some o)(hd:w0.heap.size<=b\/b∈Ds)(hn:∀p∈bs_,p.1≠b):FR w0 Ds ((b,o)::bs_) w :=
  ⟨h.same,λp hp=>by
    rcases oQ.1 hp with rfl|hp
    ·exact⟨hh,hd⟩
    exact h.own p hp,List.pairwise_cons.2 ⟨λq hq=>hn q hq,h.desc⟩⟩
def Vm(r:Int):Str:=(Lib.encodeRuneZ r).map λx=>UInt8.ofNat x.toNat
theorem Dv(r:Int):1<=(Vm r).length/\(Vm r).length<=4:=by rw[Vm,rQ];exact Lib.encodeRuneZ_length r
theorem Ij(r:Int):Lib.byteCells (Vm r)=Lib.runeCells r:=by
  rw[Vm,Lib.byteCells,Lib.runeCells,List.map_map];refine List.map_congr_left λx hx=>?_;have:=Lib.encodeRuneZ_byte r x hx;simp only[Function.comp_apply,Value.int.injEq,true_and,UInt8.toNat_ofNat'];omega
theorem Z0{w:World}{B n:Nat}{v:Value}{xs:List Value}{r:Int}(hO:w.ownsRow B 5 1 v n xs)(h0:-2147483648<=r)(h1:r<=2147483647)(hn:n+4<=140737488355328)(hB:B<=w.heap.size) :
    Calls prog 284 #[v,.int .i32 r] w (Td λv' w'=>w'.ownsRow B 5 1 v' (n+(Vm r).length) (xs++Lib.byteCells (Vm r))/\∃o,(w.alloc o).grownBy w' v.ownBlock):=by
  refine (utf8_AppendRune_plain B v n xs r h0 h1 w hO hn hB).mono λe w' ⟨v',he,h2,h3⟩=>⟨v',he,?_,h3⟩;have e1:(Vm r).length=(Lib.runeCells r).length:=by rw[<-Ij,Lib.byteCells_length]
  rw[e1,Ij];exact h2
def Zz(f:Nat)(args:Array Value)(u:Value)(w0:World)(B pb T:Nat)(rest:List Value)(s:Str):Prop :=
  Calls prog f args w0 (Td λv w'=>v=u/\Bd w' B pb T rest s/\Same (Wk w0 B pb) w0 w')
theorem EI(w0:World)(B pb:Nat)(s:Str)(hB:Bd w0 B pb 263 [] s)(c:UInt8)(hl:s.length+1<=140737488355328):Zz 276 #[V pb,.int .u8 ((c.toNat:Nat):Int)] .nilIface w0 B pb 263 [] (s++[c]):=by
 unfold Zz;refine Ga func276 O ntmps276 Fb (Zc _ _) ?_;obtain⟨v,hO0,hv,hC⟩:=Dn hB;have hle:=hB.le;have hBw:=hB.base;have hlt:=hB.lt;have hws:=gQ w0.heap.size;have hvl:∀g,v.ownBlock=some g->g<w0.heap.size:=λg hg=>(Hq hO0 hg).1;obtain⟨A1,c1,rfl⟩:=Zh hO0;have hF:=FR.start w0 (Wk w0 B pb);refine Ja (Ca (Ry) (Fc (Ca (Re O) ?_)));refine Cb hC (Ra J4 O O) ?_;rintro _ w ⟨rfl,hE,hh,hO⟩;have hws:=fQ hws hE.size;have hBw:=fQ hBw hE.size;have hF:FR w0 (Wk w0 B pb) [(pb,.cells #[V pb,.slice A1 s.length c1] 263)] w:=(hF.touch hE (λb hb=>by obtain rfl:=pQ.1 hb;exact⟨λ_=>Hh.2 (.inl rfl),by simp⟩)).addD hh (.inr (Hh.2 (.inl rfl))) Da;clear hE hh;refine Fc (Ca (Re O) (Ca (Re O) (Ca (Bh O) (Ca (Xb Jf O) (Yc (Rf wQ O hF.F 0 O O) (Ca (Kb O) ?_))))));refine Pf 1 hF (Xa (cs:=#[.int .u8 ((c.toNat:Nat))]) cX sizeOf5 zeroValue5 Ua Ua Mb) ?_;intro b1 w hb1 hF hE;have nb1:w0.heap.size<=b1:=by rw[hb1];exact hws
 have hws:=fQ hws hE.size;have hBw:=fQ hBw hE.size;have hO:=Qj hO hE Da;refine o_appB (news:=[.int .u8 ((c.toNat:Nat):Int)]) IF hF hO hBw rfl rfl rfl (Ob (hF.cellsAll 0 rfl)) (by simp[Value.oneCell']) sX (λb hb=>⟨λ_=>(hv b hb).1,by have h1:=(hv b hb).2;have h2:=hvl b hb;intro p hp;simp only[oQ,List.not_mem_nil,or_false]at hp;rcases hp with rfl|rfl <;> grind⟩) ?_;clear hF hO;intro v2 w hO hF hsz;have hws:=fQ hws hsz;have hBw:=fQ hBw hsz;have hne2:∀g,v2.ownBlock=some g->g≠pb:=λg hg=>Fu hO hg (hF.heap (i:=1) rfl) rfl;obtain⟨A2,c2,rfl⟩:=Zh hO;clear hsz;refine Ca (Bh O) (Ca (Xb Jf O) ?_);refine Cp (.slice _ _ _) hF sizeOf234 O O Yt Yt ?_;intro w hF hE;have hws:=fQ hws hE.size;have hBw:=fQ hBw hE.size;have hO:=Qj hO hE (λg hg=>by simpa using hne2 g hg);refine Fc (Ca (Ry) (Ea ?_));refine Qd (v:=.nilIface) O O ?_;exact⟨O,⟨.inl ⟨O,O⟩,hle,_,_,hF.heap (i:=1) O,by simpa[Jq,Lib.byteCells,Ij]using hO,.inr O⟩,hF.same⟩
theorem Y_(w0:World)(B pb:Nat)(s:Str)(hB:Bd w0 B pb 263 [] s)(t:Str)(hl:s.length+t.length<=140737488355328):Zz 197 #[V pb,I t] (.tuple #[J ((t.length:Nat):Int),.nilIface]) w0 B pb 263 [] (s++t):=by
 unfold Zz;refine Ga func197 O ntmps197 Fb (Zc _ _) ?_;obtain⟨v,hO0,hv,hC⟩:=Dn hB;have hle:=hB.le;have hBw:=hB.base;have hlt:=hB.lt;have hws:=gQ w0.heap.size;have hvl:∀g,v.ownBlock=some g->g<w0.heap.size:=λg hg=>(Hq hO0 hg).1;obtain⟨A1,c1,rfl⟩:=Zh hO0;have hF:=FR.start w0 (Wk w0 B pb);refine Ja (Ca (Sc O) (Ca (Ry) (Fc (Ca (Re O) ?_))));refine Cb hC (Ra J4 O O) ?_;rintro _ w ⟨rfl,hE,hh,hO⟩;have hws:=fQ hws hE.size;have hBw:=fQ hBw hE.size;have hF:FR w0 (Wk w0 B pb) [(pb,.cells #[V pb,.slice A1 s.length c1] 263)] w:=(hF.touch hE (λb hb=>by obtain rfl:=pQ.1 hb;exact⟨λ_=>Hh.2 (.inl rfl),by simp⟩)).addD hh (.inr (Hh.2 (.inl rfl))) Da;clear hE hh;refine Fc (Ca (Re O) (Ca (Re O) (Ca (Bh O) (Ca (Xb Jf O) (Yc (Rf wQ O hF.F 0 O O) (Ca (Ug O) ?_))))));refine o_appS (str:=t) IF EC kX hF hO hBw rfl rfl sX (λb hb=>⟨λ_=>(hv b hb).1,by have h1:=(hv b hb).2;have h2:=hvl b hb;intro p hp;simp only[oQ,List.not_mem_nil,or_false]at hp;rcases hp with rfl <;> grind⟩) ?_;clear hF hO;intro v2 w hO hF hsz;have hws:=fQ hws hsz;have hBw:=fQ hBw hsz;have hne2:∀g,v2.ownBlock=some g->g≠pb:=λg hg=>Fu hO hg (hF.heap (i:=0) rfl) rfl;obtain⟨A2,c2,rfl⟩:=Zh hO;clear hsz;refine Ca (Bh O) (Ca (Xb Jf O) ?_);refine Cp (.slice _ _ _) hF sizeOf234 O O Mh Yt ?_;intro w hF hE;have hws:=fQ hws hE.size;have hBw:=fQ hBw hE.size;have hO:=Qj hO hE (λg hg=>by simpa using hne2 g hg);refine Fc (Ca (Ug O) (Ca (GI kX O) (Ca (Sc O) (Ca (Ry) (Ea ?_)))));refine Cc (Bc (Sa (Bg (v:=J ((((t):Str).length:Int))) (x:=.nilIface) O O O) ?_));exact⟨O,⟨.inl ⟨O,O⟩,hle,_,_,hF.heap (i:=0) O,by simpa[Jq,Lib.byteCells,Ij]using hO,.inr O⟩,hF.same⟩
theorem BJ(w0:World)(B pb:Nat)(s:Str)(hB:Bd w0 B pb 263 [] s)(r:Int)(hr0:-2147483648<=r)(hr1:r<=2147483647)(hl:s.length+4<=140737488355328):Zz 282 #[V pb,.int .i32 r] (.tuple #[J (((Vm r).length:Nat):Int),.nilIface]) w0 B pb 263 [] (s++Vm r):=by
 unfold Zz;have hrl:=Dv r;refine Ga func282 O ntmps282 Fb (Zc _ _) ?_;obtain⟨v,hO0,hv,hC⟩:=Dn hB;have hle:=hB.le;have hBw:=hB.base;have hlt:=hB.lt;have hws:=gQ w0.heap.size;have hvl:∀g,v.ownBlock=some g->g<w0.heap.size:=λg hg=>(Hq hO0 hg).1;obtain⟨A1,c1,rfl⟩:=Zh hO0;have hF:=FR.start w0 (Wk w0 B pb);refine Ja (Ca (Sc O) (Ca (Ry) (Fc (Ca (Re O) ?_))));refine Cb hC (Ra J4 O O) ?_;rintro _ w ⟨rfl,hE,hh,hO⟩;have hws:=fQ hws hE.size;have hBw:=fQ hBw hE.size;have hF:FR w0 (Wk w0 B pb) [(pb,.cells #[V pb,.slice A1 s.length c1] 263)] w:=(hF.touch hE (λb hb=>by obtain rfl:=pQ.1 hb;exact⟨λ_=>Hh.2 (.inl rfl),by simp⟩)).addD hh (.inr (Hh.2 (.inl rfl))) Da;clear hE hh;refine Fc (Ca (Re O) (Ca (Bh O) (Ca (Xb Jf O) (Yc (Rf wQ O hF.F 0 O O) (Ca (Ye cX O) (Ca (Sc O) (Fc ?_)))))));refine Ca (Re O) (Ca (Re O) (Ca (Bh O) (Ca (Xb Jf O) (Yc (Rf wQ O hF.F 0 O O) (Ca (Kb O) ?_)))));refine Cb (Z0 hO hr0 hr1 sX hBw) (Za EY O O O) ?_;rintro v2 w2 ⟨hO2,o,hg⟩;have hF:=(hF.ext (Same.alloc _ o)).grown hg (λb hb=>⟨λ_=>(hv b hb).1,by have h1:=(hv b hb).2;have h2:=hvl b hb;intro p hp;simp only[oQ,List.not_mem_nil,or_false]at hp;rcases hp with rfl <;> grind⟩);have hsz:=fQ (Same.alloc _ o).size hg.size;clear hO hg;revert hsz hF hO2;generalize w2=w;intro hO hF hsz;have hws:=fQ hws hsz;have hBw:=fQ hBw hsz;have hne2:∀g,v2.ownBlock=some g->g≠pb:=λg hg=>Fu hO hg (hF.heap (i:=0) rfl) rfl;obtain⟨A2,c2,rfl⟩:=Zh hO;clear hsz;refine Ca (Bh O) (Ca (Xb Jf O) ?_);refine Cp (.slice _ _ _) hF sizeOf234 O O Mh Yt ?_;intro w hF hE;have hws:=fQ hws hE.size;have hBw:=fQ hBw hE.size;have hO:=Qj hO hE (λg hg=>by simpa using hne2 g hg);refine Fc (Ca (Re O) (Ca (Bh O) (Ca (Xb Jf O) (Yc (Rf wQ O hF.F 0 O O) (Ca (Ye cX O) (Ca (Kb O) (Ca (U9 (((Vm r).length:Nat)) O O) (Ca (Sc O) (Ca (Ry) (Db ?_))))))))))
 refine Ia (Cc (Bc (Sa (Bg (v:=J (((Vm r).length:Nat))) (x:=.nilIface) O O O) ?_)));exact⟨O,⟨.inl ⟨O,O⟩,hle,_,_,hF.heap (i:=0) O,by simpa[Jq,Lib.byteCells,Ij]using hO,.inr O⟩,hF.same⟩
theorem YJ(w0:World)(B pb:Nat)(m:Bool)(i:Int)(s:Str)(hB:Bd w0 B pb 296 [.bool (m),J i] s)(c:UInt8)(hl:s.length+1<=140737488355328):Zz 276 #[V pb,.int .u8 ((c.toNat:Nat):Int)] .nilIface w0 B pb 296 [.bool (m),J i] (s++[c]):=by
 unfold Zz;refine Ga func276 O ntmps276 Fb (Zc _ _) ?_;obtain⟨v,hO0,hv,hC⟩:=Dn hB;have hle:=hB.le;have hBw:=hB.base;have hlt:=hB.lt;have hws:=gQ w0.heap.size;have hvl:∀g,v.ownBlock=some g->g<w0.heap.size:=λg hg=>(Hq hO0 hg).1;obtain⟨A1,c1,rfl⟩:=Zh hO0;have hF:=FR.start w0 (Wk w0 B pb);refine Ja (Ca (Ry) (Fc (Ca (Re O) ?_)));refine Cb hC (Ra J4 O O) ?_;rintro _ w ⟨rfl,hE,hh,hO⟩;have hws:=fQ hws hE.size;have hBw:=fQ hBw hE.size;have hF:FR w0 (Wk w0 B pb) [(pb,.cells #[V pb,.slice A1 s.length c1,.bool (m),J i] 296)] w:=(hF.touch hE (λb hb=>by obtain rfl:=pQ.1 hb;exact⟨λ_=>Hh.2 (.inl rfl),by simp⟩)).addD hh (.inr (Hh.2 (.inl rfl))) Da;clear hE hh;refine Fc (Ca (Re O) (Ca (Re O) (Ca (Bh O) (Ca (Xb Jf O) (Yc (Rf wQ O hF.F 0 O O) (Ca (Kb O) ?_))))));refine Pf 1 hF (Xa (cs:=#[.int .u8 ((c.toNat:Nat))]) cX sizeOf5 zeroValue5 Ua Ua Mb) ?_;intro b1 w hb1 hF hE;have nb1:w0.heap.size<=b1:=by rw[hb1];exact hws
 have hws:=fQ hws hE.size;have hBw:=fQ hBw hE.size;have hO:=Qj hO hE Da;refine o_appB (news:=[.int .u8 ((c.toNat:Nat):Int)]) IF hF hO hBw rfl rfl rfl (Ob (hF.cellsAll 0 rfl)) (by simp[Value.oneCell']) sX (λb hb=>⟨λ_=>(hv b hb).1,by have h1:=(hv b hb).2;have h2:=hvl b hb;intro p hp;simp only[oQ,List.not_mem_nil,or_false]at hp;rcases hp with rfl|rfl <;> grind⟩) ?_;clear hF hO;intro v2 w hO hF hsz;have hws:=fQ hws hsz;have hBw:=fQ hBw hsz;have hne2:∀g,v2.ownBlock=some g->g≠pb:=λg hg=>Fu hO hg (hF.heap (i:=1) rfl) rfl;obtain⟨A2,c2,rfl⟩:=Zh hO;clear hsz;refine Ca (Bh O) (Ca (Xb Jf O) ?_);refine Cp (.slice _ _ _) hF sizeOf234 O O Yt Yt ?_;intro w hF hE;have hws:=fQ hws hE.size;have hBw:=fQ hBw hE.size;have hO:=Qj hO hE (λg hg=>by simpa using hne2 g hg);refine Fc (Ca (Ry) (Ea ?_));refine Qd (v:=.nilIface) O O ?_;exact⟨O,⟨.inr ⟨O,m,i,O⟩,hle,_,_,hF.heap (i:=1) O,by simpa[Jq,Lib.byteCells,Ij]using hO,.inr O⟩,hF.same⟩
theorem KA(w0:World)(B pb:Nat)(m:Bool)(i:Int)(s:Str)(hB:Bd w0 B pb 296 [.bool (m),J i] s)(t:Str)(hl:s.length+t.length<=140737488355328):Zz 197 #[V pb,I t] (.tuple #[J ((t.length:Nat):Int),.nilIface]) w0 B pb 296 [.bool (m),J i] (s++t):=by
 unfold Zz;refine Ga func197 O ntmps197 Fb (Zc _ _) ?_;obtain⟨v,hO0,hv,hC⟩:=Dn hB;have hle:=hB.le;have hBw:=hB.base;have hlt:=hB.lt;have hws:=gQ w0.heap.size;have hvl:∀g,v.ownBlock=some g->g<w0.heap.size:=λg hg=>(Hq hO0 hg).1;obtain⟨A1,c1,rfl⟩:=Zh hO0;have hF:=FR.start w0 (Wk w0 B pb);refine Ja (Ca (Sc O) (Ca (Ry) (Fc (Ca (Re O) ?_))));refine Cb hC (Ra J4 O O) ?_;rintro _ w ⟨rfl,hE,hh,hO⟩;have hws:=fQ hws hE.size;have hBw:=fQ hBw hE.size;have hF:FR w0 (Wk w0 B pb) [(pb,.cells #[V pb,.slice A1 s.length c1,.bool (m),J i] 296)] w:=(hF.touch hE (λb hb=>by obtain rfl:=pQ.1 hb;exact⟨λ_=>Hh.2 (.inl rfl),by simp⟩)).addD hh (.inr (Hh.2 (.inl rfl))) Da;clear hE hh;refine Fc (Ca (Re O) (Ca (Re O) (Ca (Bh O) (Ca (Xb Jf O) (Yc (Rf wQ O hF.F 0 O O) (Ca (Ug O) ?_))))));refine o_appS (str:=t) IF EC kX hF hO hBw rfl rfl sX (λb hb=>⟨λ_=>(hv b hb).1,by have h1:=(hv b hb).2;have h2:=hvl b hb;intro p hp;simp only[oQ,List.not_mem_nil,or_false]at hp;rcases hp with rfl <;> grind⟩) ?_;clear hF hO;intro v2 w hO hF hsz;have hws:=fQ hws hsz;have hBw:=fQ hBw hsz;have hne2:∀g,v2.ownBlock=some g->g≠pb:=λg hg=>Fu hO hg (hF.heap (i:=0) rfl) rfl;obtain⟨A2,c2,rfl⟩:=Zh hO;clear hsz;refine Ca (Bh O) (Ca (Xb Jf O) ?_);refine Cp (.slice _ _ _) hF sizeOf234 O O Mh Yt ?_;intro w hF hE;have hws:=fQ hws hE.size;have hBw:=fQ hBw hE.size;have hO:=Qj hO hE (λg hg=>by simpa using hne2 g hg);refine Fc (Ca (Ug O) (Ca (GI kX O) (Ca (Sc O) (Ca (Ry) (Ea ?_)))));refine Cc (Bc (Sa (Bg (v:=J ((((t):Str).length:Int))) (x:=.nilIface) O O O) ?_));exact⟨O,⟨.inr ⟨O,m,i,O⟩,hle,_,_,hF.heap (i:=0) O,by simpa[Jq,Lib.byteCells,Ij]using hO,.inr O⟩,hF.same⟩
theorem VJ(w0:World)(B pb:Nat)(m:Bool)(i:Int)(s:Str)(hB:Bd w0 B pb 296 [.bool (m),J i] s)(r:Int)(hr0:-2147483648<=r)(hr1:r<=2147483647)(hl:s.length+4<=140737488355328):Zz 282 #[V pb,.int .i32 r] (.tuple #[J (((Vm r).length:Nat):Int),.nilIface]) w0 B pb 296 [.bool (m),J i] (s++Vm r):=by
 unfold Zz;have hrl:=Dv r;refine Ga func282 O ntmps282 Fb (Zc _ _) ?_;obtain⟨v,hO0,hv,hC⟩:=Dn hB;have hle:=hB.le;have hBw:=hB.base;have hlt:=hB.lt;have hws:=gQ w0.heap.size;have hvl:∀g,v.ownBlock=some g->g<w0.heap.size:=λg hg=>(Hq hO0 hg).1;obtain⟨A1,c1,rfl⟩:=Zh hO0;have hF:=FR.start w0 (Wk w0 B pb);refine Ja (Ca (Sc O) (Ca (Ry) (Fc (Ca (Re O) ?_))));refine Cb hC (Ra J4 O O) ?_;rintro _ w ⟨rfl,hE,hh,hO⟩;have hws:=fQ hws hE.size;have hBw:=fQ hBw hE.size;have hF:FR w0 (Wk w0 B pb) [(pb,.cells #[V pb,.slice A1 s.length c1,.bool (m),J i] 296)] w:=(hF.touch hE (λb hb=>by obtain rfl:=pQ.1 hb;exact⟨λ_=>Hh.2 (.inl rfl),by simp⟩)).addD hh (.inr (Hh.2 (.inl rfl))) Da;clear hE hh;refine Fc (Ca (Re O) (Ca (Bh O) (Ca (Xb Jf O) (Yc (Rf wQ O hF.F 0 O O) (Ca (Ye cX O) (Ca (Sc O) (Fc ?_)))))));refine Ca (Re O) (Ca (Re O) (Ca (Bh O) (Ca (Xb Jf O) (Yc (Rf wQ O hF.F 0 O O) (Ca (Kb O) ?_)))));refine Cb (Z0 hO hr0 hr1 sX hBw) (Za EY O O O) ?_;rintro v2 w2 ⟨hO2,o,hg⟩;have hF:=(hF.ext (Same.alloc _ o)).grown hg (λb hb=>⟨λ_=>(hv b hb).1,by have h1:=(hv b hb).2;have h2:=hvl b hb;intro p hp;simp only[oQ,List.not_mem_nil,or_false]at hp;rcases hp with rfl <;> grind⟩);have hsz:=fQ (Same.alloc _ o).size hg.size;clear hO hg;revert hsz hF hO2;generalize w2=w;intro hO hF hsz;have hws:=fQ hws hsz;have hBw:=fQ hBw hsz;have hne2:∀g,v2.ownBlock=some g->g≠pb:=λg hg=>Fu hO hg (hF.heap (i:=0) rfl) rfl;obtain⟨A2,c2,rfl⟩:=Zh hO;clear hsz;refine Ca (Bh O) (Ca (Xb Jf O) ?_);refine Cp (.slice _ _ _) hF sizeOf234 O O Mh Yt ?_;intro w hF hE;have hws:=fQ hws hE.size;have hBw:=fQ hBw hE.size;have hO:=Qj hO hE (λg hg=>by simpa using hne2 g hg);refine Fc (Ca (Re O) (Ca (Bh O) (Ca (Xb Jf O) (Yc (Rf wQ O hF.F 0 O O) (Ca (Ye cX O) (Ca (Kb O) (Ca (U9 (((Vm r).length:Nat)) O O) (Ca (Sc O) (Ca (Ry) (Db ?_))))))))))
 refine Ia (Cc (Bc (Sa (Bg (v:=J (((Vm r).length:Nat))) (x:=.nilIface) O O O) ?_)));exact⟨O,⟨.inr ⟨O,m,i,O⟩,hle,_,_,hF.heap (i:=0) O,by simpa[Jq,Lib.byteCells,Ij]using hO,.inr O⟩,hF.same⟩
theorem W9:prog.cellsOf 5=1:=by kernel_rfl
theorem Same.freeze(w:World)(a:Addr)(n:Nat):Same [a.block] w (w.freeze a n):=by
  have h:=Lib.below_freeze (B:=a.block) (Below.refl a.block w) (p:=a) (gQ _) n;refine⟨h.os,h.tape,h.output,h.size,λb hb hn=>?_⟩;have hn':b≠a.block:=by simpa using hn
  unfold World.freeze;split
  ·rfl
  simp[Array.getElem?_modify,hn'.symm]
theorem MW(w0:World)(B pb:Nat)(s:Str)(hB:Bd w0 B pb 263 [] s)(h0:s≠[]):Calls prog 199 #[V pb] w0 (Td λv w'=>v=I s/\Same (Wk w0 B pb) w0 w'):=by
  refine Ga func199 O ntmps199 Fb (Ad _) ?_;obtain⟨-,hle,ap,v,hh,hO,-⟩:=hB;have hsl:s.length≠0:=by simpa using h0
  obtain⟨g,c1,cur,rfl,hbg,hg,hnc,hcm,hcs,htake⟩:∃g cap cur,v=W g s.length cap/\B<=g/\w0.heap[g]? = some (.cells cur 5 (0,0))/\s.length<=cap/\cap<=maxLen/\cur.size=cap*1/\cur.toList.take (s.length*1)=Lib.byteCells s:=by
    rcases hO.2 with ⟨_,hz⟩|⟨g,cap,cur,hv,r⟩
    ·exact absurd hz hsl
    exact⟨g,cap,cur,hv,r⟩
  have hgm:g∈Wk w0 B pb:=MF hO rfl;have hgn:g≠pb:=Fu hO rfl hh (by rfl);have hF:FR w0 (Wk w0 B pb) [(pb,.cells #[ap,W g s.length c1] 263)] w0:=(FR.start w0 (Wk w0 B pb)).addD hh (.inr (Hh.2 (.inl rfl))) Da;refine Ha (Fa ?_);refine Ca (Qm O) (Db ?_);refine Ia (Ha ?_);refine Id (.of []) (bQ [0,1,2,3,5,6,7,8,9] (.act 4 (.act 10 (.free 11 .nil)))) hF ?_;intro w hF hE;have hg:=(hE.block g (Ma hg) Da).trans hg;have hO:=Qj hO hE Da;refine⟨λwq=>FR w0 (Wk w0 B pb) _ wq,hF,?_⟩;refine Hb O (Re O) (Hb O (Bh O) ?_);refine Hb O (Xb Jf O) (Hl O (Rf wQ O C0 0 O O) ?_);refine Hb O (Re O) (Hb O (Bh O) ?_);refine Hb O (Xb Jf O) (Hl O (Rf wQ O C0 0 O O) ?_);refine Hb O (Ye cX O) (Ke O (x_usd O sX) hF ?_);have hu:(Builtin.unsafeString_ #[287,3] 9 #[V g,J s.length]).run prog w=.ok (I s) (w.freeze ⟨g,0,none⟩ s.length):=Lib.run_unsafeString_row w 287 3 9 5 underlying287 W9 g cur.size (by simp[World.shape?,hg]) s h0 sX (by simp only[maxLen]at hcm;omega) (λj x hx=>hO.cells (g:=g) rfl j (.int .u8 x.toNat) (by simp[Lib.byteCells,hx]));have hEf:FR w0 (Wk w0 B pb) _ (w.freeze ⟨g,0,none⟩ s.length):=hF.touch (Same.freeze w ⟨g,0,none⟩ s.length) (λb hb=>by obtain rfl:=pQ.1 hb;exact⟨λ_=>hgm,by simpa using hgn.symm⟩);refine Ke O (x_uss O O hu) hEf ?_;have hF:=hEf;refine Hb O (Qm O) (Ec ?_);refine Ia (Qd (v:=I s) O O ?_);exact⟨O,hF.same⟩
theorem KY(w0:World)(B pb:Nat)(m:Bool)(i:Int)(s:Str)(hB:Bd w0 B pb 296 [.bool (m),J i] s)(h0:s≠[]):Calls prog 199 #[V pb] w0 (Td λv w'=>v=I s/\Same (Wk w0 B pb) w0 w'):=by
  refine Ga func199 O ntmps199 Fb (Ad _) ?_;obtain⟨-,hle,ap,v,hh,hO,-⟩:=hB;have hsl:s.length≠0:=by simpa using h0
  obtain⟨g,c1,cur,rfl,hbg,hg,hnc,hcm,hcs,htake⟩:∃g cap cur,v=W g s.length cap/\B<=g/\w0.heap[g]? = some (.cells cur 5 (0,0))/\s.length<=cap/\cap<=maxLen/\cur.size=cap*1/\cur.toList.take (s.length*1)=Lib.byteCells s:=by
    rcases hO.2 with ⟨_,hz⟩|⟨g,cap,cur,hv,r⟩
    ·exact absurd hz hsl
    exact⟨g,cap,cur,hv,r⟩
  have hgm:g∈Wk w0 B pb:=MF hO rfl;have hgn:g≠pb:=Fu hO rfl hh (by rfl);have hF:FR w0 (Wk w0 B pb) [(pb,.cells #[ap,W g s.length c1,.bool (m),J i] 296)] w0:=(FR.start w0 (Wk w0 B pb)).addD hh (.inr (Hh.2 (.inl rfl))) Da;refine Ha (Fa ?_);refine Ca (Qm O) (Db ?_);refine Ia (Ha ?_);refine Id (.of []) (bQ [0,1,2,3,5,6,7,8,9] (.act 4 (.act 10 (.free 11 .nil)))) hF ?_;intro w hF hE;have hg:=(hE.block g (Ma hg) Da).trans hg;have hO:=Qj hO hE Da;refine⟨λwq=>FR w0 (Wk w0 B pb) _ wq,hF,?_⟩;refine Hb O (Re O) (Hb O (Bh O) ?_);refine Hb O (Xb Jf O) (Hl O (Rf wQ O C0 0 O O) ?_);refine Hb O (Re O) (Hb O (Bh O) ?_);refine Hb O (Xb Jf O) (Hl O (Rf wQ O C0 0 O O) ?_);refine Hb O (Ye cX O) (Ke O (x_usd O sX) hF ?_);have hu:(Builtin.unsafeString_ #[287,3] 9 #[V g,J s.length]).run prog w=.ok (I s) (w.freeze ⟨g,0,none⟩ s.length):=Lib.run_unsafeString_row w 287 3 9 5 underlying287 W9 g cur.size (by simp[World.shape?,hg]) s h0 sX (by simp only[maxLen]at hcm;omega) (λj x hx=>hO.cells (g:=g) rfl j (.int .u8 x.toNat) (by simp[Lib.byteCells,hx]));have hEf:FR w0 (Wk w0 B pb) _ (w.freeze ⟨g,0,none⟩ s.length):=hF.touch (Same.freeze w ⟨g,0,none⟩ s.length) (λb hb=>by obtain rfl:=pQ.1 hb;exact⟨λ_=>hgm,by simpa using hgn.symm⟩);refine Ke O (x_uss O O hu) hEf ?_;have hF:=hEf;refine Hb O (Qm O) (Ec ?_);refine Ia (Qd (v:=I s) O O ?_);exact⟨O,hF.same⟩
theorem Rr{w0:World}{B pb T:Nat}{rest:List Value}{s:Str}(hB:Bd w0 B pb T rest s)(c:UInt8)(hl:s.length+1<=140737488355328):Zz 276 #[V pb,.int .u8 ((c.toNat:Nat):Int)] .nilIface w0 B pb T rest (s++[c]):=by
  rcases hB.shp with ⟨rfl,rfl⟩|⟨rfl,m,i,rfl⟩
  ·exact EI w0 B pb s hB c hl
  exact YJ w0 B pb m i s hB c hl
theorem Zl{w0:World}{B pb T:Nat}{rest:List Value}{s:Str}(hB:Bd w0 B pb T rest s)(t:Str)(hl:s.length+t.length<=140737488355328):Zz 197 #[V pb,I t] (.tuple #[J ((t.length:Nat):Int),.nilIface]) w0 B pb T rest (s++t):=by
  rcases hB.shp with ⟨rfl,rfl⟩|⟨rfl,m,i,rfl⟩
  ·exact Y_ w0 B pb s hB t hl
  exact KA w0 B pb m i s hB t hl
theorem KI{w0:World}{B pb T:Nat}{rest:List Value}{s:Str}(hB:Bd w0 B pb T rest s)(r:Int)(h0:-2147483648<=r)(h1:r<=2147483647)(hl:s.length+4<=140737488355328):Zz 282 #[V pb,.int .i32 r] (.tuple #[J (((Vm r).length:Nat):Int),.nilIface]) w0 B pb T rest (s++Vm r):=by
  rcases hB.shp with ⟨rfl,rfl⟩|⟨rfl,m,i,rfl⟩
  ·exact BJ w0 B pb s hB r h0 h1 hl
  exact VJ w0 B pb m i s hB r h0 h1 hl
theorem FJ{w0:World}{B pb T:Nat}{rest:List Value}{s:Str}(hB:Bd w0 B pb T rest s)(h0:s≠[]):Calls prog 199 #[V pb] w0 (Td λv w'=>v=I s/\Same (Wk w0 B pb) w0 w'):=by
  rcases hB.shp with ⟨rfl,rfl⟩|⟨rfl,m,i,rfl⟩
  ·exact MW w0 B pb s hB h0
  exact KY w0 B pb m i s hB h0
structure BW (w0:World) (Ds:List Nat) (w:World) (B pb T:Nat) (rest:List Value) (s:Str):Prop where
  bd:Bd w B pb T rest s
  sub:∀x∈Wk w B pb,x<w0.heap.size->x∈Ds
  ge:w0.heap.size<=w.heap.size
section
variable {w0 w w':World}{Ds E:List Nat}{bs_:List (Nat × Obj)}{B pb T:Nat}{rest:List Value}{s t:Str}
theorem BW.start(h:Bd w0 B pb T rest s):BW w0 (Wk w0 B pb) w0 B pb T rest s:=⟨h,λx hx _=>hx,gQ _⟩
theorem BW.own(h:Bd w B pb T rest s)(hb:w0.heap.size<=B)(hg:w0.heap.size<=w.heap.size):BW w0 Ds w B pb T rest s :=
  ⟨h,λx hx hl=>by
    have:=h.le;rcases Hh.1 hx with rfl|⟨-,h2,-⟩ <;> omega,hg⟩
theorem BW.lt(h:BW w0 Ds w B pb T rest s):pb<w.heap.size:=h.bd.lt
theorem BW.wrote(h:BW w0 Ds w B pb T rest s)(hb:Bd w' B pb T rest t)(hs:Same (Wk w B pb) w w'):BW w0 Ds w' B pb T rest t :=
  ⟨hb,λx hx hl=>by
    rcases Wk.step hs hx with h1|h1
    ·exact h.sub x h1 hl
    have:=h.ge;omega,fQ h.ge hs.size⟩
theorem FR.wrote(hF:FR w0 Ds bs_ w)(h:BW w0 Ds w B pb T rest s)(hs:Same (Wk w B pb) w w')(hb:∀p∈bs_,Yl p.2=false/\p.1≠pb):FR w0 Ds bs_ w' :=
  hF.touch hs λx hx=>⟨h.sub x hx,λp hp e=>by
    have h1:=hb p hp;rcases Hh.1 hx with h2|⟨-,-,h3⟩
    ·exact h1.2 (e.trans h2)
    rw[<-e,Bw (hF.memHeap hp),h1.1]at h3;cases h3⟩
theorem Bd.same(h:Bd w B pb T rest s)(hs:Same E w w')(hp:pb∉E)(he:∀x∈E,Ew w x=false):Bd w' B pb T rest s:=by
  obtain⟨h1,h2,ap,v,h3,h4,h5⟩:=h;refine⟨h1,h2,ap,v,(hs.block pb (Ma h3) hp).trans h3,Qj h4 hs (λg hg hm=>?_),h5⟩;have:=(Hq h4 hg).2.2;rw[he g hm]at this;cases this
theorem Bd.ext(h:Bd w B pb T rest s)(hs:Same [] w w'):Bd w' B pb T rest s:=h.same hs Da Da
theorem BW.step(h:BW w0 Ds w B pb T rest s)(hs:Same E w w')(hp:pb∉E)(he:∀x∈E,Ew w x=false)(he':∀x∈E,Ew w' x=false):BW w0 Ds w' B pb T rest s :=
  ⟨h.bd.same hs hp he,λx hx hl=>by
    refine h.sub x (Hh.2 ?_) hl;have hl2:=Nat.lt_of_lt_of_le hl h.ge;rcases Hh.1 hx with rfl|⟨-,h2,h3⟩
    ·exact .inl O
    refine .inr ⟨hl2, h2, ?_⟩;have hn:x∉E:=λhm=>by rw[he' x hm]at h3;cases h3
    rw[Ew,<-hs.block x hl2 hn];exact h3,fQ h.ge hs.size⟩
theorem BW.ext(h:BW w0 Ds w B pb T rest s)(hs:Same [] w w'):BW w0 Ds w' B pb T rest s:=h.step hs Da Da Da
theorem Rep.off{d:D}{cs:List Value}(h:Rep (λx=>x∉Wk w B pb) w d cs)(hs:Same (Wk w B pb) w w'):Rep (λx=>x∉Wk w' B pb) w' d cs :=
  ((h.old).same hs (λb hb hn=>hn.1 hb)).weaken λx hx _ hm=>by
    rcases Wk.step hs hm with h1|h1
    ·exact hx.1 h1
    have:=hx.2;omega
theorem Rep.off_ext{d:D}{cs:List Value}(h:Rep (λx=>x∉Wk w B pb) w d cs)(hp:pb<w.heap.size)(hs:Same [] w w'):Rep (λx=>x∉Wk w' B pb) w' d cs:=h.off (hs.mono Da)
end
section
variable {P:Program}{w:World}{ρ:Operand->Value}{dst:Option Nat}{ty:TypeId}{pos:String}{aft:Array Edge}{g:Option (Nat × Bool)}
theorem x_and{t t':TypeId}{x y:Operand}{k:IntKind}{a b c:Int}(hx:ρ x=.int k a)(hy:ρ y=.int k b)(h:bits .and k a b=c) :
    (execOp ρ ⟨dst,.binOp .and t x y t',ty,pos,aft,g⟩).run P w=.ok (.value (.int k c)) w:=by
  simp[execOp,hx,hy,Xe,binOp,intBits_and,h]
theorem x_shr{t t':TypeId}{x y:Operand}{k k2:IntKind}{a c:Int}(m:Nat)(hx:ρ x=.int k a)(hy:ρ y=.int k2 m)(hm:m<=k.bits)(h:a.fdiv (2 ^ m)=c) :
    (execOp ρ ⟨dst,.binOp .shr t x y t',ty,pos,aft,g⟩).run P w=.ok (.value (.int k c)) w:=by
  have hg:(eqGuard .shr t x y (.int k a) (.int k2 m)).run P w=.ok () w:=by unfold eqGuard;simp
  have h0:¬((m:Int)<0):=by omega
  simp[execOp,hx,hy,hg,binOp,Op.shift,h0,Nat.min_eq_left hm,h]
theorem Wz{t e N:Nat}{x y:Operand}{kk:IntKind}{b:Nat}(i:Nat)(ht:P.underlying t=some (.array N e))(hs:∀w,(sizeOf e).run P w=.ok 1 w)(hx:ρ x=V b)(hy:ρ y=.int kk (i:Int))(h1:i<N) :
    (execOp ρ ⟨dst,.indexAddr t x y,ty,pos,aft,g⟩).run P w=.ok (.value (.pointer (some ⟨b,i,none⟩))) w:=by
  have h2:(0:Int)<=(i:Int)/\(i:Int)<(N:Int):=by omega
  have e1:(⟨b,0,none⟩:Addr).add i=⟨b,i,none⟩:=by rw[Fl,Nat.zero_add]
  simp[execOp,hx,hy,Instr.indexAt,run_underlying ht,Instr.sureAddr,asIntOf,h2,hs,e1];intro hh;omega
theorem UN{t e N:Nat}{x y:Operand}{kk:IntKind}{b:Nat}(i:Nat)(ht:P.underlying t=some (.array N e))(hs:∀w,(sizeOf e).run P w=.ok 1 w)(hx:ρ x=V b)(hy:ρ y=.int kk (i:Int))(h1:i<N) :
    (execOp ρ ⟨dst,.slice t x (some y) none none,ty,pos,aft,g⟩).run P w=.ok (.value (.slice (some ⟨b,i,none⟩) (N-i) (N-i))) w:=by
  have h0:¬N=i:=by omega
  have e1:(⟨b,0,none⟩:Addr).add i=⟨b,i,none⟩:=by rw[Fl,Nat.zero_add]
  have e2:(0:Int)<=(i:Int)/\(i:Int)<=(N:Int):=by omega
  simp[execOp,hx,hy,Instr.sliceAt,run_underlying ht,Instr.sureAddr,Instr.sliceBounds,run_sliceBound,hs,e1,h0,e2]
theorem x_convBs{t t' e:Nat}{x:Operand}{a:Addr}{n c:Nat}(s:Str)(ht:P.underlying t=some (.slice e))(he:P.underlying e=some (.int .u8))(hd:P.underlying t'=some .string)(hx:ρ x=.slice (some a) n c)(hn:s.length=n)
    (h:∀j (hj:j<s.length),w.cell? (a.add j)=some (.int .u8 (s[j].toNat:Int))) :
    (execOp ρ ⟨dst,.convert t t' x,ty,pos,aft,g⟩).run P w=.ok (.value (I s)) w:=by
  have hl:=Ss (P:=P) a w ((s.map λu=>(u.toNat:Int)).map (Value.int .u8)) (m:=n) (by simp[hn]) (λj hj=>by simp at hj ⊢;exact h j hj);have hb:=run_bytesToString w a n c (s.map λu=>(u.toNat:Int)) hl;have e1:∀(l:Str)(acc:ByteArray),(l.map λu=>(u.toNat:Int)).foldl (λr n=>r.push (UInt8.ofNat n.toNat)) acc=⟨acc.data++l.toArray⟩:=by
    intro l
    induction l with
    | nil=>intro acc;simp
    | cons u l ih=>intro acc;rw[List.map_cons,List.foldl_cons,ih];simp[ByteArray.push]
  rw[e1]at hb;simp[execOp,hx,run_convert_bytes_string w t t' e _ _ _ ht he hd,hb]
end
def FP:List Value:=List.replicate 65 (.int .u8 0)
def J0:Str:=[48,49,50,51,52,53,54,55,56,57,97,98,99,100,101,102,103,104,105,106,107,108,109,110,111,112,113,114,115,116,117,118,119,120,121,122]
def dg(k:Nat):UInt8:=J0.getD k 0
def Oo(r:Nat):Str:=if r<16 then [dg r] else [dg (r/16),dg (r%16)]
theorem D5{k:Nat}(h:k<J0.length):J0[k]=dg k:=by simp[dg,h]
theorem wrap64:∀r<32,IntKind.u64.wrap ((r:Nat):Int)=r:=by decide
theorem and15:∀u<32,bits .and .u64 ((u:Nat):Int) 15=((u%16:Nat):Int):=by decide
theorem tz64_c(w0:World)(hG:Gl w0):Calls prog 229 #[.int .u64 16] w0 (Td λv w'=>v=J 4/\Same [] w0 w'):=by
 obtain⟨e,fz,hbr⟩:=hG.bru;refine Ga func229 O ntmps229 Fb (Ad _) ?_;have hF:=FR.start w0 [];refine Ja (Ca (Sc O) (Ea (Ha (Ja (Ca (Kb O) (Ka (v:=.bool false) (Je (Vp O O) Ua) (Ea (Kg O (Ta ?_)))))))));refine Ia (Ja (Ca (Kb O) (Ca (Kb O) (Ka (v:=.int .u64 18446744073709551600) (x_neg O Ua) (Ka (v:=.int .u64 16) (x_and O O Ua) (Ka (v:=.int .u64 4573923408821661840) (JK O O Ua) (Ka (v:=.int .u64 15) (x_shr 58 O O Ua Ua) (Ka (v:=.pointer (some (⟨6,15,none⟩))) (Wz 15 underlying322 sizeOf5 O O Ua) ?_))))))));refine Ka (v:=.int .u8 4) (Jb isAgg5 O (by rw[Pb (hF.heap0 hbr)];rfl)) ?_;refine Ka (v:=J 4) (Si underlying5 iX O Ua) (Ca (Sc O) (Ea ?_));refine Qd (v:=J 4) O O ?_;exact⟨O,hF.same⟩
theorem tz_c(w0:World)(hG:Gl w0):Calls prog 205 #[.int .u64 16] w0 (Td λv w'=>v=J 4/\Same [] w0 w'):=by
 refine Ga func205 O ntmps205 Fb (Ad _) ?_;have hF:=FR.start w0 [];refine Ja (Ca (Sc O) (Ea (Ha (Gy O (Ja (Ca (Kb O) ?_))))));refine Gb hF (tz64_c _ (hG.ext hF.same)) (Ra en_229 O O) ?_;intro w hF;refine Ca (Sc O) (Ea ?_);refine Qd (v:=J 4) O O ?_;exact⟨O,hF.same⟩
theorem pow2_c(w0:World):Calls prog 204 #[J 16] w0 (Td λv w'=>v=.bool true/\Same [] w0 w'):=by
 refine Ga func204 O ntmps204 Fb (Ad _) ?_;have hF:=FR.start w0 [];refine Ja (Ca (Hc O) (Fc (Ca (Kb O) (Ca (Kb O) (Ka (v:=J 15) (S5 O O Ua) (Ka (v:=J 0) (x_and O O Ua) (Ka (v:=.bool true) (Xi (Vp O O) Ua) (Ca (Hc O) (Db ?_)))))))));refine Ia (Qd (v:=.bool true) O O ?_);exact⟨O,hF.same⟩
theorem BF(w0:World)(hG:Gl w0)(r:Nat)(hr:r<32):Calls prog 174 #[aQ,.int .u64 (r:Int),J 16,.bool false,.bool false] w0 (Td λv w'=>v=.tuple #[aQ,I (Oo r)]/\Same [] w0 w'):=by
  refine Ga func174 O ntmps174 Fb (U_ _ _ _ _ _) ?_;have hF:=FR.start w0 [];refine Ha (Fa ?_);refine Ca (Qg O) (Ca (Qm O) ?_);refine Db (Ia ?_);refine Ha (Ha ?_);refine Fa (Ca (Kb O) ?_);refine Ka (v:=.bool false) (Je (SC O O) Ua) (Ca (Ae O) ?_);refine Ca (Kb O) (Ka (v:=.bool false) (Je (Vp O O) Ua) ?_);refine Ca (Md O O) (Ca (Ae O) ?_);refine Ca (Kb O) (Ka (v:=.bool false) (Je (CQ O O) Ua) ?_);refine Ca (Md O O) (Db ?_);refine Ia (Kg O ?_);refine Ta (Ia ?_);refine Ha (Fa ?_);refine Od (cs:=(List.toArray FP)) hF zeroValue271 Mb ?_;intro b1 w hb1 hF hE;refine Db (Ia ?_);refine Ha (Fa ?_);refine Ca (Sc O) (Db ?_);refine Ia (Ha ?_);refine Ha (Fa ?_);refine Ca (Ae O) (Db ?_);refine Ia (Kg O ?_);refine Ta (Ia ?_);refine Ha (Ha ?_);refine Fa (Ca (Kb O) ?_);refine Gb hF (pow2_c _) (Ra en_204 O O) ?_;intro w hF;refine Db (Ia ?_);refine Ge O (Ha ?_);refine Fa (Ca (Kb O) ?_);refine Ka (v:=.int .u64 16) (Si iX underlying105 O Ua) (Gb hF (tz_c _ (hG.ext hF.same)) (Ra en_205 O O) ?_);intro w hF;refine Ka (v:=.int .u64 4) (Si iX underlying105 O Ua) (Ca (Sc O) ?_);refine Db (Ia ?_);refine Ha (Fa ?_);refine Ca (Kb O) (Ka (v:=.int .u64 16) (Si iX underlying149 O Ua) ?_);refine Ca (Sc O) (Db ?_);refine Ia (Ha ?_);refine Fa (Ca (Kb O) ?_);refine Ka (v:=.int .u64 16) (Si iX underlying105 O Ua) (Ka (v:=.int .u64 15) (S5 O O Ua) ?_);refine Ca (Sc O) (Db ?_);refine Ia (Ha ?_);refine Va (Rc (λμ σ w=>∃(u:Nat),∃(i:Nat),∃(cs:List Value),μ=2*u/\((u=r/\i=65/\cs=FP)\/(16<=r/\u=r/16/\i=64/\cs=FP.set 64 (.int .u8 ((dg (r%16)).toNat:Int))))/\AllEq σ [(0,aQ),(1,.int .u64 ((u:Int))),(3,.bool false),(4,.bool false),(10,aQ),(11,I []),(12,V b1),(13,J ((i:Int))),(14,.int .u64 4),(15,.int .u64 16),(16,.int .u64 15)]/\FR w0 [] [(b1,.cells (List.toArray cs) 271)] w) _ ⟨r,65,FP,O,(.inl ⟨O,O,O⟩),⟨O,O,O,O,O,O,O,O,O,O,O,trivial⟩,hF⟩ ?_)
  rintro μ σ w ⟨u,i,cs,rfl,hI,hs,hF⟩;refine Cg.slots hs ?_;clear hs;intro σ;have hcl:cs.length=65:=by rcases hI with ⟨-,-,rfl⟩|⟨-,-,-,rfl⟩ <;> simp[FP]
  have hu32:u<32:=by omega
  refine Ha (Ha ?_);refine Fa (Ca (Kb O) ?_);refine Ca (Kb O) (Ca (GC O O) ?_);refine Db (Ia ?_);refine Pc O O (λhc3=>?_) (λhc3=>?_)
  ·
   refine Ta (Ia ?_);refine Va (Ha ?_);refine Fa (Ca (Kb O) ?_);refine Ca (U9 (((64:Nat):Int)) O O) (Ca (Sc O) ?_);refine Db (Ia ?_);refine Ha (Fa ?_);refine Ca (Kb O) (Ca (Kb O) ?_);refine Ca (Kb O) (Ka (v:=.int .u64 (((u%16:Nat):Int))) (x_and O O (and15 u sX)) ?_);refine Ka (v:=.int .u8 (((dg (u%16)).toNat:Int))) (by rw[<-D5 (show u%16<J0.length by show u%16<36;omega)];exact Kk (u%16) kX O O _) ?_;refine Ka (v:=.pointer (some ⟨b1,64,none⟩)) (Wz 64 underlying271 sizeOf5 O O Ua) ?_;refine Zf 0 (l:=[.int .u8 (((dg (u%16)).toNat:Nat):Int)]) (cs':=(List.toArray (cs.set 64 (.int .u8 (((dg (u%16)).toNat:Nat):Int))))) hF sizeOf5 O (v:=.int .u8 (((dg (u%16)).toNat:Nat):Int)) O O Le O (by simp[hcl] <;> omega) (by simp[putA]) ?_;intro w hF hE;have hF:FR w0 [] [(b1,.cells (List.toArray (cs.set 64 (.int .u8 (((dg (u%16)).toNat:Nat):Int)))) 271)] w:=hF;refine Db (Ia ?_);refine Fa (Ca (Kb O) ?_);refine Ca (Kb O) ?_;refine Ka (v:=.int .u64 (((u/16:Nat):Int))) (x_shr 4 O O Ua (by rw[Int.fdiv_eq_ediv_of_nonneg _ Ua];omega)) ?_;refine Ca (Sc O) (Db ?_);refine Ib ?_;refine Yb ⟨_,?_,u/16,64,cs.set 64 (.int .u8 (((dg (u%16)).toNat:Nat):Int)),rfl,(.inr (by rcases hI with ⟨rfl,rfl,rfl⟩|⟨h16,rfl,rfl,rfl⟩ <;> first|omega|exact⟨by omega,rfl,rfl,rfl⟩)),⟨rfl,rfl,rfl,rfl,rfl,rfl,rfl,rfl,rfl,rfl,rfl,trivial⟩,hF⟩;omega
  refine Nc (Kc O ?_);refine Ia (Ha ?_);refine Fa (Ca (Kb O) ?_);refine Ca (U9 (((i-1:Nat):Int)) O O) (Ca (Sc O) ?_);refine Db (Ia ?_);refine Fa (Ca (Kb O) ?_);refine Ca (Kb O) ?_;refine Ka (v:=.int .u8 (((dg u).toNat:Int))) (by rw[<-D5 (show u<J0.length by show u<36;omega)];exact Kk u kX O O _) ?_;refine Ka (v:=.pointer (some ⟨b1,(i-1),none⟩)) (Wz (i-1) underlying271 sizeOf5 O O sX) ?_;refine Zf 0 (l:=[.int .u8 (((dg (u)).toNat:Nat):Int)]) (cs':=(List.toArray (cs.set (i-1) (.int .u8 (((dg (u)).toNat:Nat):Int))))) hF sizeOf5 O (v:=.int .u8 (((dg (u)).toNat:Nat):Int)) O O Le O (by simp[hcl] <;> omega) (by simp[putA]) ?_;intro w hF hE;have hF:FR w0 [] [(b1,.cells (List.toArray (cs.set (i-1) (.int .u8 (((dg (u)).toNat:Nat):Int)))) 271)] w:=hF;refine Db (Ia ?_);refine Ha (Ha ?_);refine Fa (Ca (Ae O) ?_);refine Db (Ia ?_);refine Kg O (Ta ?_);refine Ia (Ha ?_);refine Ha (Fa ?_);refine Ca (Ae O) (Db ?_);refine Ia (Kg O ?_);refine Ta (Ia ?_);refine Ha (Fa ?_);refine Ca (Kb O) (Ka (v:=.slice (some ⟨b1,i-1,none⟩) (65-(i-1)) (65-(i-1))) (UN (i-1) underlying271 sizeOf5 O O sX) ?_);have hfin:(Oo r).length=65-(i-1)/\∀j (hj:j<(Oo r).length),w.cell? ((⟨b1,i-1,none⟩:Addr).add j)=some (.int .u8 ((Oo r)[j].toNat:Int)):=by
    have hh:=hF.heap (i:=0) rfl;rcases hI with ⟨rfl,rfl,rfl⟩|⟨h16,rfl,rfl,rfl⟩
    ·have h1 : Oo u = [dg u] := by rw[Oo, if_pos sX]
     refine⟨by rw[h1];rfl,λj hj=>?_⟩;have hj0:j=0:=by rw[h1]at hj;simpa using hj
     subst hj0;rw[Fl,Pb hh];simp[h1,FP]
    have h1 : Oo r = [dg (r/16), dg (r%16)] := by rw[Oo, if_neg sX]
    refine⟨by rw[h1];rfl,λj hj=>?_⟩;have hj2:j=0\/j=1:=by rw[h1]at hj;simp at hj;omega
    rw[Fl,Pb hh];rcases hj2 with rfl|rfl <;> simp[h1,FP]
  refine Ka (v:=I (Oo r)) (x_convBs (Oo r) cX underlying5 kX O hfin.1 hfin.2) (Ca (Qm O) ?_);refine Db (Ia ?_);refine Cc (Bc (Sa (Bg (v:=.slice _ _ _) (x:=I (Oo r)) O O O) ?_));exact⟨O,hF.same⟩
theorem fmtInt_c(w0:World)(hG:Gl w0)(r:Nat)(hr:r<32):Calls prog 130 #[J (r:Int),J 16] w0 (Td λv w'=>v=I (Oo r)/\Same [] w0 w'):=by
 refine Ga func130 O ntmps130 Fb (Zc _ _) ?_;have hF:=FR.start w0 [];refine Ja (Ca (Qm O) (Ea (Ha (Ja (Ca (Kb O) (Ka (v:=.bool false) (Je (Vp O O) Ua) (Ea (Kg O (Ta ?_)))))))));refine Ia (Ja (Ca (Kb O) (Ka (v:=.int .u64 ((r:Int))) (Si underlying2 underlying149 O (wrap64 r hr)) (Ca (Kb O) (Ca (Kb O) (Ka (v:=.bool false) (Je (SC O O) sX) ?_))))));refine Gb hF (BF _ (hG.ext hF.same) r hr) (Iu en_174 O O O O O O) ?_;intro w hF;refine Ca (Ro O) (Ca (VK O O) (Ca (FN O O) (Ca (Qg O) (Ca (Qm O) (Fc (Ca (Ug O) (Ca (Qm O) (Ea ?_))))))));refine Qd (v:=I (Oo r)) O O ?_;exact⟨O,hF.same⟩
theorem hex_c(w0:World)(hG:Gl w0)(r:Nat)(hr:r<32):Calls prog 283 #[J (r:Int),J 16] w0 (Td λv w'=>v=I (Oo r)/\Same [] w0 w'):=by
 refine Ga func283 O ntmps283 Fb (Zc _ _) ?_;have hF:=FR.start w0 [];refine Ja (Ca (Qm O) (Fc (Ca (Kb O) (Ca (Kb O) ?_))));refine Gb hF (fmtInt_c _ (hG.ext hF.same) r hr) (Za en_130 O O O) ?_;intro w hF;refine Ca (Qm O) (Ea ?_);refine Qd (v:=I (Oo r)) O O ?_;exact⟨O,hF.same⟩
def Xg(r:Int):Int:=if r=34 then 34 else if r=92 then 92 else if r=8 then 98 else if r=12 then 102 else if r=10 then 110 else if r=13 then 114 else if r=9 then 116 else 0
theorem letter_c(w0:World)(r:Int):Calls prog 281 #[.int .i32 r] w0 (Td λv w'=>v=.int .u8 (Xg r)/\Same [] w0 w'):=by
 refine Ga func281 O ntmps281 Fb (Ad _) ?_;have hF:=FR.start w0 [];refine Ja (Ca (Sc O) (Ea (Ha (Ja (Ca (Kb O) (Ea (Va (Ha (Ha ?_)))))))));refine Fa (Ca (Pq O O) (Ca (Hc O) (Ea ?_)));refine Pc O O (λhc0=>?_) (λhc0=>?_);refine Ta (Ia (Ge O (Ja (Ca (Kb O) ?_))));refine Ka (v:=.int .u8 (Xg r)) (Si underlying21 underlying5 rfl (by rcases (by first|exact .inl (by assumption)|exact .inr (by assumption):r=34\/r=92)with rfl|rfl <;> decide)) ?_;refine Ca (Sc O) (Ea ?_);refine Qd (v:=.int .u8 (Xg r)) O O ?_;refine⟨?_,hF.same⟩;simp_all[Xg];refine Fa (Ca (Pq O O) (Ca (Hc O) (Ea ?_)));refine Pc O O (λhc1=>?_) (λhc1=>?_);refine Ja (Ca (Kb O) ?_);refine Ka (v:=.int .u8 (Xg r)) (Si underlying21 underlying5 rfl (by rcases (by first|exact .inl (by assumption)|exact .inr (by assumption):r=34\/r=92)with rfl|rfl <;> decide)) ?_;refine Ca (Sc O) (Ea ?_);refine Qd (v:=.int .u8 (Xg r)) O O ?_;refine⟨?_,hF.same⟩;simp_all[Xg];refine Ja (Ca (Pq O O) (Ca (Hc O) (Ea ?_)));refine Pc O O (λhc2=>?_) (λhc2=>?_);refine Ja (Ca (Sc O) (Ea ?_));refine Qd (v:=.int .u8 98) O O ?_;refine⟨?_,hF.same⟩;simp_all[Xg];refine Ja (Ca (Pq O O) (Ca (Hc O) (Ea ?_)));refine Pc O O (λhc3=>?_) (λhc3=>?_);refine Ja (Ca (Sc O) (Ea ?_));refine Qd (v:=.int .u8 102) O O ?_;refine⟨?_,hF.same⟩;simp_all[Xg];refine Ja (Ca (Pq O O) (Ca (Hc O) (Ea ?_)));refine Pc O O (λhc4=>?_) (λhc4=>?_);refine Ja (Ca (Sc O) (Ea ?_));refine Qd (v:=.int .u8 110) O O ?_;refine⟨?_,hF.same⟩;simp_all[Xg];refine Ja (Ca (Pq O O) (Ca (Hc O) (Ea ?_)));refine Pc O O (λhc5=>?_) (λhc5=>?_);refine Ja (Ca (Sc O) (Ea ?_));refine Qd (v:=.int .u8 114) O O ?_;refine⟨?_,hF.same⟩;simp_all[Xg];refine Ja (Ca (Pq O O) (Ca (Hc O) (Ea ?_)));refine Pc O O (λhc6=>?_) (λhc6=>?_);refine Ja (Ca (Sc O) (Ea ?_))
 refine Qd (v:=.int .u8 116) O O ?_;refine⟨?_,hF.same⟩;simp_all[Xg];refine Ta (Ib (Ia (Ja (Ca (Sc O) (Ea ?_)))));refine Qd (v:=.int .u8 0) O O ?_;refine⟨?_,hF.same⟩;simp_all[Xg]
def C4(r:Nat):Str:=if Xg r≠0 then [92,UInt8.ofNat (Xg r).toNat] else if 32<=r then Vm r else [92,117]++Lib.repeatL [48] (4-(Oo r).length)++Oo r
def K6:Nat->Str->Nat->Str
  | 0,_,_=>[]
  | f+1,s,p=>if p<s.length then C4 (Utf8.decode (bs s) p).1++K6 f s (p+(Utf8.decode (bs s) p).2) else []
theorem XP:∀(f g:Nat)(s:Str)(p:Nat),s.length-p<=f->s.length-p<=g->K6 f s p=K6 g s p
  | 0,0,_,_,_,_=>rfl
  | 0,g+1,s,p,h,_=>by rw[K6,K6,if_neg sX]
  | f+1,0,s,p,_,h=>by rw[K6,K6,if_neg sX]
  | f + 1, g + 1, s, p, h1, h2 => by
    rw[K6,K6];split
    ·have h3 := Ph s p
     rw[XP f g s _ sX sX]
    rfl
def Uy(s:Str)(p:Nat):Str:=K6 (s.length-p) s p
theorem Zu{s:Str}{p:Nat}(h:p<s.length):Uy s p=C4 (Utf8.decode (bs s) p).1++Uy s (p+(Utf8.decode (bs s) p).2):=by
  have h3:=Ph s p;obtain⟨f,hf⟩:∃f,s.length-p=f+1:=⟨s.length-p-1,by omega⟩;rw[Uy,hf,K6,if_pos h,Uy,XP f (s.length-(p+(Utf8.decode (bs s) p).2)) s _ sX sX]
theorem VC{s:Str}{p:Nat}(h:¬p<s.length):Uy s p=[]:=by
  have e:s.length-p=0:=by omega
  rw[Uy,e,K6]
def Y8(s:Str):Str:=[34]++Uy s 0++[34]
theorem Xy(r:Int):0<=Xg r/\Xg r<256:=by
  unfold Xg
  repeat' split
  all_goals omega
theorem Fp(r:Nat):1<=(Oo r).length/\(Oo r).length<=2:=by unfold Oo;split <;> simp
theorem Tu(n:Nat):(Lib.repeatL [48] n).length=n:=by
  induction n with
  | zero=>rfl
  | succ n ih=>simp[Lib.repeatL,ih];try omega
theorem Wr(r:Nat):(C4 r).length<=6:=by
  unfold C4;have h1:=Dv r;have h2:=Fp r
  repeat' split
  ·simp
  ·omega
  simp[Tu];omega
theorem Bi{w0:World}{B pb T:Nat}{rest:List Value}{s:Str}(hB:Bd w0 B pb T rest s)(z:Int)(h0:0<=z)(h1:z<256)(hl:s.length+1<=140737488355328):Zz 276 #[V pb,.int .u8 z] .nilIface w0 B pb T rest (s++[UInt8.ofNat z.toNat]):=by
  have h:=Rr hB (UInt8.ofNat z.toNat) hl;have e:(((UInt8.ofNat z.toNat).toNat:Nat):Int)=z:=by simp only[UInt8.toNat_ofNat'];omega
  rwa [e]at h
theorem quote_c(w0:World)(hG:Gl w0)(s:Str)(hl:s.length<=17592186044416):Calls prog 275 #[I s] w0 (Td λv w'=>v=(if Lib.validD s=true then .tuple #[I (Y8 s),J 0] else .tuple #[I [],J 2])/\Same [] w0 w'):=by
 refine Ga func275 O ntmps275 Fb (Ad _) ?_;have hF:=FR.start w0 [];refine Ja (Ca (Qm O) (Ca (Sc O) (Ea (Ha (Ja (Ca (Ug O) ?_))))));refine Cb (Q6 s sX _ (hG.ext hF.same)) (Ra JQ O O) ?_;rintro _ w ⟨n0,rfl,hE⟩;have hF:=hF.ext hE;refine Ca (Ro O) (Ca (Rs O O) (Ca (Fq O O) (Ca (Sc O) (Ca (Hc O) (Fc (Ca (Ae O) (Ca (Zj O) (Ea ?_))))))));refine Uf O O (λhc0=>?_) (λhc0=>?_);refine Ja (Ca (Qm O) (Ca (Sc O) (Ea ?_)));refine Cc (Bc (Sa (Bg (v:=I []) (x:=J 2) O O O) ?_));exact⟨by rw[if_neg (by simpa using hc0)],hF.same⟩;refine Ta (Ia (Ja ?_));refine Od (cs:=#[.pointer none,aQ]) hF zeroValue263 O ?_;rintro b1 w hb1 hF -;refine Fc ?_;have hBn:BW w0 [] w b1 b1 263 [] []:=BW.own ⟨.inl ⟨rfl,rfl⟩,gQ _,_,_,hF.heap (i:=0) rfl,World.ownsRow_nil _ _ _ _,.inl rfl⟩ (hF.ge (i:=0) rfl) hF.same.size;have hB:=hBn;have hF:=hF.drop 1;have hF:FR w0 [] [] w:=hF;have ho:(0:Nat)<=0/\([]:Str).length<=0:=by simp
 refine Cb (Bi hB.bd (34) sX sX Da) (Za Br O O O) ?_;rintro _ w ⟨rfl,hBd,hE⟩;have hF:=hF.wrote hB hE Da;have hB:=hB.wrote hBd hE;clear hBd hE;refine Ea (Ha (Ja (Ca (Ug O) ?_)));refine O0 (str:=s) hF kX O ?_;intro b2 w hb2 hF hE;have nb2:b2≠b1:=by have:=hB.lt;omega
 have hB:=hB.ext hE;refine Ea (Va ?_);refine Rc (λμ σ w=>∃(q:Nat),∃(o:Str),μ=s.length-q/\(o++Uy s q=[34]++Uy s 0)/\(o.length<=1+6*q/\o.length<=1+6*s.length)/\(BW w0 [] w b1 b1 263 [] o)/\AllEq σ [(6,V b1),(20,V b2)]/\FR w0 [] [(b2,.stringIter (bs s) (q))] w) _ ⟨0,[34],O,(O),Da,(hB),ED,hF⟩ ?_;rintro μ σ w ⟨q,o,rfl,hq,ho,hB,hs,hF⟩;refine Cg.slots hs ?_;clear hs;intro σ;have hr2:Ew w b2=false:=by rw[Bw (hF.heap (i:=0) rfl)];rfl
 refine Ja ?_;by_cases hn0:(q)<(s:Str).length;refine X6 0 (p:=q) (str:=s) hF O O hn0 ?_;intro w hF hE;have hB:=hB.step hE (by simpa using nb2.symm) (by simpa using hr2) (by simp[Bw (hF.heap (i:=0) rfl),Yl]);refine Ca (Fq O O) (Ea (Ha (Ge O (Ta (Ia (Va (Ja (Ca (Rs O O) (Ca (Sc O) (Ea ?_))))))))));refine Ha (Ja (Ca (Kb O) ?_));refine Cb (letter_c _ (((Utf8.decode (bs s) q).1:Nat):Int)) (Ra en_281 O O) ?_;rintro _ w ⟨rfl,hE⟩;have hF:=hF.ext hE;have hB:=hB.ext hE;refine Ca (Sc O) (Fc (Ca (Kb O) (Ca (Mz O O) (Ea ?_))));refine Pc O O (λhc2=>?_) (λhc2=>?_);refine Ja ?_;refine Cb (Bi hB.bd (92) sX sX (by have h1:=ho.1;have h2:=ho.2;simp;omega)) (Za Br O O O) ?_;rintro _ w ⟨rfl,hBd,hE⟩;have hF:=hF.wrote hB hE (by simp[Yl,nb2]);have hB:=hB.wrote hBd hE;clear hBd hE;refine Fc (Ca (Kb O) ?_);refine Cb (Bi hB.bd (Xg (((Utf8.decode (bs s) q).1:Nat):Int)) (Xy _).1 (Xy _).2 (by have h1:=ho.1;have h2:=ho.2;simp;omega)) (Za Br O O O) ?_;rintro _ w ⟨rfl,hBd,hE⟩;have hF:=hF.wrote hB hE (by simp[Yl,nb2]);have hB:=hB.wrote hBd hE;have e1:o++[UInt8.ofNat (92:Int).toNat]++[UInt8.ofNat (Xg (((Utf8.decode (bs s) q).1:Nat):Int)).toNat]=o++C4 (Utf8.decode (bs s) q).1:=by rw[C4,if_pos (by simpa using hc2)];simp
 rw[e1]at hB;clear hBd hE;refine Ea (Nc (Kc O ?_));have h1:=Ph s q;refine Yb ⟨_,?_,q+(Utf8.decode (bs s) q).2,o++C4 (Utf8.decode (bs s) q).1,O,(by rw[sQ,<-Zu sX];exact hq),(by have h1:=Ph s q;have h2:=Wr (Utf8.decode (bs s) q).1;rw[dQ];omega),(hB),ED,hF⟩;omega;refine Ta (Ia (Ha (Ja (Ca (Kb O) (Ca (GC O O) (Ea ?_))))));refine Pc O O (λhc3=>?_) (λhc3=>?_);refine Ja (Ca (Kb O) ?_);refine Cb (KI hB.bd (((Utf8.decode (bs s) q).1:Nat):Int) sX (by have:=Lib.rune_le (bs s) q;omega) (by have h1:=ho.1;have h2:=ho.2;simp;omega)) (Za en_282 O O O) ?_;rintro _ w ⟨rfl,hBd,hE⟩;have hF:=hF.wrote hB hE (by simp[Yl,nb2]);have hB:=hB.wrote hBd hE;have e1:o++Vm (((Utf8.decode (bs s) q).1:Nat):Int)=o++C4 (Utf8.decode (bs s) q).1:=by rw[C4,if_neg (by simpa using hc2),if_pos sX]
 rw[e1]at hB;clear hBd hE;refine Ea (Nc (Kc O ?_));have h1:=Ph s q;refine Yb ⟨_,?_,q+(Utf8.decode (bs s) q).2,o++C4 (Utf8.decode (bs s) q).1,O,(by rw[sQ,<-Zu sX];exact hq),(by have h1:=Ph s q;have h2:=Wr (Utf8.decode (bs s) q).1;rw[dQ];omega),(hB),ED,hF⟩;omega;refine Ta (Ia (Ja (Ca (Kb O) (Ka (v:=J ((((Utf8.decode (bs s) q).1:Nat):Int))) (Si underlying21 underlying2 O (Es sX sX)) ?_))));refine Cb (hex_c _ (hG.ext hF.same) (Utf8.decode (bs s) q).1 sX) (Za en_283 O O O) ?_;rintro _ w ⟨rfl,hE⟩;have hF:=hF.ext hE;have hB:=hB.ext hE;refine Ca (Qm O) (Ea (Fa (Ca (Ug O) (Ca (GI kX O) (Ka (v:=J (((4-(Oo (Utf8.decode (bs s) q).1).length:Nat):Int))) (S5 O O (have:=Fp (Utf8.decode (bs s) q).1;Ul sX sX sX)) ?_)))));refine Cb (AB ((4-(Oo (Utf8.decode (bs s) q).1).length:Nat):Int) sX sX _) (Za GP O O O) ?_;rintro _ w ⟨rfl,hE⟩;have hF:=hF.ext hE;have hB:=hB.ext hE;refine Ka (v:=I (([92,117])++(Lib.repeatL [48] (4-(Oo (Utf8.decode (bs s) q).1).length)))) (Zs O O (by have:=Fp (Utf8.decode (bs s) q).1;simp[Tu];omega)) ?_;refine Ca (Ug O) ?_;refine Ka (v:=I ((([92,117])++(Lib.repeatL [48] (4-(Oo (Utf8.decode (bs s) q).1).length)))++(Oo (Utf8.decode (bs s) q).1))) (Zs O O (by have:=Fp (Utf8.decode (bs s) q).1;simp[Tu];omega)) ?_;refine Cb (Zl hB.bd _ (by have:=Fp (Utf8.decode (bs s) q).1;have h1:=ho.1;have h2:=ho.2;simp[Tu];omega)) (Za N9 O O O) ?_;rintro _ w ⟨rfl,hBd,hE⟩;have hF:=hF.wrote hB hE (by simp[Yl,nb2]);have hB:=hB.wrote hBd hE;have e1:o++((([92,117])++(Lib.repeatL [48] (4-(Oo (Utf8.decode (bs s) q).1).length)))++(Oo (Utf8.decode (bs s) q).1))=o++C4 (Utf8.decode (bs s) q).1:=by rw[C4,if_neg (by simpa using hc2),if_neg sX]
 rw[e1]at hB;clear hBd hE;refine Db (Ib ?_);have h1:=Ph s q;refine Yb ⟨_,?_,q+(Utf8.decode (bs s) q).2,o++C4 (Utf8.decode (bs s) q).1,O,(by rw[sQ,<-Zu sX];exact hq),(by have h1:=Ph s q;have h2:=Wr (Utf8.decode (bs s) q).1;rw[dQ];omega),(hB),ED,hF⟩;omega;refine Yu 0 (p:=q) (str:=s) hF O O hn0 (Ca (Fq O O) (Ea (Ha (Kg O ?_))));refine Nc (Kc O ?_);refine Ia (Ja ?_);refine Cb (Bi hB.bd (34) sX sX (by have h1:=ho.1;have h2:=ho.2;simp;omega)) (Za Br O O O) ?_;rintro _ w ⟨rfl,hBd,hE⟩;have hF:=hF.wrote hB hE (by simp[Yl,nb2]);have hB:=hB.wrote hBd hE;clear hBd hE;refine Fc (Cb (FJ hB.bd Da) (Ra en_199 O O) ?_);rintro _ w ⟨rfl,hE⟩;have hF:=hF.wrote hB hE (by simp[Yl,nb2]);refine Ca (Qm O) (Ca (Sc O) (Ea ?_));refine Cc (Bc (Sa (Bg (v:=I (o++[34])) (x:=J 0) O O O) ?_));refine⟨?_,hF.same⟩;rw[if_pos (by simpa using hc0),Y8,<-hq,VC sX,qQ]
def Hr(m:Bool)(ind d:Nat):Str:=if m then [10]++Lib.repeatL [32] (ind*d) else []
def qS(t:Str):Str:=if Lib.validD t=true then Y8 t else []
theorem Uv(c:UInt8)(n:Nat):(Lib.repeatL [c] n).length=n:=by
  induction n with
  | zero=>rfl
  | succ n ih=>simp[Lib.repeatL,ih];try omega
theorem H1(m:Bool)(ind d:Nat):(Hr m ind d).length<=1+ind*d:=by unfold Hr;split <;> simp[Uv] <;> omega
theorem VE(s:Str)(p:Nat):(Uy s p).length<=6*(s.length-p):=by
  induction h:s.length-p using Nat.strongRecOn generalizing p with
  | ind n ih =>
    by_cases hp:p<s.length
    ·rw[Zu hp, dQ]
     have h1:=Wr (Utf8.decode (bs s) p).1;have h2:=Ph s p;have h3:=ih (s.length-(p+(Utf8.decode (bs s) p).2)) sX (p+(Utf8.decode (bs s) p).2) rfl;omega
    rw[VC hp];simp
theorem OC(s:Str):(qS s).length<=6*s.length+2:=by
  unfold qS;split
  ·have := VE s 0
   simp[Y8];omega
  simp
theorem repeat_c(t:Str)(c:Nat)(h1:c<=9223372036854775807)(h2:t.length*c<=140737488355328)(w:World):Calls prog 169 #[I t,J (c:Int)] w (Td λv w'=>v=I (Lib.repeatL t c)/\Same [] w w'):=by
  have h:=strings_Repeat (bs t) c w h1 (by rw[Bs];exact h2);exact Sx h
theorem FX(t:Str)(hl:t.length<=17592186044416)(w0:World)(hG:Gl w0):Calls prog 275 #[I t] w0 (Td λv w'=>v=.tuple #[I (qS t),J (if Lib.validD t=true then 0 else 2)]/\Same [] w0 w'):=by
  refine Vn (quote_c w0 hG t hl) λv w' ⟨h1,h2⟩=>⟨?_,h2⟩;rw[h1,qS];split <;> rfl
theorem Bd.mul{w:World}{B pb T:Nat}{m:Bool}{ind:Int}{s:Str}(h:Bd w B pb T [.bool m,J ind] s):w.cell? ⟨pb,2,none⟩=some (.bool m):=by
  obtain⟨ap,v,hh,-⟩:=h.ex;rw[Pb hh];rfl
theorem Bd.ind{w:World}{B pb T:Nat}{m:Bool}{ind:Int}{s:Str}(h:Bd w B pb T [.bool m,J ind] s):w.cell? ⟨pb,3,none⟩=some (J ind):=by
  obtain⟨ap,v,hh,-⟩:=h.ex;rw[Pb hh];rfl
theorem Gl.wrote{w0 w:World}{B pb:Nat}(h:Gl w0)(hs:Same (Wk w0 B pb) w0 w)(hb:7<=B)(hp:B<=pb):Gl w:=h.same hs λx hx=>by
  rcases Hh.1 hx with rfl|⟨-,h1,-⟩ <;> omega
theorem NM(w0:World)(B pb:Nat)(m:Bool)(ind:Nat)(s:Str)(hBd:Bd w0 B pb 296 [.bool m,J (ind:Int)] s)(d:Nat)(hd:ind*d<=1000000000)(hl:s.length+(Hr m ind d).length<=140737488355328):Zz 277 #[V pb,J (d:Int)] (.tuple #[]) w0 B pb 296 [.bool m,J (ind:Int)] (s++Hr m ind d):=by
 unfold Zz;refine Ga func277 O ntmps277 Fb (Zc _ _) ?_;have hB:=BW.start hBd;have hF:=FR.start w0 (Wk w0 B pb);refine Ja (Ca (Re O) (Ca (Bh O) (Ca (Xb FG O) (Ka (v:=.bool (m)) (Jb cZ O hB.bd.mul) (Ea ?_)))));refine Uf O O (λhc0=>?_) (λhc0=>?_);rw[Hr,if_pos hc0]at hl;simp only[dQ,kQ,List.length_nil,Uv]at hl;refine Ja (Ca (Re O) (Ca (Bh O) (Ca (Xb Pj O) ?_)));refine Cb (Bi hB.bd 10 Ua Ua sX) (Za Br O O O) ?_;rintro _ w ⟨rfl,hBd,hE⟩;have hF:=hF.wrote hB hE Da;have hB:=hB.wrote hBd hE;clear hBd hE;refine Ea (Id (.of []) (bQ [0,1,2,3,4,5,6,7,8] (.act 9 (.act 10 .nil))) hF ?_);intro w hF hE;have hB:=hB.ext hE;refine⟨λwq=>FR w0 (Wk w0 B pb) _ wq/\∃s',Bd wq B pb 296 [.bool m,J (ind:Int)] s',⟨hF,⟨_,hB.bd⟩⟩,?_⟩;refine Hb O (Re O) (Hb O (Bh O) (Hb O (Xb Pj O) (Hb O (Re O) (Hb O (Bh O) (Hb O (Xb fa_296_2 O) ?_)))));refine Qa rfl (v:=J ((ind:Int))) (λw hC=>Jb bZ rfl (by obtain⟨-,s_,hs_⟩:=hC;exact hs_.ind)) ?_;refine Hb O (Kb O) (Qa O (v:=J (((ind*d:Nat):Int))) (λw hC=>JK O O (Ul (by rw[Int.natCast_mul]) sX sX)) ?_);refine Qb O (repeat_c [32] (ind*d) sX (by simp;omega) _) (Za GP O O O) ?_;rintro _ w ⟨rfl,hE⟩;have hF:=hF.ext hE;have hB:=hB.ext hE;refine⟨⟨hF,⟨_,hB.bd⟩⟩,?_⟩;refine Qb O (Zl hB.bd (Lib.repeatL [32] (ind*d)) (by simp[Uv];omega)) (Za N9 O O O) ?_;rintro _ w ⟨rfl,hBd,hE⟩;have hF:=hF.wrote hB hE Da;have hB:=hB.wrote hBd hE;clear hBd hE;refine⟨⟨hF,⟨_,hB.bd⟩⟩,?_⟩;refine Ec (Bf (Rd (Sg O) ?_));exact⟨O,by simpa[Hr,hc0]using hB.bd,hF.same⟩;refine Ta (Bf (Rd (Sg O) ?_));exact⟨O,by simpa[Hr,hc0]using hB.bd,hF.same⟩
theorem NB(w0:World)(B pb:Nat)(m:Bool)(ind:Nat)(s:Str)(hBd:Bd w0 B pb 296 [.bool m,J (ind:Int)] s)(hG:Gl w0)(h8:7<=B)(t:Str)(ht:t.length<=17592186044416)(hl:s.length+(qS t).length<=140737488355328):Zz 262 #[V pb,I t] (.tuple #[]) w0 B pb 296 [.bool m,J (ind:Int)] (s++qS t):=by
 unfold Zz;refine Ga func262 O ntmps262 Fb (Zc _ _) ?_;have hB:=BW.start hBd;have hF:=FR.start w0 (Wk w0 B pb);refine Ja (Ca (Ug O) ?_);refine Cb (FX t ht _ ((hG.wrote hF.same h8 hBd.le))) (Ra en_275 O O) ?_;rintro _ w ⟨rfl,hE⟩;have hF:=hF.ext hE;have hB:=hB.ext hE;refine Ca (Ro O) (Ca (FN O O) (Ca (Rs O O) (Ca (Qm O) (Ca (Sc O) (Ea (Fa (Ca (Re O) (Ca (Bh O) (Ca (Xb Pj O) (Ca (Ug O) ?_))))))))));refine Cb (Zl hB.bd (qS t) sX) (Za N9 O O O) ?_;rintro _ w ⟨rfl,hBd,hE⟩;have hF:=hF.wrote hB hE Da;have hB:=hB.wrote hBd hE;clear hBd hE;refine Db (Bf (Rd (Sg O) ?_));exact⟨O,hB.bd,hF.same⟩
def Tr(m:Bool)(ind d:Nat):Bool->List Str->Str
  | _,[]=>[]
  | first,p::ps=>(if first then [] else [44])++(Hr m ind (d+1)++(p++Tr m ind d false ps))
def Kr(m:Bool)(ind d:Nat)(o c:UInt8)(ps:List Str):Str:=[o]++(Tr m ind d true ps++((if ps=[] then [] else Hr m ind d)++[c]))
mutual
def Sm(m:Bool)(ind:Nat):Tree->Nat->Str
  | .node k t ks xs,d=>if k=1 then [110,117,108,108] else if k=4 then qS t else if k=5 then Kr m ind d 91 93 (Ex m ind xs (d+1)) else if k=6 then Kr m ind d 123 125 (Dr m ind xs ks (d+1)) else t
def Ex(m:Bool)(ind:Nat):List Tree->Nat->List Str
  | [],_=>[]
  | x::xs,d=>Sm m ind x d::Ex m ind xs d
def Dr(m:Bool)(ind:Nat):List Tree->List Str->Nat->List Str
  | [],_,_=>[]
  | x::xs,ks,d=>(qS (ks.headD [])++([58]++((if m then [32] else [])++Sm m ind x d)))::Dr m ind xs ks.tail d
end
theorem Jh:∀{xs:List Tree}{x:Tree},x∈xs->Cd x<=Ed xs
  | y :: ys, x, h => by
    rw[Ed];rcases oQ.1 h with rfl|h
    ·omega
    have:=Jh h;omega
theorem X1(m:Bool)(ind d:Nat):∀xs,Ex m ind xs d=xs.map (λx=>Sm m ind x d)
  | []=>by simp[Ex]
  | x::xs=>by simp[Ex,X1 m ind d xs]
def EN(m:Bool)(ind d:Nat)(k:Str)(x:Tree):Str:=qS k++([58]++((if m then [32] else [])++Sm m ind x d))
theorem Qu(m:Bool)(ind d:Nat):∀xs ks,(Dr m ind xs ks d).length=xs.length
  | [],ks=>by simp[Dr]
  | x::xs,ks=>by simp[Dr,Qu m ind d xs ks.tail]
theorem SB(m:Bool)(ind d:Nat):∀(xs:List Tree)(ks:List Str)(j:Nat)(h:j<xs.length)(hk:j<ks.length)(h':j<(Dr m ind xs ks d).length),(Dr m ind xs ks d)[j]=EN m ind d ks[j] xs[j]
  | x::xs,k::ks,0,_,_,_=>by simp[Dr,EN]
  | x :: xs, k :: ks, j + 1, h, hk, h' => by
    simp only[Dr,List.tail_cons,List.getElem_cons_succ];exact SB m ind d xs ks j (by simpa using h) (by simpa using hk) (by simpa[Dr]using h')
theorem QU(m:Bool)(ind d:Nat){ps:List Str}{j:Nat}(h:j<ps.length):Tr m ind d (decide (j=0)) (ps.drop j)=(if j=0 then [] else [44])++(Hr m ind (d+1)++(ps[j]++Tr m ind d (decide (j+1=0)) (ps.drop (j+1)))):=by
  rw[List.drop_eq_getElem_cons h,Tr];simp
mutual
def NQ:Tree->Prop|.node _ t ks xs=>t.length<=17592186044416/\(∀k∈ks,k.length<=17592186044416)/\VO xs
def VO:List Tree->Prop|[]=>True|x::xs=>NQ x/\VO xs
end
theorem L1:∀{xs:List Tree},VO xs->∀x∈xs,NQ x
  | [],_,_,h=>absurd h Da
  | y :: ys, h, x, hx => by
    rw[VO]at h;rcases oQ.1 hx with rfl|hx
    ·exact h.1
    exact L1 h.2 x hx
def ValC(x:Tree):Prop:=∀(m:Bool)(ind d:Nat)(w0:World)(B pb:Nat)(s:Str)(cs:List Value),Bd w0 B pb 296 [.bool m,J (ind:Int)] s->Gl w0->7<=B->Rep (λb=>b∉Wk w0 B pb) w0 (Zb x) cs->NQ x->Af nodeB x=true ->
  ind*(d+Cd x)<=1000000000->d+Cd x<=1000000000->s.length+(Sm m ind x d).length<=140737488355328->Zz 234 #[V pb,.agg cs.toArray,J (d:Int)] (.tuple #[]) w0 B pb 296 [.bool m,J (ind:Int)] (s++Sm m ind x d)
def ItemC(f:Nat)(k:Int)(t:Str)(ks:List Str)(xs:List Tree)(m:Bool)(ind d:Nat)(ps:List Str):Prop:=∀(j:Nat)(hj:j<ps.length)(w0:World)(B pb:Nat)(s:Str)(A B':Option Addr)(c e:Nat),Bd w0 B pb 296 [.bool m,J (ind:Int)] s->Gl w0->7<=B ->
  Rep (λb=>b∉Wk w0 B pb) w0 (Zb (.node k t ks xs)) [J k,I t,.slice A ks.length c,.slice B' xs.length e]->s.length+ps[j].length<=140737488355328 ->
  Zz f #[V pb,.agg #[J k,I t,.slice A ks.length c,.slice B' xs.length e],J (j:Int),J (d:Int)] (.tuple #[]) w0 B pb 296 [.bool m,J (ind:Int)] (s++ps[j])
theorem item_c(k:Int)(t:Str)(ks:List Str)(xs:List Tree)(m:Bool)(ind d:Nat)(j:Nat)(hj:j<xs.length)(w0:World)(B pb:Nat)(s:Str)(A B_:Option Addr)(c e:Nat)(hBd:Bd w0 B pb 296 [.bool m,J (ind:Int)] s)(hG:Gl w0)(h8:7<=B)(hX:Rep (λb=>b∉Wk w0 B pb) w0 (Zb (.node k t ks xs)) [J k,I t,.slice A ks.length c,.slice B_ xs.length e])(hv:∀x∈xs,ValC x)(hok:NQ (.node k t ks xs))(hn:Af nodeB (.node k t ks xs)=true)(hd:ind*(d+Ed xs)<=1000000000)(hd2:d+Ed xs<=1000000000)(hl:s.length+(Sm m ind xs[j] d).length<=140737488355328):Zz 264 #[V pb,.agg #[J k,I t,.slice A ks.length c,.slice B_ xs.length e],J (j:Int),J (d:Int)] (.tuple #[]) w0 B pb 296 [.bool m,J (ind:Int)] (s++Sm m ind xs[j] d):=by
 unfold Zz;rw[NQ]at hok;refine Ga func264 O ntmps264 Fb (Us _ _ _ _) ?_;have hB:=BW.start hBd;have hF:=FR.start w0 (Wk w0 B pb);refine Ja (Ve hF O ?_);intro b1 w hb1 hF hE;have nb1:b1≠pb:=by have:=hB.lt;omega
 have hX:=hX.off_ext hB.lt hE;have hB:=hB.ext hE;refine Ea (Fa (Ca (Re O) (Ca (Xb Jc O) (Yc (Rf yQ O hF.F 0 O O) (Ca (Kb O) ?_)))));obtain⟨A_,c_,B__,e_,heq_,-,-,hK_,hXs_⟩:=hX.tree_inv;simp only[List.cons.injEq,Value.slice.injEq,true_and,and_true]at heq_;obtain⟨⟨rfl,rfl⟩,rfl,rfl⟩:=heq_;obtain⟨ad0,cs0,hA0,hl0,hk0,hx0⟩:=hXs_.tree_elem (i:=j) sX;have ho0:=hx0.one_;refine Ka (v:=.pointer (some (ad0.add (j*4)))) (Pa (i:=(j:Int)) Hj O hA0 O sX sX) (Ka (v:=.agg (List.toArray cs0)) (Ya (l:=cs0) aZ oZ O hl0 hk0) (Ca (Kb O) ?_));refine Cb (hv xs[j] (eQ hj) m ind d _ B pb s _ hB.bd (hG.wrote hF.same h8 hBd.le) h8 hx0 (L1 hok.2.2 _ (eQ hj)) ((Lf hn).2 _ (eQ hj)) (by have h1:=Jh (eQ hj);exact fQ (Nat.mul_le_mul_left ind sX) hd) (by have h1:=Jh (eQ hj);omega) hl) (Ic QE O O O O) ?_;rintro _ w ⟨rfl,hBd2,hE⟩;have hF:=hF.wrote hB hE (by simp[Yl,nb1]);have hX:=hX.off hE;have hB:=hB.wrote hBd2 hE;clear hBd2 hE;refine Db (Bf (Rd (Sg O) ?_));exact⟨O,hB.bd,hF.same⟩
theorem member_c(k:Int)(t:Str)(ks:List Str)(xs:List Tree)(m:Bool)(ind d:Nat)(j:Nat)(hj:j<xs.length)(hjk:j<ks.length)(w0:World)(B pb:Nat)(s:Str)(A B_:Option Addr)(c e:Nat)(hBd:Bd w0 B pb 296 [.bool m,J (ind:Int)] s)(hG:Gl w0)(h8:7<=B)(hX:Rep (λb=>b∉Wk w0 B pb) w0 (Zb (.node k t ks xs)) [J k,I t,.slice A ks.length c,.slice B_ xs.length e])(hv:∀x∈xs,ValC x)(hok:NQ (.node k t ks xs))(hn:Af nodeB (.node k t ks xs)=true)(hd:ind*(d+Ed xs)<=1000000000)(hd2:d+Ed xs<=1000000000)(hl:s.length+(EN m ind d ks[j] xs[j]).length<=140737488355328):Zz 265 #[V pb,.agg #[J k,I t,.slice A ks.length c,.slice B_ xs.length e],J (j:Int),J (d:Int)] (.tuple #[]) w0 B pb 296 [.bool m,J (ind:Int)] (s++EN m ind d ks[j] xs[j]):=by
 unfold Zz;rw[NQ]at hok;rw[EN]at hl;simp only[dQ,kQ,List.length_nil]at hl;refine Ga func265 O ntmps265 Fb (Us _ _ _ _) ?_;have hB:=BW.start hBd;have hF:=FR.start w0 (Wk w0 B pb);refine Ja (Ve hF O ?_);intro b1 w hb1 hF hE;have nb1:b1≠pb:=by have:=hB.lt;omega
 have hX:=hX.off_ext hB.lt hE;have hB:=hB.ext hE;refine Fc (Ca (Re O) (Ca (Xb Of O) (Yc (Rf xQ O hF.F 0 O O) (Ca (Kb O) ?_))));obtain⟨A_,c_,B__,e_,heq_,-,-,hK_,hXs_⟩:=hX.tree_inv;simp only[List.cons.injEq,Value.slice.injEq,true_and,and_true]at heq_;obtain⟨⟨rfl,rfl⟩,rfl,rfl⟩:=heq_;obtain⟨ad0,hA0,hk0,hx0⟩:=hK_.str_elem (i:=j) sX;refine Ka (v:=.pointer (some (ad0.add (j*1)))) (Pa (i:=(j:Int)) Cr O hA0 O sX sX) (Ka (v:=I (ks[j])) (Jb fZ O hk0) ?_);refine Cb (NB _ B pb m ind s hB.bd (hG.wrote hF.same h8 hBd.le) h8 ks[j] (hok.2.1 _ (eQ hjk)) sX) (Za LZ O O O) ?_;rintro _ w ⟨rfl,hBd2,hE⟩;have hF:=hF.wrote hB hE (by simp[Yl,nb1]);have hX:=hX.off hE;have hB:=hB.wrote hBd2 hE;clear hBd2 hE;refine Fc (Ca (Re O) (Ca (Bh O) (Ca (Xb Pj O) ?_)));refine Cb (Bi hB.bd 58 Ua Ua (by rw[dQ];omega)) (Za Br O O O) ?_;rintro _ w ⟨rfl,hBd2,hE⟩;have hF:=hF.wrote hB hE (by simp[Yl,nb1]);have hX:=hX.off hE;have hB:=hB.wrote hBd2 hE;clear hBd2 hE;refine Ea (Ha (Ja (Ca (Re O) (Ca (Bh O) (Ca (Xb FG O) (Ka (v:=.bool (m)) (Jb cZ O hB.bd.mul) (Ea ?_)))))));refine Uf O O (λhc0=>?_) (λhc0=>?_);refine Fa (Ca (Re O) (Ca (Bh O) (Ca (Xb Pj O) ?_)));refine Cb (Bi hB.bd 32 Ua Ua (by simp only[dQ,kQ,List.length_nil];(first|rw[if_pos hc0]at hl|rw[if_neg (by simp[hc0])]at hl);simp only[kQ,List.length_nil]at hl;omega)) (Za Br rfl rfl rfl) ?_;rintro _ w ⟨rfl,hBd2,hE⟩;have hF:=hF.wrote hB hE (by simp[Yl,nb1]);have hX:=hX.off hE;have hB:=hB.wrote hBd2 hE;clear hBd2 hE;refine Ea (Fa (Ca (Re O) (Ca (Xb Jc O) (Yc (Rf yQ O hF.F 0 O O) (Ca (Kb O) ?_)))));obtain⟨A_,c_,B__,e_,heq_,-,-,hK_,hXs_⟩:=hX.tree_inv;simp only[List.cons.injEq,Value.slice.injEq,true_and,and_true]at heq_;obtain⟨⟨rfl,rfl⟩,rfl,rfl⟩:=heq_;obtain⟨ad1,cs1,hA1,hl1,hk1,hx1⟩:=hXs_.tree_elem (i:=j) sX
 have ho1:=hx1.one_;refine Ka (v:=.pointer (some (ad1.add (j*4)))) (Pa (i:=(j:Int)) Hj O hA1 O sX sX) (Ka (v:=.agg (List.toArray cs1)) (Ya (l:=cs1) aZ oZ O hl1 hk1) (Ca (Kb O) ?_));refine Cb (hv xs[j] (eQ hj) m ind d _ B pb _ _ hB.bd (hG.wrote hF.same h8 hBd.le) h8 hx1 (L1 hok.2.2 _ (eQ hj)) ((Lf hn).2 _ (eQ hj)) (by have h1:=Jh (eQ hj);exact fQ (Nat.mul_le_mul_left ind sX) hd) (by have h1:=Jh (eQ hj);omega) (by simp only[dQ,kQ,List.length_nil];(first|rw[if_pos hc0]at hl|rw[if_neg (by simp[hc0])]at hl);simp only[kQ,List.length_nil]at hl;omega)) (Ic QE rfl rfl rfl rfl) ?_;rintro _ w ⟨rfl,hBd2,hE⟩;have hF:=hF.wrote hB hE (by simp[Yl,nb1]);have hX:=hX.off hE;have hB:=hB.wrote hBd2 hE;clear hBd2 hE;refine Db (Bf (Rd (Sg O) ?_));exact⟨O,by simpa[EN,hc0]using hB.bd,hF.same⟩;refine Ta (Ia (Fa (Ca (Re O) (Ca (Xb Jc O) (Yc (Rf yQ O hF.F 0 O O) (Ca (Kb O) ?_))))));obtain⟨A_,c_,B__,e_,heq_,-,-,hK_,hXs_⟩:=hX.tree_inv;simp only[List.cons.injEq,Value.slice.injEq,true_and,and_true]at heq_;obtain⟨⟨rfl,rfl⟩,rfl,rfl⟩:=heq_;obtain⟨ad2,cs2,hA2,hl2,hk2,hx2⟩:=hXs_.tree_elem (i:=j) sX;have ho2:=hx2.one_;refine Ka (v:=.pointer (some (ad2.add (j*4)))) (Pa (i:=(j:Int)) Hj O hA2 O sX sX) (Ka (v:=.agg (List.toArray cs2)) (Ya (l:=cs2) aZ oZ O hl2 hk2) (Ca (Kb O) ?_));refine Cb (hv xs[j] (eQ hj) m ind d _ B pb _ _ hB.bd (hG.wrote hF.same h8 hBd.le) h8 hx2 (L1 hok.2.2 _ (eQ hj)) ((Lf hn).2 _ (eQ hj)) (by have h1:=Jh (eQ hj);exact fQ (Nat.mul_le_mul_left ind sX) hd) (by have h1:=Jh (eQ hj);omega) (by simp only[dQ,kQ,List.length_nil];(first|rw[if_pos hc0]at hl|rw[if_neg (by simp[hc0])]at hl);simp only[kQ,List.length_nil]at hl;omega)) (Ic QE rfl rfl rfl rfl) ?_;rintro _ w ⟨rfl,hBd2,hE⟩;have hF:=hF.wrote hB hE (by simp[Yl,nb1]);have hX:=hX.off hE
 have hB:=hB.wrote hBd2 hE;clear hBd2 hE;refine Db (Bf (Rd (Sg O) ?_));exact⟨O,by simpa[EN,hc0]using hB.bd,hF.same⟩
theorem MV(m:Bool)(ind d:Nat)(b:Bool):Tr m ind d b []=[]:=by cases b <;> rfl
theorem NS(f:Nat)(hen:Eb prog f)(k:Int)(t:Str)(ks:List Str)(xs:List Tree)(m:Bool)(ind d:Nat)(bo bc:UInt8)(ps:List Str)(hps:ps.length=xs.length)(hI:ItemC f k t ks xs m ind (d+1) ps)(w0:World)(B pb:Nat)(s:Str)(A B_:Option Addr)(c e:Nat)(hBd:Bd w0 B pb 296 [.bool m,J (ind:Int)] s)(hG:Gl w0)(h8:7<=B)(hX:Rep (λb=>b∉Wk w0 B pb) w0 (Zb (.node k t ks xs)) [J k,I t,.slice A ks.length c,.slice B_ xs.length e])(hd1:ind*(d+1)<=1000000000)(hd2:d+1<=1000000000)(hxl:xs.length<=9223372036854775807)(hlim:s.length+(Kr m ind d bo bc ps).length<=140737488355328):Zz 263 #[V pb,.agg #[J k,I t,.slice A ks.length c,.slice B_ xs.length e],J (d:Int),I [bo,bc],.func (.func f) #[V pb] #[]] (.tuple #[]) w0 B pb 296 [.bool m,J (ind:Int)] (s++Kr m ind d bo bc ps):=by
 unfold Zz;rw[Kr]at hlim;simp only[dQ,kQ,List.length_nil]at hlim;refine Ga func263 O ntmps263 Fb (U_ _ _ _ _ _) ?_;have hB:=BW.start hBd;have hF:=FR.start w0 (Wk w0 B pb);refine Ja (Ve hF O ?_);intro b1 w hb1 hF hE;have nb1:b1≠pb:=by have:=hB.lt;omega
 have hX:=hX.off_ext hB.lt hE;have hB:=hB.ext hE;refine Ea (Ha ?_);refine Id (.of []) (bQ [0,1,2,3,4] (.act 5 .nil)) hF ?_;intro w hF hE;have hX:=hX.off_ext hB.lt hE;have hB:=hB.ext hE;refine⟨λwq=>FR w0 (Wk w0 B pb) _ wq,hF,?_⟩;refine Hb O (Re O) (Hb O (Bh O) (Hb O (Xb Pj O) (Hb O (Ug O) ?_)));refine Qa O (v:=.int .u8 (((bo.toNat:Nat):Int))) (λw hC=>Kk (s:=[bo,bc]) 0 kX O O Da) (Qb O (Rr hB.bd bo sX) (Za Br O O O) ?_);rintro _ w ⟨rfl,hBd2,hE⟩;have hF:=hF.wrote hB hE (by simp[Yl,nb1]);have hX:=hX.off hE;have hB:=hB.wrote hBd2 hE;clear hBd2 hE;refine⟨hF,?_⟩;refine Ec (Ia (Ha (Ja (Ca (Xb Jc O) (Yc (Rf yQ O hF.F 0 O O) (Ca (Ye fX O) (Ca (Kb O) (Ea (Va ?_)))))))));refine Rc (λμ σ w=>∃(j:Nat),∃(o:Str),μ=xs.length-j/\(j<=xs.length)/\(o++Tr m ind d (decide (j=0)) (ps.drop j)=s++([bo]++Tr m ind d true ps))/\(BW w0 (Wk w0 B pb) w B pb 296 [.bool m,J (ind:Int)] (o))/\(Rep (λb=>b∉Wk w B pb) w (Zb (.node k t ks xs)) [J k,I t,.slice A ks.length c,.slice B_ xs.length e])/\AllEq σ [(0,V pb),(2,J ((d:Int))),(3,I ([bo,bc])),(4,.func (.func f) #[V pb] #[]),(6,V b1),(19,J ((xs.length:Nat))),(20,J ((j:Int)))]/\FR w0 (Wk w0 B pb) [(b1,.cells #[J k,I t,.slice A ks.length c,.slice B_ xs.length e] 27)] w) _ ⟨0,s++[bo],O,(Nat.zero_le _),Da,(hB),(hX),CG,hF⟩ ?_;rintro μ σ w ⟨j,o,rfl,hj,hq,hB,hX,hs,hF⟩;refine Cg.slots hs ?_;clear hs;intro σ;refine Ja (Ca (Kl O O) (Ea (Ha ?_)));refine Pc O O (λhc0=>?_) (λhc0=>?_);have hjp:j<ps.length:=by omega
 have hjd:=QU m ind d hjp;have hL:=congrArg List.length hq;rw[hjd]at hL;have hif:(if j=0 then ([]:Str) else [44]).length=if j=0 then 0 else 1:=by split <;> rfl
 simp only[dQ,kQ,List.length_nil,hif]at hL;refine Ta (Ia (Ha (Va (Ja (Ca (Kb O) (Ca (Sc O) (Ea (Ha (Ja (Ca (Kb O) ?_))))))))));refine Ca (QB O O) (Ea ?_);refine Pc O O (λhc1=>?_) (λhc1=>?_);refine Fa (Ca (Re O) (Ca (Bh O) (Ca (Xb Pj O) ?_)));refine Cb (Bi hB.bd 44 Ua Ua (by rw[if_neg sX]at hL;omega)) (Za Br O O O) ?_;rintro _ w ⟨rfl,hBd2,hE⟩;have hF:=hF.wrote hB hE (by simp[Yl,nb1]);have hX:=hX.off hE;have hB:=hB.wrote hBd2 hE;clear hBd2 hE;refine Fc (Ca (Re O) (Ca (Kb O) (Ca (Ok (((d+1:Nat):Int)) O O) ?_)));refine Cb (NM _ B pb m ind _ hB.bd (d+1) hd1 (by (try simp only[dQ,kQ,List.length_nil]);first|(rw[if_neg sX]at hL;omega)|(rw[if_pos sX]at hL;omega))) (Za ZN rfl rfl rfl) ?_;rintro _ w ⟨rfl,hBd2,hE⟩;have hF:=hF.wrote hB hE (by simp[Yl,nb1]);have hX:=hX.off hE;have hB:=hB.wrote hBd2 hE;clear hBd2 hE;refine Ea (Fa (Ca (Mr) (Yc (Ch aZ oZ O hF.F 0 O O) (Ca (Kb O) (Ca (Kb O) (Ca (Ok (((d+1:Nat):Int)) O O) ?_))))));refine Cb (hI j hjp _ B pb _ A B_ c e hB.bd (hG.wrote hF.same h8 hBd.le) h8 hX (by (try simp only[dQ,kQ,List.length_nil]);first|(rw[if_neg sX]at hL;omega)|(rw[if_pos sX]at hL;omega))) (UI rfl hen rfl rfl rfl rfl) ?_;rintro _ w ⟨rfl,hBd2,hE⟩;have hF:=hF.wrote hB hE (by simp[Yl,nb1]);have hX:=hX.off hE;have hB:=hB.wrote hBd2 hE;clear hBd2 hE;have hB:BW w0 (Wk w0 B pb) w B pb 296 [.bool m,J (ind:Int)] (o++((if j=0 then [] else [44])++(Hr m ind (d+1)++ps[j]))):=by first|(have h0:¬j=0:=sX;rw[if_neg h0];simpa using hB)|(have h0:j=0:=sX;rw[if_pos h0];simpa using hB)
 refine Db (Ib (Ia (Fa (Ca (Um O O) (Ca (Kb O) (Db ?_))))));refine Yb ⟨_,?_,j+1,o++((if j=0 then [] else [44])++(Hr m ind (d+1)++ps[j])),O,sX,(by have h:=hq;rw[hjd]at h;simpa[sQ]using h),(hB),(hX),CG,hF⟩;omega;refine Ta (Ia (Ja (Ca (Re O) (Ca (Kb O) (Ca (Ok (((d+1:Nat):Int)) O O) ?_)))));refine Cb (NM _ B pb m ind _ hB.bd (d+1) hd1 (by (try simp only[dQ,kQ,List.length_nil]);first|(rw[if_neg sX]at hL;omega)|(rw[if_pos sX]at hL;omega))) (Za ZN rfl rfl rfl) ?_;rintro _ w ⟨rfl,hBd2,hE⟩;have hF:=hF.wrote hB hE (by simp[Yl,nb1]);have hX:=hX.off hE;have hB:=hB.wrote hBd2 hE;clear hBd2 hE;refine Ea (Fa (Ca (Mr) (Yc (Ch aZ oZ O hF.F 0 O O) (Ca (Kb O) (Ca (Kb O) (Ca (Ok (((d+1:Nat):Int)) O O) ?_))))));refine Cb (hI j hjp _ B pb _ A B_ c e hB.bd (hG.wrote hF.same h8 hBd.le) h8 hX (by (try simp only[dQ,kQ,List.length_nil]);first|(rw[if_neg sX]at hL;omega)|(rw[if_pos sX]at hL;omega))) (UI rfl hen rfl rfl rfl rfl) ?_;rintro _ w ⟨rfl,hBd2,hE⟩;have hF:=hF.wrote hB hE (by simp[Yl,nb1]);have hX:=hX.off hE;have hB:=hB.wrote hBd2 hE;clear hBd2 hE;have hB:BW w0 (Wk w0 B pb) w B pb 296 [.bool m,J (ind:Int)] (o++((if j=0 then [] else [44])++(Hr m ind (d+1)++ps[j]))):=by first|(have h0:¬j=0:=sX;rw[if_neg h0];simpa using hB)|(have h0:j=0:=sX;rw[if_pos h0];simpa using hB)
 refine Db (Ib (Ia (Fa (Ca (Um O O) (Ca (Kb O) (Db ?_))))));refine Yb ⟨_,?_,j+1,o++((if j=0 then [] else [44])++(Hr m ind (d+1)++ps[j])),O,sX,(by have h:=hq;rw[hjd]at h;simpa[sQ]using h),(hB),(hX),CG,hF⟩;omega;have hq2:o=s++([bo]++Tr m ind d true ps):=by have h:=hq;rw[List.drop_eq_nil_of_le sX,MV,qQ]at h;exact h
 refine Nc (Kc O ?_);refine Ia (Ha (Ja (Ca (Xb Jc O) (Yc (Rf yQ O hF.F 0 O O) (Ca (Ye fX O) (Ca (QB O O) (Ea ?_)))))));refine Pc O O (λhc2=>?_) (λhc2=>?_);have hpn:ps≠[]:=by intro hp;rw[hp]at hps;simp at hps;omega
 refine Fa (Ca (Re O) (Ca (Kb O) ?_));refine Cb (NM _ B pb m ind _ hB.bd d (fQ (Nat.mul_le_mul_left ind sX) hd1) (by have hp:ps≠[]:=(by intro hp;rw[hp]at hps;simp at hps;omega);rw[if_neg hp]at hlim;rw[hq2];(try simp only[dQ,kQ,List.length_nil]);omega)) (Za ZN rfl rfl rfl) ?_;rintro _ w ⟨rfl,hBd2,hE⟩;have hF:=hF.wrote hB hE (by simp[Yl,nb1]);have hX:=hX.off hE;have hB:=hB.wrote hBd2 hE;clear hBd2 hE;refine Ea (Id (.of []) (bQ [0,1,2,3,4] (.act 5 .nil)) hF ?_);intro w hF hE;have hX:=hX.off_ext hB.lt hE;have hB:=hB.ext hE;refine⟨λwq=>FR w0 (Wk w0 B pb) _ wq,hF,?_⟩;refine Hb O (Re O) (Hb O (Bh O) (Hb O (Xb Pj O) (Hb O (Ug O) ?_)));refine Qa O (v:=.int .u8 (((bc.toNat:Nat):Int))) (λw hC=>Kk (s:=[bo,bc]) 1 kX O O Da) ?_;refine Qb rfl (Rr hB.bd bc (by rw[hq2];(try simp only[dQ,kQ,List.length_nil]);first|(rw[if_neg hpn]at hlim;omega)|omega)) (Za Br rfl rfl rfl) ?_;rintro _ w ⟨rfl,hBd2,hE⟩;have hF:=hF.wrote hB hE (by simp[Yl,nb1]);have hX:=hX.off hE;have hB:=hB.wrote hBd2 hE;clear hBd2 hE;refine⟨hF,?_⟩;refine Ec (Bf (Rd (Sg O) ?_));refine⟨O,?_,hF.same⟩;have hb:=hB.bd;rw[hq2]at hb;rw[Kr,if_neg hpn];simpa[sQ]using hb;have hpz:ps=[]:=List.eq_nil_of_length_eq_zero sX;refine Ta (Ia ?_);refine Id (.of []) (bQ [0,1,2,3,4] (.act 5 .nil)) hF ?_;intro w hF hE;have hX:=hX.off_ext hB.lt hE;have hB:=hB.ext hE;refine⟨λwq=>FR w0 (Wk w0 B pb) _ wq,hF,?_⟩;refine Hb O (Re O) (Hb O (Bh O) (Hb O (Xb Pj O) (Hb O (Ug O) ?_)));refine Qa O (v:=.int .u8 (((bc.toNat:Nat):Int))) (λw hC=>Kk (s:=[bo,bc]) 1 kX O O Da) ?_;refine Qb rfl (Rr hB.bd bc (by rw[hq2];(try simp only[dQ,kQ,List.length_nil]);first|(rw[if_neg hpn]at hlim;omega)|omega)) (Za Br rfl rfl rfl) ?_;rintro _ w ⟨rfl,hBd2,hE⟩;have hF:=hF.wrote hB hE (by simp[Yl,nb1])
 have hX:=hX.off hE;have hB:=hB.wrote hBd2 hE;clear hBd2 hE;refine⟨hF,?_⟩;refine Ec (Bf (Rd (Sg O) ?_));refine⟨O,?_,hF.same⟩;have hb:=hB.bd;rw[hq2]at hb;rw[Kr,if_pos hpz];simpa[sQ]using hb
theorem HO(k:Int)(t:Str)(ks:List Str)(xs:List Tree)(ih:∀x∈xs,ValC x)(m:Bool)(ind d:Nat)(w0:World)(B pb:Nat)(s:Str)(A B_:Option Addr)(c e:Nat)(hBd:Bd w0 B pb 296 [.bool m,J (ind:Int)] s)(hG:Gl w0)(h8:7<=B)(hX:Rep (λb=>b∉Wk w0 B pb) w0 (Zb (.node k t ks xs)) [J k,I t,.slice A ks.length c,.slice B_ xs.length e])(hok:NQ (.node k t ks xs))(hn:Af nodeB (.node k t ks xs)=true)(hd:ind*(d+Cd (.node k t ks xs))<=1000000000)(hd2:d+Cd (.node k t ks xs)<=1000000000)(hxl:xs.length<=9223372036854775807)(hl:s.length+(Sm m ind (.node k t ks xs) d).length<=140737488355328):Zz 234 #[V pb,.agg #[J k,I t,.slice A ks.length c,.slice B_ xs.length e],J (d:Int)] (.tuple #[]) w0 B pb 296 [.bool m,J (ind:Int)] (s++Sm m ind (.node k t ks xs) d):=by
 unfold Zz;refine Ga func234 O ntmps234 Fb (Oj _ _ _) ?_;have hB:=BW.start hBd;have hF:=FR.start w0 (Wk w0 B pb);refine Ja (Ve hF O ?_);intro b1 w hb1 hF hE;have nb1:b1≠pb:=by have:=hB.lt;omega
 have hX:=hX.off_ext hB.lt hE;have hB:=hB.ext hE;refine Fc (Ca (Xb Wh O) (Yc (Xs bZ O hF.F 0 O O) (Ea (Va (Ja (Ca (Pq O O) (Ca (Hc O) (Db ?_))))))));refine Ia (Pc O O (λhc0=>?_) (λhc0=>?_));refine Fa (Ca (Re O) (Ca (Bh O) (Ca (Xb Pj O) ?_)));have hkk_:k=1:=by omega
 refine Cb (Zl hB.bd [110,117,108,108] (by rw[Sm,if_pos hkk_]at hl;exact hl)) (Za N9 O O O) ?_;rintro _ w ⟨rfl,hBd2,hE⟩;have hF:=hF.wrote hB hE (by simp[Yl,nb1]);have hX:=hX.off hE;have hB:=hB.wrote hBd2 hE;clear hBd2 hE;refine Db (Ib ?_);refine Bf (Rd (Sg O) ?_);refine⟨O,?_,hF.same⟩;rw[Sm]
 first|(rw[if_pos hkk_];exact hB.bd)|(rw[if_neg sX,if_pos hkk_];exact hB.bd)|(rw[if_neg sX,if_neg sX,if_pos hkk_];exact hB.bd)|(rw[if_neg sX,if_neg sX,if_neg sX,if_pos hkk_];exact hB.bd)|(rw[if_neg sX,if_neg sX,if_neg sX,if_neg sX];exact hB.bd)
 refine Ja (Ca (Pq O O) (Ca (Hc O) (Ea ?_)));refine Pc O O (λhc1=>?_) (λhc1=>?_);refine Fa (Ca (Re O) (Ca (Xb Vh O) (Yc (Wy fZ O hF.F 0 O O) ?_)));have hkk_:k=4:=by omega
 refine Cb (NB _ B pb m ind s hB.bd (hG.wrote hF.same h8 hBd.le) h8 t (by rw[NQ]at hok;exact hok.1) (by rw[Sm,if_neg sX,if_pos hkk_]at hl;exact hl)) (Za LZ O O O) ?_;rintro _ w ⟨rfl,hBd2,hE⟩;have hF:=hF.wrote hB hE (by simp[Yl,nb1]);have hX:=hX.off hE;have hB:=hB.wrote hBd2 hE;clear hBd2 hE;refine Db (Ib ?_);refine Bf (Rd (Sg O) ?_);refine⟨O,?_,hF.same⟩;rw[Sm]
 first|(rw[if_pos hkk_];exact hB.bd)|(rw[if_neg sX,if_pos hkk_];exact hB.bd)|(rw[if_neg sX,if_neg sX,if_pos hkk_];exact hB.bd)|(rw[if_neg sX,if_neg sX,if_neg sX,if_pos hkk_];exact hB.bd)|(rw[if_neg sX,if_neg sX,if_neg sX,if_neg sX];exact hB.bd)
 refine Ja (Ca (Pq O O) (Ca (Hc O) (Ea ?_)));refine Pc O O (λhc2=>?_) (λhc2=>?_);refine Fa (Ca (Re O) (Yc (Ch aZ oZ O hF.F 0 O O) (Ca (Kb O) (Ca (Re O) (Ka (v:=.func (.func 264) #[V pb] #[]) (Zp O) ?_)))));have hkk_:k=5:=by omega
 refine Cb (NS 264 en_264 k t ks xs m ind d 91 93 (Ex m ind xs (d+1)) (by rw[X1,rQ]) (λj hj w1 B1 p1 s1 A1 B1_ c1 e1 hb1_ hg1 h81 hx1 hl1=>by have hj2:j<xs.length:=(by rw[X1,rQ]at hj;exact hj);have hg:(Ex m ind xs (d+1))[j]=Sm m ind xs[j] (d+1):=(by simp only[X1,List.getElem_map]);rw[hg]at hl1 ⊢;exact item_c k t ks xs m ind (d+1) j hj2 w1 B1 p1 s1 A1 B1_ c1 e1 hb1_ hg1 h81 hx1 ih hok hn (by rw[Cd]at hd;exact fQ (Nat.mul_le_mul_left ind sX) hd) (by rw[Cd]at hd2;omega) hl1) _ B pb s A B_ c e hB.bd (hG.wrote hF.same h8 hBd.le) h8 hX (by have h1:=hd;rw[Cd]at h1;exact fQ (Nat.mul_le_mul_left ind sX) h1) (by rw[Cd]at hd2;omega) hxl (by rw[Sm]at hl;simpa[hkk_]using hl)) (Iu en_263 O O O O O O) ?_;rintro _ w ⟨rfl,hBd2,hE⟩;have hF:=hF.wrote hB hE (by simp[Yl,nb1]);have hX:=hX.off hE;have hB:=hB.wrote hBd2 hE;clear hBd2 hE;refine Db (Ib ?_);refine Bf (Rd (Sg O) ?_);refine⟨O,?_,hF.same⟩;rw[Sm]
 first|(rw[if_pos hkk_];exact hB.bd)|(rw[if_neg sX,if_pos hkk_];exact hB.bd)|(rw[if_neg sX,if_neg sX,if_pos hkk_];exact hB.bd)|(rw[if_neg sX,if_neg sX,if_neg sX,if_pos hkk_];exact hB.bd)|(rw[if_neg sX,if_neg sX,if_neg sX,if_neg sX];exact hB.bd)
 refine Ja (Ca (Pq O O) (Ca (Hc O) (Ea ?_)));refine Pc O O (λhc3=>?_) (λhc3=>?_);refine Fa (Ca (Re O) (Yc (Ch aZ oZ O hF.F 0 O O) (Ca (Kb O) (Ca (Re O) (Ka (v:=.func (.func 265) #[V pb] #[]) (Zp O) ?_)))));have hkk_:k=6:=by omega
 have hkl:ks.length=xs.length:=(Mp (hkk_▸(Lf hn).1)).2;refine Cb (NS 265 en_265 k t ks xs m ind d 123 125 (Dr m ind xs ks (d+1)) (by rw[Qu]) (λj hj w1 B1 p1 s1 A1 B1_ c1 e1 hb1_ hg1 h81 hx1 hl1=>by have hj2:j<xs.length:=(by rw[Qu]at hj;exact hj);have hg:=SB m ind (d+1) xs ks j hj2 sX hj;rw[hg]at hl1 ⊢;exact member_c k t ks xs m ind (d+1) j hj2 sX w1 B1 p1 s1 A1 B1_ c1 e1 hb1_ hg1 h81 hx1 ih hok hn (by rw[Cd]at hd;exact fQ (Nat.mul_le_mul_left ind sX) hd) (by rw[Cd]at hd2;omega) hl1) _ B pb s A B_ c e hB.bd (hG.wrote hF.same h8 hBd.le) h8 hX (by have h1:=hd;rw[Cd]at h1;exact fQ (Nat.mul_le_mul_left ind sX) h1) (by rw[Cd]at hd2;omega) hxl (by rw[Sm]at hl;simpa[hkk_]using hl)) (Iu en_263 O O O O O O) ?_;rintro _ w ⟨rfl,hBd2,hE⟩;have hF:=hF.wrote hB hE (by simp[Yl,nb1]);have hX:=hX.off hE;have hB:=hB.wrote hBd2 hE;clear hBd2 hE;refine Db (Ib ?_);refine Bf (Rd (Sg O) ?_);refine⟨O,?_,hF.same⟩;rw[Sm]
 first|(rw[if_pos hkk_];exact hB.bd)|(rw[if_neg sX,if_pos hkk_];exact hB.bd)|(rw[if_neg sX,if_neg sX,if_pos hkk_];exact hB.bd)|(rw[if_neg sX,if_neg sX,if_neg sX,if_pos hkk_];exact hB.bd)|(rw[if_neg sX,if_neg sX,if_neg sX,if_neg sX];exact hB.bd)
 refine Id (.of []) (bQ [0,1,2,3,4] (.act 5 .nil)) hF ?_;intro w hF hE;have hX:=hX.off_ext hB.lt hE;have hB:=hB.ext hE;refine⟨λwq=>FR w0 (Wk w0 B pb) _ wq,hF,?_⟩;refine Hb O (Re O) (Hb O (Bh O) (Hb O (Xb Pj O) (Hb O (Xb Vh O) (Hl O (Wy fZ O C0 0 O O) ?_))));refine Qb O (Zl hB.bd t (by rw[Sm,if_neg sX,if_neg sX,if_neg sX,if_neg sX]at hl;exact hl)) (Za N9 O O O) ?_;rintro _ w ⟨rfl,hBd2,hE⟩;have hF:=hF.wrote hB hE (by simp[Yl,nb1]);have hX:=hX.off hE;have hB:=hB.wrote hBd2 hE;clear hBd2 hE;refine⟨hF,?_⟩;refine Ec (Ib ?_);refine Bf (Rd (Sg O) ?_);refine⟨O,?_,hF.same⟩;rw[Sm]
 first|(rw[if_pos hkk_];exact hB.bd)|(rw[if_neg sX,if_pos hkk_];exact hB.bd)|(rw[if_neg sX,if_neg sX,if_pos hkk_];exact hB.bd)|(rw[if_neg sX,if_neg sX,if_neg sX,if_pos hkk_];exact hB.bd)|(rw[if_neg sX,if_neg sX,if_neg sX,if_neg sX];exact hB.bd)
theorem value_c(x:Tree):ValC x:=Tree.ind (Q:=ValC) (λk t ks xs ih m ind d w0 B pb s cs hBd hG h8 hX hok hn hd hd2 hl=>by
  obtain⟨A,c,B_,e,rfl,-,-,-,hXs⟩:=hX.tree_inv;have h1:=hXs.slice_len;exact HO k t ks xs ih m ind d w0 B pb s A B_ c e hBd hG h8 hX hok hn hd hd2 sX hl) x
theorem RL{t:Str}(h:Nt t=true):t≠[]:=by
  rintro rfl
  revert h
  decide
theorem valS_ne(m:Bool)(ind:Nat)(x:Tree)(d:Nat)(h:Kd x=true):Sm m ind x d≠[]:=by
  obtain⟨k,t,ks,xs⟩:=x;unfold Kd at h;rw[Bool.and_eq_true]at h;have h1:=(Lf h.2).1;unfold rnodeB at h1;rw[Bool.and_eq_true,decide_eq_true_eq]at h1;obtain⟨h7,h1⟩:=h1;have h7':k≠7:=h7;rw[Sm];split
  ·simp
  split
  ·rename_i h4
   subst h4;simp[nodeB]at h1;rw[qS,if_pos h1.2];simp[Y8]
  split
  ·simp[Kr]
  split
  ·simp[Kr]
  rename_i g1 g4 g5 g6
  simp only[nodeB,if_neg g5,if_neg g6,if_neg g1,if_neg g4,if_neg h7']at h1;split at h1
  ·cases h1
  split at h1
  ·rw[Bool.or_eq_true, decide_eq_true_eq, decide_eq_true_eq]at h1
   rcases h1 with rfl|rfl <;> simp
  split at h1
  ·exact RL h1
  cases h1
theorem VB{x:Tree}(h:Kd x=true):Af nodeB x=true:=by
  unfold Kd at h;rw[Bool.and_eq_true]at h;refine Tree.ind (Q:=λx=>Af rnodeB x=true->Af nodeB x=true) (λk t ks xs ih h=>?_) x h.2;rw[Af,Bool.and_eq_true]at h ⊢;have h1:=h.1;unfold rnodeB at h1;rw[Bool.and_eq_true]at h1;refine⟨h1.2,?_⟩;have key:∀ys:List Tree,(∀y∈ys,y∈xs)->Tt rnodeB ys=true->Tt nodeB ys=true:=by
    intro ys
    induction ys with
    | nil=>intro _ _;rfl
    | cons y ys ihy =>
      intro hm hs;rw[Tt,Bool.and_eq_true]at hs ⊢;exact⟨ih y (hm y Da) hs.1,ihy (λz hz=>hm z (by simp[hz])) hs.2⟩
  exact key xs (λ_ h=>h) h.2
theorem Vk{x:Tree}(h:Kd x=true):Cd x<=32:=by
  unfold Kd Ir at h;simp only[Bool.and_eq_true,decide_eq_true_eq]at h;exact h.1.2
theorem XV(x:Tree)(S:Nat->Prop)(w0:World)(cs:List Value)(rx:Rep S w0 (Zb x) cs)(hG:Gl w0)(hk:Yz x)(hq:NQ x)(hsz:Wb x<=1000000000)(hlim:Kd x=true->(Sm false 0 x 0).length<=140737488355328):Calls prog 210 #[.agg cs.toArray] w0 (Td λv w'=>v=(if Kd x=true then .tuple #[I (Sm false 0 x 0),J 0] else .tuple #[I [],J 1])/\Same [] w0 w'):=by
 have hl:cs.length=4:=rx.length.trans (Tc x);have ho:=rx.one_;refine Ga func210 O ntmps210 Fb (Ad _) ?_;have hF:=FR.start w0 [];refine Ja (Ar (v:=.agg (List.toArray cs)) (cs:=(List.toArray cs)) hF O O ?_);rintro b1 w hb1 hF -;refine Ca (Qm O) (Ca (Sc O) (Ea (Ha (Ja (Ka (v:=.agg (List.toArray cs)) (Ya (l:=cs) aZ oZ O hl (hF.cellsAll 0 O)) ?_)))));refine Gb hF (G0 x sX _ _ _ (hF.rep rx) hk (hG.ext hF.same)) (Ra CJ O O) ?_;intro w hF;refine Ca (Zj O) (Ea ?_);refine Uf O O (λhc0=>?_) (λhc0=>?_);refine Ja (Ca (Qm O) (Ca (Sc O) (Ea ?_)));refine Cc (Bc (Sa (Bg (v:=I []) (x:=J 1) O O O) ?_));exact⟨by rw[if_neg (by simpa using hc0)],hF.same⟩;refine Ta (Ia (Ja ?_));refine Od (cs:=#[.pointer none,aQ,.bool false,J 0]) hF zeroValue296 O ?_;rintro b2 w hb2 hF -;refine Fc (Ka (v:=.agg (List.toArray cs)) (Ya (l:=cs) aZ oZ O hl (hF.cellsAll 1 O)) ?_);have hB:BW w0 [] w b2 b2 296 [.bool false,J ((0:Nat):Int)] []:=BW.own ⟨.inr ⟨rfl,_,_,rfl⟩,gQ _,_,_,hF.heap (i:=0) rfl,World.ownsRow_nil _ _ _ _,.inl rfl⟩ (hF.ge (i:=0) rfl) hF.same.size;have nb1:b1≠b2:=Ci hF.desc (i:=1) (j:=0) rfl rfl Ua;have hge:=hF.ge (i:=0) rfl;have hF:FR w0 [] [(b1,.cells cs.toArray 27)] w:=hF.drop 1;have hXo:Rep (λb=>b∉Wk w b2 b2) w (Zb x) cs:=(rx.old.same hF.same Da).weaken λb hb _ hm=>by have h1:=hb.2;rcases Hh.1 hm with rfl|⟨-,h2,-⟩ <;> omega
 refine Cb (value_c x false 0 0 _ b2 b2 [] cs hB.bd (hG.ext hF.same) (by have:=hG.size;omega) hXo hq (VB (by simpa using hc0)) sX (by have:=Vk (x:=x) (by simpa using hc0);omega) (by simpa using hlim (by simpa using hc0))) (Ic QE O O O O) ?_;rintro _ w ⟨rfl,hBd2,hE⟩;have hF:=hF.wrote hB hE (by simp[Yl,nb1]);have hB:=hB.wrote hBd2 hE;clear hBd2 hE;refine Fc (Ca (Xb Pj O) ?_);refine Cb (FJ hB.bd (by simpa using valS_ne false 0 x 0 (by simpa using hc0))) (Ra en_199 O O) ?_;rintro _ w ⟨rfl,hE⟩;have hF:=hF.wrote hB hE (by simp[Yl,nb1]);refine Ca (Qm O) (Ca (Sc O) (Ea ?_));refine Cc (Bc (Sa (Bg (v:=I ([]++Sm false 0 x 0)) (x:=J 0) O O O) ?_));exact⟨by rw[if_pos (by simpa using hc0)];rfl,hF.same⟩
end Go.Scarf
