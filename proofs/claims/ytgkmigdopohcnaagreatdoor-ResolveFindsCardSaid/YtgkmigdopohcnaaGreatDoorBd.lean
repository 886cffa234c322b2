/- A part of the proof. -/
import Derived.Lib.AppendStr
import Derived.Lib.Builder
import Derived.Lib.UnsafeStr
import Derived.Lib.RuneBytes
import Derived.Test.YtgkmigdopohcnaaGreatDoorW19
import Derived.Laws.BytesString
import Derived.Lib.TrimU
set_option linter.all false
set_option maxHeartbeats 8000000
set_option maxRecDepth 10000
namespace Go.Scarf
open Go.RowKit Go.Proofs Go.Proofs.Tryz
section
variable {P:Program}{w w' w0:World}{Ds E:List Nat}{bs_:List (Nat × Obj)}
def Fj:Obj->Bool
  | .cells _ e _=>e==5
  | _=>false
def Ns(w:World)(b:Nat):Bool:=match w.heap[b]? with|some o=>Fj o|none=>false
def Wk(w:World)(B pb:Nat):List Nat:=pb::(List.range w.heap.size).filter λb=>decide (B<=b)&&Ns w b
theorem Vf{B pb x:Nat}:x∈Wk w B pb↔x=pb\/(x<w.heap.size/\B<=x/\Ns w x=true):=by simp[Wk]
theorem Tr{b:Nat}{o:Obj}(h:w.heap[b]? = some o):Ns w b=Fj o:=by simp[Ns,h]
def Shp(T:Nat)(rest:List Value):Prop:=(T=132/\rest=[])\/(T=134/\∃m i,rest=[.bool m,J i])
theorem Shp.ne{T:Nat}{rest:List Value}(h:Shp T rest):(T==5)=false:=by rcases h with ⟨rfl,-⟩|⟨rfl,-⟩ <;> rfl
structure Bd (w:World) (B pb T:Nat) (rest:List Value) (s:Str):Prop where
  shp:Shp T rest
  le:B<=pb
  ex:∃ap v,w.heap[pb]? = some (.cells (ap::v::rest).toArray T)/\w.ownsRow B 5 1 v s.length (Lib.byteCells s)/\(ap=.pointer none\/ap=V pb)
theorem Bd.lt{B pb T:Nat}{rest:List Value}{s:Str}(h:Bd w B pb T rest s):pb<w.heap.size:=by
  obtain⟨ap,v,hh,-⟩:=h.ex;exact Kb hh
theorem Bd.base{B pb T:Nat}{rest:List Value}{s:Str}(h:Bd w B pb T rest s):B<=w.heap.size:=fQ h.le (Nat.le_of_lt h.lt)
theorem Vm{B n g:Nat}{v:Value}{xs:List Value}(h:w.ownsRow B 5 1 v n xs)(hg:v.ownBlock=some g):g<w.heap.size/\B<=g/\Ns w g=true:=by
  rcases h.2 with ⟨rfl,-⟩|⟨g',cap,cur,rfl,h1,h2,-⟩
  ·cases hg
  cases hg;exact⟨Kb h2,h1,by rw[Tr h2];rfl⟩
theorem W7{B n g pb:Nat}{v:Value}{xs:List Value}(h:w.ownsRow B 5 1 v n xs)(hg:v.ownBlock=some g):g∈Wk w B pb:=Vf.2 (.inr (Vm h hg))
theorem Yq{B n g pb:Nat}{v:Value}{xs:List Value}{o:Obj}(h:w.ownsRow B 5 1 v n xs)(hg:v.ownBlock=some g)(hh:w.heap[pb]? = some o)(ho:Fj o=false):g≠pb:=by
  rintro rfl;have h1:=(Vm h hg).2.2;rw[Tr hh,ho]at h1;cases h1
theorem Ei{B n:Nat}{v:Value}{xs:List Value}(h:w.ownsRow B 5 1 v n xs)(hs:Same E w w')(he:∀g,v.ownBlock=some g->g∉E):w'.ownsRow B 5 1 v n xs:=by
  refine⟨h.1,?_⟩;rcases h.2 with h2|⟨g,cap,cur,rfl,h1,h2,h3⟩
  ·exact .inl h2
  exact .inr ⟨g,cap,cur,O,h1,(hs.block g (Kb h2) (he g O)).trans h2,h3⟩
theorem Zg{B n:Nat}{v:Value}{xs:List Value}(h:w.ownsRow B 5 1 v n xs):∃A c,v=.slice A n c:=by
  rcases h.2 with ⟨rfl,rfl⟩|⟨g,cap,cur,rfl,-⟩
  ·exact⟨_,_,O⟩
  exact⟨_,_,O⟩
theorem Wk.step{B pb x:Nat}(hs:Same (Wk w B pb) w w')(hx:x∈Wk w' B pb):x∈Wk w B pb\/w.heap.size<=x:=by
  by_cases h:x<w.heap.size
  ·by_cases hm : x ∈ Wk w B pb
   ·exact .inl hm
   rcases Vf.1 hx with rfl|⟨h1, h2, h3⟩
   ·exact .inl (Vf.2 (.inl O))
   refine absurd (Vf.2 (.inr ⟨h, h2, ?_⟩)) hm;rw[Ns,<-hs.block x h hm];exact h3
  exact .inr Ba
theorem FR.grown{g:Option Nat}(h:FR w0 Ds bs_ w)(hg:w.grownBy w' g)(hr:∀b,g=some b->(b<w0.heap.size->b∈Ds)/\∀p∈bs_,p.1≠b):FR w0 Ds bs_ w':=by
  have hs:Same g.toList w w':=⟨hg.os,hg.tape,hg.output,hg.size,λb hb hn=>hg.block b hb (λe=>hn (by simp[<-e]))⟩;exact h.touch hs (λb hb=>hr b (by simpa using hb))
theorem Xm(s t:Str):Lib.byteCells (s++t)=Lib.byteCells s++Lib.byteCells t:=Lib.byteCells_append s t
end
section
variable {P:Program}{w:World}{ρ:Operand->Value}{dst:Option Nat}{ty:TypeId}{pos:String}{aft:Array Edge}{g:Option (Nat × Bool)}
theorem CK{t t' te:Nat}{x y:Operand}(ht:P.underlying t=some (.pointer te))(hx:ρ x=.pointer none)(hy:ρ y=.pointer none) :
    (execOp ρ ⟨dst,.binOp .eql t x y t',ty,pos,aft,g⟩).run P w=.ok (.value (.bool true)) w:=by
  have h:∀d:Nat,(Op.equalIn (d+1) t (.pointer none) (.pointer none)).run P w=.ok true w:=λd=>by
    simp[Op.equalIn,run_underlying ht]
  have hg:(eqGuard .eql t x y (.pointer none) (.pointer none)).run P w=.ok () w:=by unfold eqGuard;split <;> simp
  simp only[execOp,hx,hy,Sem.run_bind,hg,Result.andThen_ok,binOp];simp[Op.equal,Op.maxDepth,h 9999]
theorem LI{t t' te:Nat}{x y:Operand}{a:Addr}(ht:P.underlying t=some (.pointer te))(hx:ρ x=.pointer (some a))(hy:ρ y=.pointer none) :
    (execOp ρ ⟨dst,.binOp .eql t x y t',ty,pos,aft,g⟩).run P w=.ok (.value (.bool false)) w:=by
  have h:∀d:Nat,(Op.equalIn (d+1) t (.pointer (some a)) (.pointer none)).run P w=.ok false w:=λd=>by
    simp[Op.equalIn,run_underlying ht]
  have hg:(eqGuard .eql t x y (.pointer (some a)) (.pointer none)).run P w=.ok () w:=by unfold eqGuard;split <;> simp
  simp only[execOp,hx,hy,Sem.run_bind,hg,Result.andThen_ok,binOp];simp[Op.equal,Op.maxDepth,h 9999]
theorem NT{t t' te:Nat}{x y:Operand}{a:Addr}{j:TypeInfo}(ht:P.underlying t=some (.pointer te))(hte:P.info? te=some j)(hx:ρ x=.pointer (some a))(hy:ρ y=.pointer (some a)) :
    (execOp ρ ⟨dst,.binOp .neq t x y t',ty,pos,aft,g⟩).run P w=.ok (.value (.bool false)) w:=by
  have h:=Lib.run_neq_ptr_same w a ht hte;have hg:(eqGuard .neq t x y (.pointer (some a)) (.pointer (some a))).run P w=.ok () w:=by unfold eqGuard;split <;> simp
  simp only[execOp,hx,hy,Sem.run_bind,hg,Result.andThen_ok,h,Sem.run_pure]
theorem Zz{t t':Nat}{x:Operand}{v:Value}(hx:ρ x=v)(h:(convert t t' v).run P w=.ok v w):(execOp ρ ⟨dst,.convert t t' x,ty,pos,aft,g⟩).run P w=.ok (.value v) w:=by
  simp[execOp,hx,h]
theorem UR {f:FuncId} {fn:Func} {e:Array Value->Sem Value} {x1:Operand} {ats:Array TypeId} {v1 v:Value} (hf:P.funcs[f]? = some fn) (hname:(fn.name == "runtime.NumGoroutine")=false)
    (hb:fn.body.isNone=true) (hn:Extern.findNext fn=none) (he:Extern.find fn=some e) (h0:ρ (.func f)=.func (.func f) #[] #[]) (h1:ρ x1=v1) (hr:(e #[v1]).run P w=.ok v w) :
    (execOp ρ ⟨dst,.call ⟨.value (.func f),#[x1],ats⟩,ty,pos,aft,g⟩).run P w=.ok (.value v) w:=by
  simp[execOp,resolve,Deferred.ofValue,h0,h1,invoke,run_callFunc_extern hf hname hb hn he,hr]
theorem x_usd{x:Operand}{ats:Array TypeId}{a:Addr}{n c:Nat}(hx:ρ x=.slice (some a) n c)(hc:c≠0):(execOp ρ ⟨dst,.call ⟨.builtin .unsafeSliceData,#[x],ats⟩,ty,pos,aft,g⟩).run P w=.ok (.value (.pointer (some a))) w:=by
  simp[execOp,resolve,invoke,builtin,hx,Lib.run_unsafeSliceData_row w ats ty a n c hc]
theorem XQ{x y:Operand}{t1 t2:Nat}{u v r:Value}{w':World}(hx:ρ x=u)(hy:ρ y=v)(h:(Builtin.unsafeString_ #[t1,t2] ty #[u,v]).run P w=.ok r w'):(execOp ρ ⟨dst,.call ⟨.builtin .unsafeString,#[x,y],#[t1,t2]⟩,ty,pos,aft,g⟩).run P w=.ok (.value r) w':=by
  simp[execOp,resolve,invoke,builtin,hx,hy,h]
theorem BM{x y:Operand}{t1 t2:TypeId}{u v:Value}{r:Value}{w':World}(hx:ρ x=u)(hy:ρ y=v)(h:(Builtin.append_ #[t1,t2] ty #[u,v]).run P w=.ok r w') :
    (execOp ρ ⟨dst,.call ⟨.builtin .append,#[x,y],#[t1,t2]⟩,ty,pos,aft,g⟩).run P w=.ok (.value r) w':=by
  simp[execOp,resolve,invoke,builtin,hx,hy,h]
end
section
variable {P:Program}{R:Exit->Act->World->Prop}{n:Nat}{kt:Kt}{s:Nat->Value}{w:World}{ops rest:List Oper}
variable {d:Nat}{ty:TypeId}{pos:String}{aft:Array Edge}{g:Option (Nat × Bool)}
variable {w0:World}{Ds:List Nat}{bs_:List (Nat × Obj)}
theorem TS{x y:Operand}{t B len c2 k:Nat}{v:Value}{xs news:List Value}{a:Addr}(hE:Elems P t 5 1 1)
    (hF:FR w0 Ds bs_ w) (hO:w.ownsRow B 5 1 v len xs) (hB:B<=w.heap.size) (hx:ev n s x=v) (hy:ev n s y=.slice (some a) k c2)
    (hl:news.length=k*1) (hnews:∀j u,news[j]? = some u->w.cell? (a.add j)=some u) (h1:∀u∈news,u.oneCell'=true) (hb:len+k<=140737488355328)
    (hr:∀b,v.ownBlock=some b->(b<w0.heap.size->b∈Ds)/\∀p∈bs_,p.1≠b)
    (h:∀v' w',w'.ownsRow B 5 1 v' (len+k) (xs++news)->FR w0 Ds bs_ w'->w.heap.size<=w'.heap.size->Og P R n ops kt rest (Ge s d v') w')
    (hw:Wa ops n s ⟨some d,.call ⟨.builtin .append,#[x,y],#[t,t]⟩,ty,pos,aft,g⟩=true:=by rfl):Og P R n ops kt (⟨some d,.call ⟨.builtin .append,#[x,y],#[t,t]⟩,ty,pos,aft,g⟩::rest) s w:=by
  obtain⟨i,z,hi,hz,h2,h3,h4⟩:=hE.info;obtain⟨v',w',hr',hO',hg,-⟩:=run_append_own (P:=P) w B t ty 5 i z 1 1 hE.ht hi hz h2 h3 h4 Ta v len xs hO a k c2 news hl hnews h1 (by unfold maxLen;omega) Ba hB;exact Ja (Bp hx hy hr') (h v' w' hO' (hF.grown hg hr) hg.size) hw
theorem YS{x y:Operand}{t u B len:Nat}{v:Value}{xs:List Value}{str:Str}(hE:Elems P t 5 1 1)(hz0:(P.info? 5).map (·.zero)=some (some (.int .u8 0)))(hu:P.underlying u=some .string)
    (hF:FR w0 Ds bs_ w) (hO:w.ownsRow B 5 1 v len xs) (hB:B<=w.heap.size) (hx:ev n s x=v) (hy:ev n s y=I str) (hb:len+str.length<=140737488355328)
    (hr:∀b,v.ownBlock=some b->(b<w0.heap.size->b∈Ds)/\∀p∈bs_,p.1≠b)
    (h:∀v' w',w'.ownsRow B 5 1 v' (len+str.length) (xs++Lib.byteCells str)->FR w0 Ds bs_ w'->w.heap.size<=w'.heap.size->Og P R n ops kt rest (Ge s d v') w')
    (hw:Wa ops n s ⟨some d,.call ⟨.builtin .append,#[x,y],#[t,u]⟩,ty,pos,aft,g⟩=true:=by rfl):Og P R n ops kt (⟨some d,.call ⟨.builtin .append,#[x,y],#[t,u]⟩,ty,pos,aft,g⟩::rest) s w:=by
  obtain⟨i,z,hi,hz,h2,h3,h4⟩:=hE.info;rw[hi]at hz0;have hz1:i.zero=some (.int .u8 0):=by simpa using hz0
  have e:(bs str).size=str.length:=Pm str;obtain⟨v',w',hr',hO',hg,-⟩:=Lib.run_append_own_string (P:=P) w B t u ty 5 i hE.ht hu hi hz1 h2 h3 v len xs hO (bs str) (by rw[e];unfold maxLen;omega) (by rw[e];omega) hB;rw[e]at hO';exact Ja (BM hx hy hr') (h v' w' (by simpa[Lib.strCells_eq,Ol,bs]using hO') (hF.grown hg hr) hg.size) hw
end
theorem TT:liesAt prog prog.depth 132 (2/prog.cellsOf 132) 0 132 1=true:=by kernel_rfl
theorem GR:liesAt prog prog.depth 134 (4/prog.cellsOf 134) 0 132 1=true:=by kernel_rfl
theorem Qv:(prog.info? 132).map (·.size)=some 2:=by kernel_rfl
theorem L_(w0:World)(pb:Nat)(v:Value)(hh:w0.heap[pb]? = some (.cells #[.pointer none,v] 132)):Calls prog 176 #[V pb] w0 (Pc λv_ w'=>v_=.tuple #[]/\Same [pb] w0 w'/\w'.heap[pb]? = some (.cells #[V pb,v] 132)):=by
 obtain⟨j,hj,hjs⟩:=Option.map_eq_some_iff.1 Qv;have hne:pb<w0.heap.size:=Kb hh;refine Ea func176 O ntmps176 Db (Rb _) ?_;have hF:FR w0 [pb] [(pb,.cells #[.pointer none,v] 132)] w0:=FR.open_ (by simpa using hh) La;refine Da (Aa (Wf O) (Aa (Ii O) (Aa (Ob Xl O) (Tb (L5 isAgg129 O hF.F 0 O O) (Ja (v:=.bool true) (CK tZ O O) (Ca (Fd O (Ha (Aa (Wf O) (Aa (Wf O) ?_))))))))));refine Ja (v:=V pb) (Zz O (Lib.run_to_unsafe _ ⟨pb,0,none⟩ tZ underlying251 hj (by rw[hjs];decide) (e:=132) (cells:=2) (by simp[World.shape?,hF.heap (i:=0) O]) (Nat.zero_lt_succ _))) ?_;refine Ja (v:=V pb) (UR func210 Ib Ib Ib (e:=Extern.AbiNoEscape.same) Ib O O (Lib.run_noEscape _ _)) (Ja (v:=V pb) (Zz O (Lib.run_from_unsafe _ ⟨pb,0,none⟩ underlying251 tZ hj (e:=132) (cells:=2) (by simp[World.shape?,hF.heap (i:=0) O]) TT)) ?_);refine Aa (Ii O) (Aa (Ob Xl O) ?_);refine Zj (.pointer _) hF sizeOf129 O O Qg Qg ?_;rintro w hF -;refine Ua (Fg (Ce (Xi O) ?_));exact⟨O,hF.same,hF.heap (i:=0) O⟩
theorem J9(w0:World)(pb:Nat)(v:Value)(m:Bool)(i:Int)(hh:w0.heap[pb]? = some (.cells #[.pointer none,v,.bool (m),J i] 134)):Calls prog 176 #[V pb] w0 (Pc λv_ w'=>v_=.tuple #[]/\Same [pb] w0 w'/\w'.heap[pb]? = some (.cells #[V pb,v,.bool (m),J i] 134)):=by
 obtain⟨j,hj,hjs⟩:=Option.map_eq_some_iff.1 Qv;have hne:pb<w0.heap.size:=Kb hh;refine Ea func176 O ntmps176 Db (Rb _) ?_;have hF:FR w0 [pb] [(pb,.cells #[.pointer none,v,.bool (m),J i] 134)] w0:=FR.open_ (by simpa using hh) La;refine Da (Aa (Wf O) (Aa (Ii O) (Aa (Ob Xl O) (Tb (L5 isAgg129 O hF.F 0 O O) (Ja (v:=.bool true) (CK tZ O O) (Ca (Fd O (Ha (Aa (Wf O) (Aa (Wf O) ?_))))))))));refine Ja (v:=V pb) (Zz O (Lib.run_to_unsafe _ ⟨pb,0,none⟩ tZ underlying251 hj (by rw[hjs];decide) (e:=134) (cells:=4) (by simp[World.shape?,hF.heap (i:=0) O]) (Nat.zero_lt_succ _))) ?_;refine Ja (v:=V pb) (UR func210 Ib Ib Ib (e:=Extern.AbiNoEscape.same) Ib O O (Lib.run_noEscape _ _)) (Ja (v:=V pb) (Zz O (Lib.run_from_unsafe _ ⟨pb,0,none⟩ underlying251 tZ hj (e:=134) (cells:=4) (by simp[World.shape?,hF.heap (i:=0) O]) GR)) ?_);refine Aa (Ii O) (Aa (Ob Xl O) ?_);refine Zj (.pointer _) hF sizeOf129 O O Qg Qg ?_;rintro w hF -;refine Ua (Fg (Ce (Xi O) ?_));exact⟨O,hF.same,hF.heap (i:=0) O⟩
theorem G8(w0:World)(pb:Nat)(v:Value)(hh:w0.heap[pb]? = some (.cells #[V pb,v] 132)):Calls prog 176 #[V pb] w0 (Pc λv_ w'=>v_=.tuple #[]/\Same [pb] w0 w'/\w'.heap[pb]? = some (.cells #[V pb,v] 132)):=by
 obtain⟨j,hj,hjs⟩:=Option.map_eq_some_iff.1 Qv;have hne:pb<w0.heap.size:=Kb hh;refine Ea func176 O ntmps176 Db (Rb _) ?_;have hF:FR w0 [pb] [(pb,.cells #[V pb,v] 132)] w0:=FR.open_ (by simpa using hh) La;refine Da (Aa (Wf O) (Aa (Ii O) (Aa (Ob Xl O) (Tb (L5 isAgg129 O hF.F 0 O O) (Ja (v:=.bool false) (LI tZ O O) (Ca (We O (Da (Aa (Wf O) (Aa (Ii O) ?_))))))))));refine Aa (Ob Xl O) (Tb (L5 isAgg129 O hF.F 0 O O) (Aa (Wf O) (Ja (v:=.bool false) (NT tZ hj O O) (Ca (We O (Na ?_))))));refine Fg (Ce (Xi O) ?_);exact⟨O,hF.same,hF.heap (i:=0) O⟩
theorem V7(w0:World)(pb:Nat)(v:Value)(m:Bool)(i:Int)(hh:w0.heap[pb]? = some (.cells #[V pb,v,.bool (m),J i] 134)):Calls prog 176 #[V pb] w0 (Pc λv_ w'=>v_=.tuple #[]/\Same [pb] w0 w'/\w'.heap[pb]? = some (.cells #[V pb,v,.bool (m),J i] 134)):=by
 obtain⟨j,hj,hjs⟩:=Option.map_eq_some_iff.1 Qv;have hne:pb<w0.heap.size:=Kb hh;refine Ea func176 O ntmps176 Db (Rb _) ?_;have hF:FR w0 [pb] [(pb,.cells #[V pb,v,.bool (m),J i] 134)] w0:=FR.open_ (by simpa using hh) La;refine Da (Aa (Wf O) (Aa (Ii O) (Aa (Ob Xl O) (Tb (L5 isAgg129 O hF.F 0 O O) (Ja (v:=.bool false) (LI tZ O O) (Ca (We O (Da (Aa (Wf O) (Aa (Ii O) ?_))))))))));refine Aa (Ob Xl O) (Tb (L5 isAgg129 O hF.F 0 O O) (Aa (Wf O) (Ja (v:=.bool false) (NT tZ hj O O) (Ca (We O (Na ?_))))));refine Fg (Ce (Xi O) ?_);exact⟨O,hF.same,hF.heap (i:=0) O⟩
theorem Lk{w0:World}{B pb T:Nat}{rest:List Value}{s:Str}(h:Bd w0 B pb T rest s) :
    ∃v, w0.ownsRow B 5 1 v s.length (Lib.byteCells s) /\ (∀g, v.ownBlock = some g -> g ∈ Wk w0 B pb /\ g ≠ pb) /\
      Calls prog 176 #[V pb] w0 (Pc λu w'=>u=.tuple #[]/\Same [pb] w0 w'/\w'.heap[pb]? = some (.cells (V pb::v::rest).toArray T)/\w'.ownsRow B 5 1 v s.length (Lib.byteCells s)):=by
  obtain⟨hs,hle,ap,v,hh,hO,ha⟩:=h;have hne:∀g,v.ownBlock=some g->g≠pb:=λg hg=>Yq hO hg hh (by exact hs.ne);refine⟨v,hO,λg hg=>⟨W7 hO hg,hne g hg⟩,?_⟩;have fin:∀{u:Value}{w':World},(u=.tuple #[]/\Same [pb] w0 w'/\w'.heap[pb]? = some (.cells (V pb::v::rest).toArray T))->(u=.tuple #[]/\Same [pb] w0 w'/\w'.heap[pb]? = some (.cells (V pb::v::rest).toArray T)/\w'.ownsRow B 5 1 v s.length (Lib.byteCells s)) :=
    λ⟨h1,h2,h3⟩=>⟨h1,h2,h3,Ei hO h2 (λg hg=>by simpa using hne g hg)⟩
  rcases hs with ⟨rfl,rfl⟩|⟨rfl,m,i,rfl⟩ <;> rcases ha with rfl|rfl
  ·exact Kj (L_ w0 pb v hh) λ_ _=>fin
  ·exact Kj (G8 w0 pb v hh) λ_ _=>fin
  ·exact Kj (J9 w0 pb v m i hh) λ_ _=>fin
  exact Kj (V7 w0 pb v m i hh) λ_ _=>fin
theorem D7:(prog.info? 5).map (·.zero)=some (some (.int .u8 0)):=by kernel_rfl
theorem FR.addD{w0 w:World}{Ds:List Nat}{bs_:List (Nat × Obj)}{b:Nat}{o:Obj}(h:FR w0 Ds bs_ w)(hh:w.heap[b]? = some o)(hd:w0.heap.size<=b\/b∈Ds)(hn:∀p∈bs_,p.1≠b):FR w0 Ds ((b,o)::bs_) w :=
  ⟨h.same,λp hp=>by
    rcases oQ.1 hp with rfl|hp
    ·exact⟨hh,hd⟩
    exact h.own p hp,List.pairwise_cons.2 ⟨λq hq=>hn q hq,h.desc⟩⟩
def Uf(r:Int):Str:=(Lib.encodeRuneZ r).map λx=>UInt8.ofNat x.toNat
theorem Fh(r:Int):1<=(Uf r).length/\(Uf r).length<=4:=by rw[Uf,rQ];exact Lib.encodeRuneZ_length r
theorem Ai(r:Int):Lib.byteCells (Uf r)=Lib.runeCells r:=by
  rw[Uf,Lib.byteCells,Lib.runeCells,List.map_map];refine List.map_congr_left λx hx=>?_;have:=Lib.encodeRuneZ_byte r x hx;simp only[Function.comp_apply,Value.int.injEq,true_and,UInt8.toNat_ofNat'];omega
theorem Bx{w:World}{B n:Nat}{v:Value}{xs:List Value}{r:Int}(hO:w.ownsRow B 5 1 v n xs)(h0:-2147483648<=r)(h1:r<=2147483647)(hn:n+4<=140737488355328)(hB:B<=w.heap.size) :
    Calls prog 246 #[v,.int .i32 r] w (Pc λv' w'=>w'.ownsRow B 5 1 v' (n+(Uf r).length) (xs++Lib.byteCells (Uf r))/\∃o,(w.alloc o).grownBy w' v.ownBlock):=by
  refine (utf8_AppendRune_plain B v n xs r h0 h1 w hO hn hB).mono λe w' ⟨v',he,h2,h3⟩=>⟨v',he,?_,h3⟩;have e1:(Uf r).length=(Lib.runeCells r).length:=by rw[<-Ai,Lib.byteCells_length]
  rw[e1,Ai];exact h2
def Bv(f:Nat)(args:Array Value)(u:Value)(w0:World)(B pb T:Nat)(rest:List Value)(s:Str):Prop :=
  Calls prog f args w0 (Pc λv w'=>v=u/\Bd w' B pb T rest s/\Same (Wk w0 B pb) w0 w')
theorem FE(w0:World)(B pb:Nat)(s:Str)(hB:Bd w0 B pb 132 [] s)(c:UInt8)(hl:s.length+1<=140737488355328):Bv 178 #[V pb,.int .u8 ((c.toNat:Nat):Int)] .nilIface w0 B pb 132 [] (s++[c]):=by
 unfold Bv;refine Ea func178 O ntmps178 Db (Lc _ _) ?_;obtain⟨v,hO0,hv,hC⟩:=Lk hB;have hle:=hB.le;have hBw:=hB.base;have hlt:=hB.lt;have hws:=gQ w0.heap.size;have hvl:∀g,v.ownBlock=some g->g<w0.heap.size:=λg hg=>(Vm hO0 hg).1;obtain⟨A1,c1,rfl⟩:=Zg hO0;have hF:=FR.start w0 (Wk w0 B pb);refine Da (Aa (Px) (Qb (Aa (Wf O) ?_)));refine Ya hC (Ma Fy O O) ?_;rintro _ w ⟨rfl,hE,hh,hO⟩;have hws:=fQ hws hE.size;have hBw:=fQ hBw hE.size;have hF:FR w0 (Wk w0 B pb) [(pb,.cells #[V pb,.slice A1 s.length c1] 132)] w:=(hF.touch hE (λb hb=>by obtain rfl:=pQ.1 hb;exact⟨λ_=>Vf.2 (.inl rfl),by simp⟩)).addD hh (.inr (Vf.2 (.inl rfl))) La;clear hE hh;refine Qb (Aa (Wf O) (Aa (Wf O) (Aa (Ii O) (Aa (Ob Je O) (Tb (Ff tQ O hF.F 0 O O) (Aa (Gb O) ?_))))));refine Ek 1 hF (Eb (cs:=#[.int .u8 ((c.toNat:Nat))]) uZ sizeOf5 zeroValue5 Ta Ta Ib) ?_;intro b1 w hb1 hF hE;have nb1:w0.heap.size<=b1:=by rw[hb1];exact hws
 have hws:=fQ hws hE.size;have hBw:=fQ hBw hE.size;have hO:=Ei hO hE La;refine TS (news:=[.int .u8 ((c.toNat:Nat):Int)]) N8 hF hO hBw rfl rfl rfl (Yc (hF.cellsAll 0 rfl)) (by simp[Value.oneCell']) Ba (λb hb=>⟨λ_=>(hv b hb).1,by have h1:=(hv b hb).2;have h2:=hvl b hb;intro p hp;simp only[oQ,List.not_mem_nil,or_false]at hp;rcases hp with rfl|rfl <;> grind⟩) ?_;clear hF hO;intro v2 w hO hF hsz;have hws:=fQ hws hsz;have hBw:=fQ hBw hsz;have hne2:∀g,v2.ownBlock=some g->g≠pb:=λg hg=>Yq hO hg (hF.heap (i:=1) rfl) rfl;obtain⟨A2,c2,rfl⟩:=Zg hO;clear hsz;refine Aa (Ii O) (Aa (Ob Je O) ?_);refine Zj (.slice _ _ _) hF sizeOf130 O O Mr Mr ?_;intro w hF hE;have hws:=fQ hws hE.size;have hBw:=fQ hBw hE.size;have hO:=Ei hO hE (λg hg=>by simpa using hne2 g hg);refine Qb (Aa (Px) (Ca ?_));refine Hc (v:=.nilIface) O O ?_;exact⟨O,⟨.inl ⟨O,O⟩,hle,_,_,hF.heap (i:=1) O,by simpa[Xm,Lib.byteCells,Ai]using hO,.inr O⟩,hF.same⟩
theorem S4(w0:World)(B pb:Nat)(s:Str)(hB:Bd w0 B pb 132 [] s)(t:Str)(hl:s.length+t.length<=140737488355328):Bv 135 #[V pb,I t] (.tuple #[J ((t.length:Nat):Int),.nilIface]) w0 B pb 132 [] (s++t):=by
 unfold Bv;refine Ea func135 O ntmps135 Db (Lc _ _) ?_;obtain⟨v,hO0,hv,hC⟩:=Lk hB;have hle:=hB.le;have hBw:=hB.base;have hlt:=hB.lt;have hws:=gQ w0.heap.size;have hvl:∀g,v.ownBlock=some g->g<w0.heap.size:=λg hg=>(Vm hO0 hg).1;obtain⟨A1,c1,rfl⟩:=Zg hO0;have hF:=FR.start w0 (Wk w0 B pb);refine Da (Aa (Lb O) (Aa (Px) (Qb (Aa (Wf O) ?_))));refine Ya hC (Ma Fy O O) ?_;rintro _ w ⟨rfl,hE,hh,hO⟩;have hws:=fQ hws hE.size;have hBw:=fQ hBw hE.size;have hF:FR w0 (Wk w0 B pb) [(pb,.cells #[V pb,.slice A1 s.length c1] 132)] w:=(hF.touch hE (λb hb=>by obtain rfl:=pQ.1 hb;exact⟨λ_=>Vf.2 (.inl rfl),by simp⟩)).addD hh (.inr (Vf.2 (.inl rfl))) La;clear hE hh;refine Qb (Aa (Wf O) (Aa (Wf O) (Aa (Ii O) (Aa (Ob Je O) (Tb (Ff tQ O hF.F 0 O O) (Aa (Md O) ?_))))));refine YS (str:=t) N8 D7 iX hF hO hBw rfl rfl Ba (λb hb=>⟨λ_=>(hv b hb).1,by have h1:=(hv b hb).2;have h2:=hvl b hb;intro p hp;simp only[oQ,List.not_mem_nil,or_false]at hp;rcases hp with rfl <;> grind⟩) ?_;clear hF hO;intro v2 w hO hF hsz;have hws:=fQ hws hsz;have hBw:=fQ hBw hsz;have hne2:∀g,v2.ownBlock=some g->g≠pb:=λg hg=>Yq hO hg (hF.heap (i:=0) rfl) rfl;obtain⟨A2,c2,rfl⟩:=Zg hO;clear hsz;refine Aa (Ii O) (Aa (Ob Je O) ?_);refine Zj (.slice _ _ _) hF sizeOf130 O O Qg Mr ?_;intro w hF hE;have hws:=fQ hws hE.size;have hBw:=fQ hBw hE.size;have hO:=Ei hO hE (λg hg=>by simpa using hne2 g hg);refine Qb (Aa (Md O) (Aa (Qr iX O) (Aa (Lb O) (Aa (Px) (Ca ?_)))));refine Ab (Za (Ka (Vc (v:=J ((((t):Str).length:Int))) (x:=.nilIface) O O O) ?_));exact⟨O,⟨.inl ⟨O,O⟩,hle,_,_,hF.heap (i:=0) O,by simpa[Xm,Lib.byteCells,Ai]using hO,.inr O⟩,hF.same⟩
theorem SA(w0:World)(B pb:Nat)(s:Str)(hB:Bd w0 B pb 132 [] s)(r:Int)(hr0:-2147483648<=r)(hr1:r<=2147483647)(hl:s.length+4<=140737488355328):Bv 212 #[V pb,.int .i32 r] (.tuple #[J (((Uf r).length:Nat):Int),.nilIface]) w0 B pb 132 [] (s++Uf r):=by
 unfold Bv;have hrl:=Fh r;refine Ea func212 O ntmps212 Db (Lc _ _) ?_;obtain⟨v,hO0,hv,hC⟩:=Lk hB;have hle:=hB.le;have hBw:=hB.base;have hlt:=hB.lt;have hws:=gQ w0.heap.size;have hvl:∀g,v.ownBlock=some g->g<w0.heap.size:=λg hg=>(Vm hO0 hg).1;obtain⟨A1,c1,rfl⟩:=Zg hO0;have hF:=FR.start w0 (Wk w0 B pb);refine Da (Aa (Lb O) (Aa (Px) (Qb (Aa (Wf O) ?_))));refine Ya hC (Ma Fy O O) ?_;rintro _ w ⟨rfl,hE,hh,hO⟩;have hws:=fQ hws hE.size;have hBw:=fQ hBw hE.size;have hF:FR w0 (Wk w0 B pb) [(pb,.cells #[V pb,.slice A1 s.length c1] 132)] w:=(hF.touch hE (λb hb=>by obtain rfl:=pQ.1 hb;exact⟨λ_=>Vf.2 (.inl rfl),by simp⟩)).addD hh (.inr (Vf.2 (.inl rfl))) La;clear hE hh;refine Qb (Aa (Wf O) (Aa (Ii O) (Aa (Ob Je O) (Tb (Ff tQ O hF.F 0 O O) (Aa (Ug uZ O) (Aa (Lb O) (Qb ?_)))))));refine Aa (Wf O) (Aa (Wf O) (Aa (Ii O) (Aa (Ob Je O) (Tb (Ff tQ O hF.F 0 O O) (Aa (Gb O) ?_)))));refine Ya (Bx hO hr0 hr1 Ba hBw) (Ra GS O O O) ?_;rintro v2 w2 ⟨hO2,o,hg⟩;have hF:=(hF.ext (Same.alloc _ o)).grown hg (λb hb=>⟨λ_=>(hv b hb).1,by have h1:=(hv b hb).2;have h2:=hvl b hb;intro p hp;simp only[oQ,List.not_mem_nil,or_false]at hp;rcases hp with rfl <;> grind⟩);have hsz:=fQ (Same.alloc _ o).size hg.size;clear hO hg;revert hsz hF hO2;generalize w2=w;intro hO hF hsz;have hws:=fQ hws hsz;have hBw:=fQ hBw hsz;have hne2:∀g,v2.ownBlock=some g->g≠pb:=λg hg=>Yq hO hg (hF.heap (i:=0) rfl) rfl;obtain⟨A2,c2,rfl⟩:=Zg hO;clear hsz;refine Aa (Ii O) (Aa (Ob Je O) ?_);refine Zj (.slice _ _ _) hF sizeOf130 O O Qg Mr ?_;intro w hF hE;have hws:=fQ hws hE.size;have hBw:=fQ hBw hE.size;have hO:=Ei hO hE (λg hg=>by simpa using hne2 g hg);refine Qb (Aa (Wf O) (Aa (Ii O) (Aa (Ob Je O) (Tb (Ff tQ O hF.F 0 O O) (Aa (Ug uZ O) (Aa (Gb O) (Aa (MV (((Uf r).length:Nat)) O O) (Aa (Lb O) (Aa (Px) (Ua ?_))))))))))
 refine Ga (Ab (Za (Ka (Vc (v:=J (((Uf r).length:Nat))) (x:=.nilIface) O O O) ?_)));exact⟨O,⟨.inl ⟨O,O⟩,hle,_,_,hF.heap (i:=0) O,by simpa[Xm,Lib.byteCells,Ai]using hO,.inr O⟩,hF.same⟩
theorem YD(w0:World)(B pb:Nat)(m:Bool)(i:Int)(s:Str)(hB:Bd w0 B pb 134 [.bool (m),J i] s)(c:UInt8)(hl:s.length+1<=140737488355328):Bv 178 #[V pb,.int .u8 ((c.toNat:Nat):Int)] .nilIface w0 B pb 134 [.bool (m),J i] (s++[c]):=by
 unfold Bv;refine Ea func178 O ntmps178 Db (Lc _ _) ?_;obtain⟨v,hO0,hv,hC⟩:=Lk hB;have hle:=hB.le;have hBw:=hB.base;have hlt:=hB.lt;have hws:=gQ w0.heap.size;have hvl:∀g,v.ownBlock=some g->g<w0.heap.size:=λg hg=>(Vm hO0 hg).1;obtain⟨A1,c1,rfl⟩:=Zg hO0;have hF:=FR.start w0 (Wk w0 B pb);refine Da (Aa (Px) (Qb (Aa (Wf O) ?_)));refine Ya hC (Ma Fy O O) ?_;rintro _ w ⟨rfl,hE,hh,hO⟩;have hws:=fQ hws hE.size;have hBw:=fQ hBw hE.size;have hF:FR w0 (Wk w0 B pb) [(pb,.cells #[V pb,.slice A1 s.length c1,.bool (m),J i] 134)] w:=(hF.touch hE (λb hb=>by obtain rfl:=pQ.1 hb;exact⟨λ_=>Vf.2 (.inl rfl),by simp⟩)).addD hh (.inr (Vf.2 (.inl rfl))) La;clear hE hh;refine Qb (Aa (Wf O) (Aa (Wf O) (Aa (Ii O) (Aa (Ob Je O) (Tb (Ff tQ O hF.F 0 O O) (Aa (Gb O) ?_))))));refine Ek 1 hF (Eb (cs:=#[.int .u8 ((c.toNat:Nat))]) uZ sizeOf5 zeroValue5 Ta Ta Ib) ?_;intro b1 w hb1 hF hE;have nb1:w0.heap.size<=b1:=by rw[hb1];exact hws
 have hws:=fQ hws hE.size;have hBw:=fQ hBw hE.size;have hO:=Ei hO hE La;refine TS (news:=[.int .u8 ((c.toNat:Nat):Int)]) N8 hF hO hBw rfl rfl rfl (Yc (hF.cellsAll 0 rfl)) (by simp[Value.oneCell']) Ba (λb hb=>⟨λ_=>(hv b hb).1,by have h1:=(hv b hb).2;have h2:=hvl b hb;intro p hp;simp only[oQ,List.not_mem_nil,or_false]at hp;rcases hp with rfl|rfl <;> grind⟩) ?_;clear hF hO;intro v2 w hO hF hsz;have hws:=fQ hws hsz;have hBw:=fQ hBw hsz;have hne2:∀g,v2.ownBlock=some g->g≠pb:=λg hg=>Yq hO hg (hF.heap (i:=1) rfl) rfl;obtain⟨A2,c2,rfl⟩:=Zg hO;clear hsz;refine Aa (Ii O) (Aa (Ob Je O) ?_);refine Zj (.slice _ _ _) hF sizeOf130 O O Mr Mr ?_;intro w hF hE;have hws:=fQ hws hE.size;have hBw:=fQ hBw hE.size;have hO:=Ei hO hE (λg hg=>by simpa using hne2 g hg);refine Qb (Aa (Px) (Ca ?_));refine Hc (v:=.nilIface) O O ?_;exact⟨O,⟨.inr ⟨O,m,i,O⟩,hle,_,_,hF.heap (i:=1) O,by simpa[Xm,Lib.byteCells,Ai]using hO,.inr O⟩,hF.same⟩
theorem R4(w0:World)(B pb:Nat)(m:Bool)(i:Int)(s:Str)(hB:Bd w0 B pb 134 [.bool (m),J i] s)(t:Str)(hl:s.length+t.length<=140737488355328):Bv 135 #[V pb,I t] (.tuple #[J ((t.length:Nat):Int),.nilIface]) w0 B pb 134 [.bool (m),J i] (s++t):=by
 unfold Bv;refine Ea func135 O ntmps135 Db (Lc _ _) ?_;obtain⟨v,hO0,hv,hC⟩:=Lk hB;have hle:=hB.le;have hBw:=hB.base;have hlt:=hB.lt;have hws:=gQ w0.heap.size;have hvl:∀g,v.ownBlock=some g->g<w0.heap.size:=λg hg=>(Vm hO0 hg).1;obtain⟨A1,c1,rfl⟩:=Zg hO0;have hF:=FR.start w0 (Wk w0 B pb);refine Da (Aa (Lb O) (Aa (Px) (Qb (Aa (Wf O) ?_))));refine Ya hC (Ma Fy O O) ?_;rintro _ w ⟨rfl,hE,hh,hO⟩;have hws:=fQ hws hE.size;have hBw:=fQ hBw hE.size;have hF:FR w0 (Wk w0 B pb) [(pb,.cells #[V pb,.slice A1 s.length c1,.bool (m),J i] 134)] w:=(hF.touch hE (λb hb=>by obtain rfl:=pQ.1 hb;exact⟨λ_=>Vf.2 (.inl rfl),by simp⟩)).addD hh (.inr (Vf.2 (.inl rfl))) La;clear hE hh;refine Qb (Aa (Wf O) (Aa (Wf O) (Aa (Ii O) (Aa (Ob Je O) (Tb (Ff tQ O hF.F 0 O O) (Aa (Md O) ?_))))));refine YS (str:=t) N8 D7 iX hF hO hBw rfl rfl Ba (λb hb=>⟨λ_=>(hv b hb).1,by have h1:=(hv b hb).2;have h2:=hvl b hb;intro p hp;simp only[oQ,List.not_mem_nil,or_false]at hp;rcases hp with rfl <;> grind⟩) ?_;clear hF hO;intro v2 w hO hF hsz;have hws:=fQ hws hsz;have hBw:=fQ hBw hsz;have hne2:∀g,v2.ownBlock=some g->g≠pb:=λg hg=>Yq hO hg (hF.heap (i:=0) rfl) rfl;obtain⟨A2,c2,rfl⟩:=Zg hO;clear hsz;refine Aa (Ii O) (Aa (Ob Je O) ?_);refine Zj (.slice _ _ _) hF sizeOf130 O O Qg Mr ?_;intro w hF hE;have hws:=fQ hws hE.size;have hBw:=fQ hBw hE.size;have hO:=Ei hO hE (λg hg=>by simpa using hne2 g hg);refine Qb (Aa (Md O) (Aa (Qr iX O) (Aa (Lb O) (Aa (Px) (Ca ?_)))));refine Ab (Za (Ka (Vc (v:=J ((((t):Str).length:Int))) (x:=.nilIface) O O O) ?_));exact⟨O,⟨.inr ⟨O,m,i,O⟩,hle,_,_,hF.heap (i:=0) O,by simpa[Xm,Lib.byteCells,Ai]using hO,.inr O⟩,hF.same⟩
theorem QE(w0:World)(B pb:Nat)(m:Bool)(i:Int)(s:Str)(hB:Bd w0 B pb 134 [.bool (m),J i] s)(r:Int)(hr0:-2147483648<=r)(hr1:r<=2147483647)(hl:s.length+4<=140737488355328):Bv 212 #[V pb,.int .i32 r] (.tuple #[J (((Uf r).length:Nat):Int),.nilIface]) w0 B pb 134 [.bool (m),J i] (s++Uf r):=by
 unfold Bv;have hrl:=Fh r;refine Ea func212 O ntmps212 Db (Lc _ _) ?_;obtain⟨v,hO0,hv,hC⟩:=Lk hB;have hle:=hB.le;have hBw:=hB.base;have hlt:=hB.lt;have hws:=gQ w0.heap.size;have hvl:∀g,v.ownBlock=some g->g<w0.heap.size:=λg hg=>(Vm hO0 hg).1;obtain⟨A1,c1,rfl⟩:=Zg hO0;have hF:=FR.start w0 (Wk w0 B pb);refine Da (Aa (Lb O) (Aa (Px) (Qb (Aa (Wf O) ?_))));refine Ya hC (Ma Fy O O) ?_;rintro _ w ⟨rfl,hE,hh,hO⟩;have hws:=fQ hws hE.size;have hBw:=fQ hBw hE.size;have hF:FR w0 (Wk w0 B pb) [(pb,.cells #[V pb,.slice A1 s.length c1,.bool (m),J i] 134)] w:=(hF.touch hE (λb hb=>by obtain rfl:=pQ.1 hb;exact⟨λ_=>Vf.2 (.inl rfl),by simp⟩)).addD hh (.inr (Vf.2 (.inl rfl))) La;clear hE hh;refine Qb (Aa (Wf O) (Aa (Ii O) (Aa (Ob Je O) (Tb (Ff tQ O hF.F 0 O O) (Aa (Ug uZ O) (Aa (Lb O) (Qb ?_)))))));refine Aa (Wf O) (Aa (Wf O) (Aa (Ii O) (Aa (Ob Je O) (Tb (Ff tQ O hF.F 0 O O) (Aa (Gb O) ?_)))));refine Ya (Bx hO hr0 hr1 Ba hBw) (Ra GS O O O) ?_;rintro v2 w2 ⟨hO2,o,hg⟩;have hF:=(hF.ext (Same.alloc _ o)).grown hg (λb hb=>⟨λ_=>(hv b hb).1,by have h1:=(hv b hb).2;have h2:=hvl b hb;intro p hp;simp only[oQ,List.not_mem_nil,or_false]at hp;rcases hp with rfl <;> grind⟩);have hsz:=fQ (Same.alloc _ o).size hg.size;clear hO hg;revert hsz hF hO2;generalize w2=w;intro hO hF hsz;have hws:=fQ hws hsz;have hBw:=fQ hBw hsz;have hne2:∀g,v2.ownBlock=some g->g≠pb:=λg hg=>Yq hO hg (hF.heap (i:=0) rfl) rfl;obtain⟨A2,c2,rfl⟩:=Zg hO;clear hsz;refine Aa (Ii O) (Aa (Ob Je O) ?_);refine Zj (.slice _ _ _) hF sizeOf130 O O Qg Mr ?_;intro w hF hE;have hws:=fQ hws hE.size;have hBw:=fQ hBw hE.size;have hO:=Ei hO hE (λg hg=>by simpa using hne2 g hg);refine Qb (Aa (Wf O) (Aa (Ii O) (Aa (Ob Je O) (Tb (Ff tQ O hF.F 0 O O) (Aa (Ug uZ O) (Aa (Gb O) (Aa (MV (((Uf r).length:Nat)) O O) (Aa (Lb O) (Aa (Px) (Ua ?_))))))))))
 refine Ga (Ab (Za (Ka (Vc (v:=J (((Uf r).length:Nat))) (x:=.nilIface) O O O) ?_)));exact⟨O,⟨.inr ⟨O,m,i,O⟩,hle,_,_,hF.heap (i:=0) O,by simpa[Xm,Lib.byteCells,Ai]using hO,.inr O⟩,hF.same⟩
theorem D3:prog.cellsOf 5=1:=by kernel_rfl
theorem Same.freeze(w:World)(a:Addr)(n:Nat):Same [a.block] w (w.freeze a n):=by
  have h:=Lib.below_freeze (B:=a.block) (Below.refl a.block w) (p:=a) (gQ _) n;refine⟨h.os,h.tape,h.output,h.size,λb hb hn=>?_⟩;have hn':b≠a.block:=by simpa using hn
  unfold World.freeze;split
  ·rfl
  simp[Array.getElem?_modify,hn'.symm]
theorem RT(w0:World)(B pb:Nat)(s:Str)(hB:Bd w0 B pb 132 [] s)(h0:s≠[]):Calls prog 91 #[V pb] w0 (Pc λv w'=>v=I s/\Same (Wk w0 B pb) w0 w'):=by
  refine Ea func91 O ntmps91 Db (Rb _) ?_;obtain⟨-,hle,ap,v,hh,hO,-⟩:=hB;have hsl:s.length≠0:=by simpa using h0
  obtain⟨g,c1,cur,rfl,hbg,hg,hnc,hcm,hcs,htake⟩:∃g cap cur,v=W g s.length cap/\B<=g/\w0.heap[g]? = some (.cells cur 5 (0,0))/\s.length<=cap/\cap<=maxLen/\cur.size=cap*1/\cur.toList.take (s.length*1)=Lib.byteCells s:=by
    rcases hO.2 with ⟨_,hz⟩|⟨g,cap,cur,hv,r⟩
    ·exact absurd hz hsl
    exact⟨g,cap,cur,hv,r⟩
  have hgm:g∈Wk w0 B pb:=W7 hO rfl;have hgn:g≠pb:=Yq hO rfl hh (by rfl);have hF:FR w0 (Wk w0 B pb) [(pb,.cells #[ap,W g s.length c1] 132)] w0:=(FR.start w0 (Wk w0 B pb)).addD hh (.inr (Vf.2 (.inl rfl))) La;refine Fa (Ha ?_);refine Aa (Rf O) (Ua ?_);refine Ga (Fa ?_);refine Ld (.of []) (bQ [0,1,2,3,5,6,7,8,9] (.act 4 (.act 10 (.free 11 .nil)))) hF ?_;intro w hF hE;have hg:=(hE.block g (Kb hg) La).trans hg;have hO:=Ei hO hE La;refine⟨λwq=>FR w0 (Wk w0 B pb) _ wq,hF,?_⟩;refine Fb O (Wf O) (Fb O (Ii O) ?_);refine Fb O (Ob Je O) (Sf O (Ff tQ O C0 0 O O) ?_);refine Fb O (Wf O) (Fb O (Ii O) ?_);refine Fb O (Ob Je O) (Sf O (Ff tQ O C0 0 O O) ?_);refine Fb O (Ug uZ O) (Gu O (x_usd O Ba) hF ?_);have hu:(Builtin.unsafeString_ #[184,3] 9 #[V g,J s.length]).run prog w=.ok (I s) (w.freeze ⟨g,0,none⟩ s.length):=Lib.run_unsafeString_row w 184 3 9 5 underlying184 D3 g cur.size (by simp[World.shape?,hg]) s h0 Ba (by simp only[maxLen]at hcm;omega) (λj x hx=>hO.cells (g:=g) rfl j (.int .u8 x.toNat) (by simp[Lib.byteCells,hx]));have hEf:FR w0 (Wk w0 B pb) _ (w.freeze ⟨g,0,none⟩ s.length):=hF.touch (Same.freeze w ⟨g,0,none⟩ s.length) (λb hb=>by obtain rfl:=pQ.1 hb;exact⟨λ_=>hgm,by simpa using hgn.symm⟩);refine Gu O (XQ O O hu) hEf ?_;have hF:=hEf;refine Fb O (Rf O) (Ac ?_);refine Ga (Hc (v:=I s) O O ?_);exact⟨O,hF.same⟩
theorem KU(w0:World)(B pb:Nat)(m:Bool)(i:Int)(s:Str)(hB:Bd w0 B pb 134 [.bool (m),J i] s)(h0:s≠[]):Calls prog 91 #[V pb] w0 (Pc λv w'=>v=I s/\Same (Wk w0 B pb) w0 w'):=by
  refine Ea func91 O ntmps91 Db (Rb _) ?_;obtain⟨-,hle,ap,v,hh,hO,-⟩:=hB;have hsl:s.length≠0:=by simpa using h0
  obtain⟨g,c1,cur,rfl,hbg,hg,hnc,hcm,hcs,htake⟩:∃g cap cur,v=W g s.length cap/\B<=g/\w0.heap[g]? = some (.cells cur 5 (0,0))/\s.length<=cap/\cap<=maxLen/\cur.size=cap*1/\cur.toList.take (s.length*1)=Lib.byteCells s:=by
    rcases hO.2 with ⟨_,hz⟩|⟨g,cap,cur,hv,r⟩
    ·exact absurd hz hsl
    exact⟨g,cap,cur,hv,r⟩
  have hgm:g∈Wk w0 B pb:=W7 hO rfl;have hgn:g≠pb:=Yq hO rfl hh (by rfl);have hF:FR w0 (Wk w0 B pb) [(pb,.cells #[ap,W g s.length c1,.bool (m),J i] 134)] w0:=(FR.start w0 (Wk w0 B pb)).addD hh (.inr (Vf.2 (.inl rfl))) La;refine Fa (Ha ?_);refine Aa (Rf O) (Ua ?_);refine Ga (Fa ?_);refine Ld (.of []) (bQ [0,1,2,3,5,6,7,8,9] (.act 4 (.act 10 (.free 11 .nil)))) hF ?_;intro w hF hE;have hg:=(hE.block g (Kb hg) La).trans hg;have hO:=Ei hO hE La;refine⟨λwq=>FR w0 (Wk w0 B pb) _ wq,hF,?_⟩;refine Fb O (Wf O) (Fb O (Ii O) ?_);refine Fb O (Ob Je O) (Sf O (Ff tQ O C0 0 O O) ?_);refine Fb O (Wf O) (Fb O (Ii O) ?_);refine Fb O (Ob Je O) (Sf O (Ff tQ O C0 0 O O) ?_);refine Fb O (Ug uZ O) (Gu O (x_usd O Ba) hF ?_);have hu:(Builtin.unsafeString_ #[184,3] 9 #[V g,J s.length]).run prog w=.ok (I s) (w.freeze ⟨g,0,none⟩ s.length):=Lib.run_unsafeString_row w 184 3 9 5 underlying184 D3 g cur.size (by simp[World.shape?,hg]) s h0 Ba (by simp only[maxLen]at hcm;omega) (λj x hx=>hO.cells (g:=g) rfl j (.int .u8 x.toNat) (by simp[Lib.byteCells,hx]));have hEf:FR w0 (Wk w0 B pb) _ (w.freeze ⟨g,0,none⟩ s.length):=hF.touch (Same.freeze w ⟨g,0,none⟩ s.length) (λb hb=>by obtain rfl:=pQ.1 hb;exact⟨λ_=>hgm,by simpa using hgn.symm⟩);refine Gu O (XQ O O hu) hEf ?_;have hF:=hEf;refine Fb O (Rf O) (Ac ?_);refine Ga (Hc (v:=I s) O O ?_);exact⟨O,hF.same⟩
theorem Qo{w0:World}{B pb T:Nat}{rest:List Value}{s:Str}(hB:Bd w0 B pb T rest s)(c:UInt8)(hl:s.length+1<=140737488355328):Bv 178 #[V pb,.int .u8 ((c.toNat:Nat):Int)] .nilIface w0 B pb T rest (s++[c]):=by
  rcases hB.shp with ⟨rfl,rfl⟩|⟨rfl,m,i,rfl⟩
  ·exact FE w0 B pb s hB c hl
  exact YD w0 B pb m i s hB c hl
theorem Mj{w0:World}{B pb T:Nat}{rest:List Value}{s:Str}(hB:Bd w0 B pb T rest s)(t:Str)(hl:s.length+t.length<=140737488355328):Bv 135 #[V pb,I t] (.tuple #[J ((t.length:Nat):Int),.nilIface]) w0 B pb T rest (s++t):=by
  rcases hB.shp with ⟨rfl,rfl⟩|⟨rfl,m,i,rfl⟩
  ·exact S4 w0 B pb s hB t hl
  exact R4 w0 B pb m i s hB t hl
theorem Py{w0:World}{B pb T:Nat}{rest:List Value}{s:Str}(hB:Bd w0 B pb T rest s)(r:Int)(h0:-2147483648<=r)(h1:r<=2147483647)(hl:s.length+4<=140737488355328):Bv 212 #[V pb,.int .i32 r] (.tuple #[J (((Uf r).length:Nat):Int),.nilIface]) w0 B pb T rest (s++Uf r):=by
  rcases hB.shp with ⟨rfl,rfl⟩|⟨rfl,m,i,rfl⟩
  ·exact SA w0 B pb s hB r h0 h1 hl
  exact QE w0 B pb m i s hB r h0 h1 hl
theorem Z3{w0:World}{B pb T:Nat}{rest:List Value}{s:Str}(hB:Bd w0 B pb T rest s)(h0:s≠[]):Calls prog 91 #[V pb] w0 (Pc λv w'=>v=I s/\Same (Wk w0 B pb) w0 w'):=by
  rcases hB.shp with ⟨rfl,rfl⟩|⟨rfl,m,i,rfl⟩
  ·exact RT w0 B pb s hB h0
  exact KU w0 B pb m i s hB h0
structure BW (w0:World) (Ds:List Nat) (w:World) (B pb T:Nat) (rest:List Value) (s:Str):Prop where
  bd:Bd w B pb T rest s
  sub:∀x∈Wk w B pb,x<w0.heap.size->x∈Ds
  ge:w0.heap.size<=w.heap.size
section
variable {w0 w w':World}{Ds E:List Nat}{bs_:List (Nat × Obj)}{B pb T:Nat}{rest:List Value}{s t:Str}
theorem BW.start(h:Bd w0 B pb T rest s):BW w0 (Wk w0 B pb) w0 B pb T rest s:=⟨h,λx hx _=>hx,gQ _⟩
theorem BW.own(h:Bd w B pb T rest s)(hb:w0.heap.size<=B)(hg:w0.heap.size<=w.heap.size):BW w0 Ds w B pb T rest s :=
  ⟨h,λx hx hl=>by
    have:=h.le;rcases Vf.1 hx with rfl|⟨-,h2,-⟩ <;> omega,hg⟩
theorem BW.lt(h:BW w0 Ds w B pb T rest s):pb<w.heap.size:=h.bd.lt
theorem BW.wrote(h:BW w0 Ds w B pb T rest s)(hb:Bd w' B pb T rest t)(hs:Same (Wk w B pb) w w'):BW w0 Ds w' B pb T rest t :=
  ⟨hb,λx hx hl=>by
    rcases Wk.step hs hx with h1|h1
    ·exact h.sub x h1 hl
    have:=h.ge;omega,fQ h.ge hs.size⟩
theorem FR.wrote(hF:FR w0 Ds bs_ w)(h:BW w0 Ds w B pb T rest s)(hs:Same (Wk w B pb) w w')(hb:∀p∈bs_,Fj p.2=false/\p.1≠pb):FR w0 Ds bs_ w' :=
  hF.touch hs λx hx=>⟨h.sub x hx,λp hp e=>by
    have h1:=hb p hp;rcases Vf.1 hx with h2|⟨-,-,h3⟩
    ·exact h1.2 (e.trans h2)
    rw[<-e,Tr (hF.memHeap hp),h1.1]at h3;cases h3⟩
theorem Bd.same(h:Bd w B pb T rest s)(hs:Same E w w')(hp:pb∉E)(he:∀x∈E,Ns w x=false):Bd w' B pb T rest s:=by
  obtain⟨h1,h2,ap,v,h3,h4,h5⟩:=h;refine⟨h1,h2,ap,v,(hs.block pb (Kb h3) hp).trans h3,Ei h4 hs (λg hg hm=>?_),h5⟩;have:=(Vm h4 hg).2.2;rw[he g hm]at this;cases this
theorem Bd.ext(h:Bd w B pb T rest s)(hs:Same [] w w'):Bd w' B pb T rest s:=h.same hs La La
theorem BW.step(h:BW w0 Ds w B pb T rest s)(hs:Same E w w')(hp:pb∉E)(he:∀x∈E,Ns w x=false)(he':∀x∈E,Ns w' x=false):BW w0 Ds w' B pb T rest s :=
  ⟨h.bd.same hs hp he,λx hx hl=>by
    refine h.sub x (Vf.2 ?_) hl;have hl2:=Nat.lt_of_lt_of_le hl h.ge;rcases Vf.1 hx with rfl|⟨-,h2,h3⟩
    ·exact .inl O
    refine .inr ⟨hl2, h2, ?_⟩;have hn:x∉E:=λhm=>by rw[he' x hm]at h3;cases h3
    rw[Ns,<-hs.block x hl2 hn];exact h3,fQ h.ge hs.size⟩
theorem BW.ext(h:BW w0 Ds w B pb T rest s)(hs:Same [] w w'):BW w0 Ds w' B pb T rest s:=h.step hs La La La
theorem Rep.off{d:D}{cs:List Value}(h:Rep (λx=>x∉Wk w B pb) w d cs)(hs:Same (Wk w B pb) w w'):Rep (λx=>x∉Wk w' B pb) w' d cs :=
  ((h.old).same hs (λb hb hn=>hn.1 hb)).weaken λx hx _ hm=>by
    rcases Wk.step hs hm with h1|h1
    ·exact hx.1 h1
    have:=hx.2;omega
theorem Rep.off_ext{d:D}{cs:List Value}(h:Rep (λx=>x∉Wk w B pb) w d cs)(hp:pb<w.heap.size)(hs:Same [] w w'):Rep (λx=>x∉Wk w' B pb) w' d cs:=h.off (hs.mono La)
end
section
variable {P:Program}{w:World}{ρ:Operand->Value}{dst:Option Nat}{ty:TypeId}{pos:String}{aft:Array Edge}{g:Option (Nat × Bool)}
theorem NU{t t':TypeId}{x y:Operand}{k:IntKind}{a b c:Int}(hx:ρ x=.int k a)(hy:ρ y=.int k b)(h:bits .and k a b=c) :
    (execOp ρ ⟨dst,.binOp .and t x y t',ty,pos,aft,g⟩).run P w=.ok (.value (.int k c)) w:=by
  simp[execOp,hx,hy,Ee,binOp,intBits_and,h]
theorem TR{t t':TypeId}{x y:Operand}{k k2:IntKind}{a c:Int}(m:Nat)(hx:ρ x=.int k a)(hy:ρ y=.int k2 m)(hm:m<=k.bits)(h:a.fdiv (2 ^ m)=c) :
    (execOp ρ ⟨dst,.binOp .shr t x y t',ty,pos,aft,g⟩).run P w=.ok (.value (.int k c)) w:=by
  have hg:(eqGuard .shr t x y (.int k a) (.int k2 m)).run P w=.ok () w:=by unfold eqGuard;simp
  have h0:¬((m:Int)<0):=by omega
  simp[execOp,hx,hy,hg,binOp,Op.shift,h0,Nat.min_eq_left hm,h]
theorem Xu{t e N:Nat}{x y:Operand}{kk:IntKind}{b:Nat}(i:Nat)(ht:P.underlying t=some (.array N e))(hs:∀w,(sizeOf e).run P w=.ok 1 w)(hx:ρ x=V b)(hy:ρ y=.int kk (i:Int))(h1:i<N) :
    (execOp ρ ⟨dst,.indexAddr t x y,ty,pos,aft,g⟩).run P w=.ok (.value (.pointer (some ⟨b,i,none⟩))) w:=by
  have h2:(0:Int)<=(i:Int)/\(i:Int)<(N:Int):=by omega
  have e1:(⟨b,0,none⟩:Addr).add i=⟨b,i,none⟩:=by rw[Ef,Nat.zero_add]
  simp[execOp,hx,hy,Instr.indexAt,run_underlying ht,Instr.sureAddr,asIntOf,h2,hs,e1];intro hh;omega
theorem ZF{t e N:Nat}{x y:Operand}{kk:IntKind}{b:Nat}(i:Nat)(ht:P.underlying t=some (.array N e))(hs:∀w,(sizeOf e).run P w=.ok 1 w)(hx:ρ x=V b)(hy:ρ y=.int kk (i:Int))(h1:i<N) :
    (execOp ρ ⟨dst,.slice t x (some y) none none,ty,pos,aft,g⟩).run P w=.ok (.value (.slice (some ⟨b,i,none⟩) (N-i) (N-i))) w:=by
  have h0:¬N=i:=by omega
  have e1:(⟨b,0,none⟩:Addr).add i=⟨b,i,none⟩:=by rw[Ef,Nat.zero_add]
  have e2:(0:Int)<=(i:Int)/\(i:Int)<=(N:Int):=by omega
  simp[execOp,hx,hy,Instr.sliceAt,run_underlying ht,Instr.sureAddr,Instr.sliceBounds,run_sliceBound,hs,e1,h0,e2]
theorem JR{t t' e:Nat}{x:Operand}{a:Addr}{n c:Nat}(s:Str)(ht:P.underlying t=some (.slice e))(he:P.underlying e=some (.int .u8))(hd:P.underlying t'=some .string)(hx:ρ x=.slice (some a) n c)(hn:s.length=n)
    (h:∀j (hj:j<s.length),w.cell? (a.add j)=some (.int .u8 (s[j].toNat:Int))) :
    (execOp ρ ⟨dst,.convert t t' x,ty,pos,aft,g⟩).run P w=.ok (.value (I s)) w:=by
  have hl:=Xo (P:=P) a w ((s.map λu=>(u.toNat:Int)).map (Value.int .u8)) (m:=n) (by simp[hn]) (λj hj=>by simp at hj ⊢;exact h j hj);have hb:=run_bytesToString w a n c (s.map λu=>(u.toNat:Int)) hl;have e1:∀(l:Str)(acc:ByteArray),(l.map λu=>(u.toNat:Int)).foldl (λr n=>r.push (UInt8.ofNat n.toNat)) acc=⟨acc.data++l.toArray⟩:=by
    intro l
    induction l with
    | nil=>intro acc;simp
    | cons u l ih=>intro acc;rw[List.map_cons,List.foldl_cons,ih];simp[ByteArray.push]
  rw[e1]at hb;simp[execOp,hx,run_convert_bytes_string w t t' e _ _ _ ht he hd,hb]
end
def JH:List Value:=List.replicate 65 (.int .u8 0)
def Dx:Str:=[48,49,50,51,52,53,54,55,56,57,97,98,99,100,101,102,103,104,105,106,107,108,109,110,111,112,113,114,115,116,117,118,119,120,121,122]
def dg(k:Nat):UInt8:=Dx.getD k 0
def Kl(r:Nat):Str:=if r<16 then [dg r] else [dg (r/16),dg (r%16)]
theorem Az{k:Nat}(h:k<Dx.length):Dx[k]=dg k:=by simp[dg,h]
theorem wrap64:∀r<32,IntKind.u64.wrap ((r:Nat):Int)=r:=by decide
theorem and15:∀u<32,bits .and .u64 ((u:Nat):Int) 15=((u%16:Nat):Int):=by decide
theorem tz64_c(w0:World)(hG:Gl w0):Calls prog 256 #[.int .u64 16] w0 (Pc λv w'=>v=J 4/\Same [] w0 w'):=by
 obtain⟨e,fz,hbr⟩:=hG.bru;refine Ea func256 O ntmps256 Db (Rb _) ?_;have hF:=FR.start w0 [];refine Da (Aa (Lb O) (Ca (Fa (Da (Aa (Gb O) (Ja (v:=.bool false) (Yg (Fp O O) Ta) (Ca (We O (Na ?_)))))))));refine Ga (Da (Aa (Gb O) (Aa (Gb O) (Ja (v:=.int .u64 18446744073709551600) (BZ O Ta) (Ja (v:=.int .u64 16) (NU O O Ta) (Ja (v:=.int .u64 4573923408821661840) (PE O O Ta) (Ja (v:=.int .u64 15) (TR 58 O O Ta Ta) (Ja (v:=.pointer (some (⟨5,15,none⟩))) (Xu 15 underlying297 sizeOf5 O O Ta) ?_))))))));refine Ja (v:=.int .u8 4) (Ad isAgg5 O (by rw[Cc (hF.heap0 hbr)];rfl)) ?_;refine Ja (v:=J 4) (Ze dX zZ O Ta) (Aa (Lb O) (Ca ?_));refine Hc (v:=J 4) O O ?_;exact⟨O,hF.same⟩
theorem tz_c(w0:World)(hG:Gl w0):Calls prog 229 #[.int .u64 16] w0 (Pc λv w'=>v=J 4/\Same [] w0 w'):=by
 refine Ea func229 O ntmps229 Db (Rb _) ?_;have hF:=FR.start w0 [];refine Da (Aa (Lb O) (Ca (Fa (Kz O (Da (Aa (Gb O) ?_))))));refine Oa hF (tz64_c _ (hG.ext hF.same)) (Ma en_256 O O) ?_;intro w hF;refine Aa (Lb O) (Ca ?_);refine Hc (v:=J 4) O O ?_;exact⟨O,hF.same⟩
theorem pow2_c(w0:World):Calls prog 228 #[J 16] w0 (Pc λv w'=>v=.bool true/\Same [] w0 w'):=by
 refine Ea func228 O ntmps228 Db (Rb _) ?_;have hF:=FR.start w0 [];refine Da (Aa (Jb O) (Qb (Aa (Gb O) (Aa (Gb O) (Ja (v:=J 15) (R1 O O Ta) (Ja (v:=J 0) (NU O O Ta) (Ja (v:=.bool true) (Jj (Fp O O) Ta) (Aa (Jb O) (Ua ?_)))))))));refine Ga (Hc (v:=.bool true) O O ?_);exact⟨O,hF.same⟩
theorem M8(w0:World)(hG:Gl w0)(r:Nat)(hr:r<32):Calls prog 190 #[aQ,.int .u64 (r:Int),J 16,.bool false,.bool false] w0 (Pc λv w'=>v=.tuple #[aQ,I (Kl r)]/\Same [] w0 w'):=by
  refine Ea func190 O ntmps190 Db (IF _ _ _ _ _) ?_;have hF:=FR.start w0 [];refine Fa (Ha ?_);refine Aa (Em O) (Aa (Rf O) ?_);refine Ua (Ga ?_);refine Fa (Fa ?_);refine Ha (Aa (Gb O) ?_);refine Ja (v:=.bool false) (Yg (AJ O O) Ta) (Aa (Dc O) ?_);refine Aa (Gb O) (Ja (v:=.bool false) (Yg (Fp O O) Ta) ?_);refine Aa (Bc O O) (Aa (Dc O) ?_);refine Aa (Gb O) (Ja (v:=.bool false) (Yg (DU O O) Ta) ?_);refine Aa (Bc O O) (Ua ?_);refine Ga (We O ?_);refine Na (Ga ?_);refine Fa (Ha ?_);refine Jc (cs:=(List.toArray JH)) hF zeroValue264 Ib ?_;intro b1 w hb1 hF hE;refine Ua (Ga ?_);refine Fa (Ha ?_);refine Aa (Lb O) (Ua ?_);refine Ga (Fa ?_);refine Fa (Ha ?_);refine Aa (Dc O) (Ua ?_);refine Ga (We O ?_);refine Na (Ga ?_);refine Fa (Fa ?_);refine Ha (Aa (Gb O) ?_);refine Oa hF (pow2_c _) (Ma en_228 O O) ?_;intro w hF;refine Ua (Ga ?_);refine Fd O (Fa ?_);refine Ha (Aa (Gb O) ?_);refine Ja (v:=.int .u64 16) (Ze zZ underlying161 O Ta) (Oa hF (tz_c _ (hG.ext hF.same)) (Ma en_229 O O) ?_);intro w hF;refine Ja (v:=.int .u64 4) (Ze zZ underlying161 O Ta) (Aa (Lb O) ?_);refine Ua (Ga ?_);refine Fa (Ha ?_);refine Aa (Gb O) (Ja (v:=.int .u64 16) (Ze zZ underlying229 O Ta) ?_);refine Aa (Lb O) (Ua ?_);refine Ga (Fa ?_);refine Ha (Aa (Gb O) ?_);refine Ja (v:=.int .u64 16) (Ze zZ underlying161 O Ta) (Ja (v:=.int .u64 15) (R1 O O Ta) ?_);refine Aa (Lb O) (Ua ?_);refine Ga (Fa ?_);refine Va (Tc (λμ σ w=>∃(u:Nat),∃(i:Nat),∃(cs:List Value),μ=2*u/\((u=r/\i=65/\cs=JH)\/(16<=r/\u=r/16/\i=64/\cs=JH.set 64 (.int .u8 ((dg (r%16)).toNat:Int))))/\AllEq σ [(0,aQ),(1,.int .u64 ((u:Int))),(3,.bool false),(4,.bool false),(10,aQ),(11,I []),(12,V b1),(13,J ((i:Int))),(14,.int .u64 4),(15,.int .u64 16),(16,.int .u64 15)]/\FR w0 [] [(b1,.cells (List.toArray cs) 264)] w) _ ⟨r,65,JH,O,(.inl ⟨O,O,O⟩),⟨O,O,O,O,O,O,O,O,O,O,O,trivial⟩,hF⟩ ?_)
  rintro μ σ w ⟨u,i,cs,rfl,hI,hs,hF⟩;refine Cg.slots hs ?_;clear hs;intro σ;have hcl:cs.length=65:=by rcases hI with ⟨-,-,rfl⟩|⟨-,-,-,rfl⟩ <;> simp[JH]
  have hu32:u<32:=by omega
  refine Fa (Fa ?_);refine Ha (Aa (Gb O) ?_);refine Aa (Gb O) (Aa (T6 O O) ?_);refine Ua (Ga ?_);refine Pb O O (λhc3=>?_) (λhc3=>?_)
  ·
   refine Na (Ga ?_);refine Va (Fa ?_);refine Ha (Aa (Gb O) ?_);refine Aa (MV (((64:Nat):Int)) O O) (Aa (Lb O) ?_);refine Ua (Ga ?_);refine Fa (Ha ?_);refine Aa (Gb O) (Aa (Gb O) ?_);refine Aa (Gb O) (Ja (v:=.int .u64 (((u%16:Nat):Int))) (NU O O (and15 u Ba)) ?_);refine Ja (v:=.int .u8 (((dg (u%16)).toNat:Int))) (by rw[<-Az (show u%16<Dx.length by show u%16<36;omega)];exact Jf (u%16) iX O O _) ?_;refine Ja (v:=.pointer (some ⟨b1,64,none⟩)) (Xu 64 underlying264 sizeOf5 O O Ta) ?_;refine Eh 0 (l:=[.int .u8 (((dg (u%16)).toNat:Nat):Int)]) (cs':=(List.toArray (cs.set 64 (.int .u8 (((dg (u%16)).toNat:Nat):Int))))) hF sizeOf5 O (v:=.int .u8 (((dg (u%16)).toNat:Nat):Int)) O O Is O (by simp[hcl] <;> omega) (by simp[putA]) ?_;intro w hF hE;have hF:FR w0 [] [(b1,.cells (List.toArray (cs.set 64 (.int .u8 (((dg (u%16)).toNat:Nat):Int)))) 264)] w:=hF;refine Ua (Ga ?_);refine Ha (Aa (Gb O) ?_);refine Aa (Gb O) ?_;refine Ja (v:=.int .u64 (((u/16:Nat):Int))) (TR 4 O O Ta (by rw[Int.fdiv_eq_ediv_of_nonneg _ Ta];omega)) ?_;refine Aa (Lb O) (Ua ?_);refine Cb ?_;refine Xb ⟨_,?_,u/16,64,cs.set 64 (.int .u8 (((dg (u%16)).toNat:Nat):Int)),rfl,(.inr (by rcases hI with ⟨rfl,rfl,rfl⟩|⟨h16,rfl,rfl,rfl⟩ <;> first|omega|exact⟨by omega,rfl,rfl,rfl⟩)),⟨rfl,rfl,rfl,rfl,rfl,rfl,rfl,rfl,rfl,rfl,rfl,trivial⟩,hF⟩;omega
  refine Kc (Ec O ?_);refine Ga (Fa ?_);refine Ha (Aa (Gb O) ?_);refine Aa (MV (((i-1:Nat):Int)) O O) (Aa (Lb O) ?_);refine Ua (Ga ?_);refine Ha (Aa (Gb O) ?_);refine Aa (Gb O) ?_;refine Ja (v:=.int .u8 (((dg u).toNat:Int))) (by rw[<-Az (show u<Dx.length by show u<36;omega)];exact Jf u iX O O _) ?_;refine Ja (v:=.pointer (some ⟨b1,(i-1),none⟩)) (Xu (i-1) underlying264 sizeOf5 O O Ba) ?_;refine Eh 0 (l:=[.int .u8 (((dg (u)).toNat:Nat):Int)]) (cs':=(List.toArray (cs.set (i-1) (.int .u8 (((dg (u)).toNat:Nat):Int))))) hF sizeOf5 O (v:=.int .u8 (((dg (u)).toNat:Nat):Int)) O O Is O (by simp[hcl] <;> omega) (by simp[putA]) ?_;intro w hF hE;have hF:FR w0 [] [(b1,.cells (List.toArray (cs.set (i-1) (.int .u8 (((dg (u)).toNat:Nat):Int)))) 264)] w:=hF;refine Ua (Ga ?_);refine Fa (Fa ?_);refine Ha (Aa (Dc O) ?_);refine Ua (Ga ?_);refine We O (Na ?_);refine Ga (Fa ?_);refine Fa (Ha ?_);refine Aa (Dc O) (Ua ?_);refine Ga (We O ?_);refine Na (Ga ?_);refine Fa (Ha ?_);refine Aa (Gb O) (Ja (v:=.slice (some ⟨b1,i-1,none⟩) (65-(i-1)) (65-(i-1))) (ZF (i-1) underlying264 sizeOf5 O O Ba) ?_);have hfin:(Kl r).length=65-(i-1)/\∀j (hj:j<(Kl r).length),w.cell? ((⟨b1,i-1,none⟩:Addr).add j)=some (.int .u8 ((Kl r)[j].toNat:Int)):=by
    have hh:=hF.heap (i:=0) rfl;rcases hI with ⟨rfl,rfl,rfl⟩|⟨h16,rfl,rfl,rfl⟩
    ·have h1 : Kl u = [dg u] := by rw[Kl, if_pos Ba]
     refine⟨by rw[h1];rfl,λj hj=>?_⟩;have hj0:j=0:=by rw[h1]at hj;simpa using hj
     subst hj0;rw[Ef,Cc hh];simp[h1,JH]
    have h1 : Kl r = [dg (r/16), dg (r%16)] := by rw[Kl, if_neg Ba]
    refine⟨by rw[h1];rfl,λj hj=>?_⟩;have hj2:j=0\/j=1:=by rw[h1]at hj;simp at hj;omega
    rw[Ef,Cc hh];rcases hj2 with rfl|rfl <;> simp[h1,JH]
  refine Ja (v:=I (Kl r)) (JR (Kl r) uZ dX iX O hfin.1 hfin.2) (Aa (Rf O) ?_);refine Ua (Ga ?_);refine Ab (Za (Ka (Vc (v:=.slice _ _ _) (x:=I (Kl r)) O O O) ?_));exact⟨O,hF.same⟩
theorem YU(w0:World)(hG:Gl w0)(r:Nat)(hr:r<32):Calls prog 157 #[J (r:Int),J 16] w0 (Pc λv w'=>v=I (Kl r)/\Same [] w0 w'):=by
 refine Ea func157 O ntmps157 Db (Lc _ _) ?_;have hF:=FR.start w0 [];refine Da (Aa (Rf O) (Ca (Fa (Da (Aa (Gb O) (Ja (v:=.bool false) (Yg (Fp O O) Ta) (Ca (We O (Na ?_)))))))));refine Ga (Da (Aa (Gb O) (Ja (v:=.int .u64 ((r:Int))) (Ze underlying2 underlying229 O (wrap64 r hr)) (Aa (Gb O) (Aa (Gb O) (Ja (v:=.bool false) (Yg (AJ O O) Ba) ?_))))));refine Oa hF (M8 _ (hG.ext hF.same) r hr) (E0 en_190 O O O O O O) ?_;intro w hF;refine Aa (Ri O) (Aa (yxl O O) (Aa (Kx O O) (Aa (Em O) (Aa (Rf O) (Qb (Aa (Md O) (Aa (Rf O) (Ca ?_))))))));refine Hc (v:=I (Kl r)) O O ?_;exact⟨O,hF.same⟩
theorem hex_c(w0:World)(hG:Gl w0)(r:Nat)(hr:r<32):Calls prog 213 #[J (r:Int),J 16] w0 (Pc λv w'=>v=I (Kl r)/\Same [] w0 w'):=by
 refine Ea func213 O ntmps213 Db (Lc _ _) ?_;have hF:=FR.start w0 [];refine Da (Aa (Rf O) (Qb (Aa (Gb O) (Aa (Gb O) ?_))));refine Oa hF (YU _ (hG.ext hF.same) r hr) (Ra en_157 O O O) ?_;intro w hF;refine Aa (Rf O) (Ca ?_);refine Hc (v:=I (Kl r)) O O ?_;exact⟨O,hF.same⟩
def Pe(r:Int):Int:=if r=34 then 34 else if r=92 then 92 else if r=8 then 98 else if r=12 then 102 else if r=10 then 110 else if r=13 then 114 else if r=9 then 116 else 0
theorem CQ(w0:World)(r:Int):Calls prog 211 #[.int .i32 r] w0 (Pc λv w'=>v=.int .u8 (Pe r)/\Same [] w0 w'):=by
 refine Ea func211 O ntmps211 Db (Rb _) ?_;have hF:=FR.start w0 [];refine Da (Aa (Lb O) (Ca (Fa (Da (Aa (Gb O) (Ca (Va (Fa (Fa ?_)))))))));refine Ha (Aa (Yh O O) (Aa (Jb O) (Ca ?_)));refine Pb O O (λhc0=>?_) (λhc0=>?_);refine Na (Ga (Fd O (Da (Aa (Gb O) ?_))));refine Ja (v:=.int .u8 (Pe r)) (Ze wZ dX rfl (by rcases (by first|exact .inl (by assumption)|exact .inr (by assumption):r=34\/r=92)with rfl|rfl <;> decide)) ?_;refine Aa (Lb O) (Ca ?_);refine Hc (v:=.int .u8 (Pe r)) O O ?_;refine⟨?_,hF.same⟩;simp_all[Pe];refine Ha (Aa (Yh O O) (Aa (Jb O) (Ca ?_)));refine Pb O O (λhc1=>?_) (λhc1=>?_);refine Da (Aa (Gb O) ?_);refine Ja (v:=.int .u8 (Pe r)) (Ze wZ dX rfl (by rcases (by first|exact .inl (by assumption)|exact .inr (by assumption):r=34\/r=92)with rfl|rfl <;> decide)) ?_;refine Aa (Lb O) (Ca ?_);refine Hc (v:=.int .u8 (Pe r)) O O ?_;refine⟨?_,hF.same⟩;simp_all[Pe];refine Da (Aa (Yh O O) (Aa (Jb O) (Ca ?_)));refine Pb O O (λhc2=>?_) (λhc2=>?_);refine Da (Aa (Lb O) (Ca ?_));refine Hc (v:=.int .u8 98) O O ?_;refine⟨?_,hF.same⟩;simp_all[Pe];refine Da (Aa (Yh O O) (Aa (Jb O) (Ca ?_)));refine Pb O O (λhc3=>?_) (λhc3=>?_);refine Da (Aa (Lb O) (Ca ?_));refine Hc (v:=.int .u8 102) O O ?_;refine⟨?_,hF.same⟩;simp_all[Pe];refine Da (Aa (Yh O O) (Aa (Jb O) (Ca ?_)));refine Pb O O (λhc4=>?_) (λhc4=>?_);refine Da (Aa (Lb O) (Ca ?_));refine Hc (v:=.int .u8 110) O O ?_;refine⟨?_,hF.same⟩;simp_all[Pe];refine Da (Aa (Yh O O) (Aa (Jb O) (Ca ?_)));refine Pb O O (λhc5=>?_) (λhc5=>?_);refine Da (Aa (Lb O) (Ca ?_));refine Hc (v:=.int .u8 114) O O ?_;refine⟨?_,hF.same⟩;simp_all[Pe];refine Da (Aa (Yh O O) (Aa (Jb O) (Ca ?_)));refine Pb O O (λhc6=>?_) (λhc6=>?_);refine Da (Aa (Lb O) (Ca ?_));refine Hc (v:=.int .u8 116) O O ?_;refine⟨?_,hF.same⟩;simp_all[Pe]
 refine Na (Cb (Ga (Da (Aa (Lb O) (Ca ?_)))));refine Hc (v:=.int .u8 0) O O ?_;refine⟨?_,hF.same⟩;simp_all[Pe]
def Do(r:Nat):Str:=if Pe r≠0 then [92,UInt8.ofNat (Pe r).toNat] else if 32<=r then Uf r else [92,117]++Lib.repeatL [48] (4-(Kl r).length)++Kl r
def Pz:Nat->Str->Nat->Str
  | 0,_,_=>[]
  | f+1,s,p=>if p<s.length then Do (Utf8.decode (bs s) p).1++Pz f s (p+(Utf8.decode (bs s) p).2) else []
theorem DL:∀(f g:Nat)(s:Str)(p:Nat),s.length-p<=f->s.length-p<=g->Pz f s p=Pz g s p
  | 0,0,_,_,_,_=>rfl
  | 0,g+1,s,p,h,_=>by rw[Pz,Pz,if_neg Ba]
  | f+1,0,s,p,_,h=>by rw[Pz,Pz,if_neg Ba]
  | f + 1, g + 1, s, p, h1, h2 => by
    rw[Pz,Pz];split
    ·have h3 := Xf s p
     rw[DL f g s _ Ba Ba]
    rfl
def Rs(s:Str)(p:Nat):Str:=Pz (s.length-p) s p
theorem Nn{s:Str}{p:Nat}(h:p<s.length):Rs s p=Do (Utf8.decode (bs s) p).1++Rs s (p+(Utf8.decode (bs s) p).2):=by
  have h3:=Xf s p;obtain⟨f,hf⟩:∃f,s.length-p=f+1:=⟨s.length-p-1,by omega⟩;rw[Rs,hf,Pz,if_pos h,Rs,DL f (s.length-(p+(Utf8.decode (bs s) p).2)) s _ Ba Ba]
theorem Xx{s:Str}{p:Nat}(h:¬p<s.length):Rs s p=[]:=by
  have e:s.length-p=0:=by omega
  rw[Rs,e,Pz]
def Us(s:Str):Str:=[34]++Rs s 0++[34]
theorem Uo(r:Int):0<=Pe r/\Pe r<256:=by
  unfold Pe
  repeat' split
  all_goals omega
theorem Zl(r:Nat):1<=(Kl r).length/\(Kl r).length<=2:=by unfold Kl;split <;> simp
theorem Cq(n:Nat):(Lib.repeatL [48] n).length=n:=by
  induction n with
  | zero=>rfl
  | succ n ih=>simp[Lib.repeatL,ih];try omega
theorem Jo(r:Nat):(Do r).length<=6:=by
  unfold Do;have h1:=Fh r;have h2:=Zl r
  repeat' split
  ·simp
  ·omega
  simp[Cq];omega
theorem Ch{w0:World}{B pb T:Nat}{rest:List Value}{s:Str}(hB:Bd w0 B pb T rest s)(z:Int)(h0:0<=z)(h1:z<256)(hl:s.length+1<=140737488355328):Bv 178 #[V pb,.int .u8 z] .nilIface w0 B pb T rest (s++[UInt8.ofNat z.toNat]):=by
  have h:=Qo hB (UInt8.ofNat z.toNat) hl;have e:(((UInt8.ofNat z.toNat).toNat:Nat):Int)=z:=by simp only[UInt8.toNat_ofNat'];omega
  rwa [e]at h
theorem QY(w0:World)(hG:Gl w0)(s:Str)(hl:s.length<=17592186044416):Calls prog 177 #[I s] w0 (Pc λv w'=>v=(if Lib.validD s=true then .tuple #[I (Us s),J 0] else .tuple #[I [],J 2])/\Same [] w0 w'):=by
 refine Ea func177 O ntmps177 Db (Rb _) ?_;have hF:=FR.start w0 [];refine Da (Aa (Rf O) (Aa (Lb O) (Ca (Fa (Da (Aa (Md O) ?_))))));refine Ya (D8 s Ba _ (hG.ext hF.same)) (Ma FU O O) ?_;rintro _ w ⟨n0,rfl,hE⟩;have hF:=hF.ext hE;refine Aa (Ri O) (Aa (Gj O O) (Aa (Jl O O) (Aa (Lb O) (Aa (Jb O) (Qb (Aa (Dc O) (Aa (Oh O) (Ca ?_))))))));refine Fe O O (λhc0=>?_) (λhc0=>?_);refine Da (Aa (Rf O) (Aa (Lb O) (Ca ?_)));refine Ab (Za (Ka (Vc (v:=I []) (x:=J 2) O O O) ?_));exact⟨by rw[if_neg (by simpa using hc0)],hF.same⟩;refine Na (Ga (Da ?_));refine Jc (cs:=#[.pointer none,aQ]) hF zeroValue132 O ?_;rintro b1 w hb1 hF -;refine Qb ?_;have hBn:BW w0 [] w b1 b1 132 [] []:=BW.own ⟨.inl ⟨rfl,rfl⟩,gQ _,_,_,hF.heap (i:=0) rfl,World.ownsRow_nil _ _ _ _,.inl rfl⟩ (hF.ge (i:=0) rfl) hF.same.size;have hB:=hBn;have hF:=hF.drop 1;have hF:FR w0 [] [] w:=hF;have ho:(0:Nat)<=0/\([]:Str).length<=0:=by simp
 refine Ya (Ch hB.bd (34) Ba Ba La) (Ra Pn O O O) ?_;rintro _ w ⟨rfl,hBd,hE⟩;have hF:=hF.wrote hB hE La;have hB:=hB.wrote hBd hE;clear hBd hE;refine Ca (Fa (Da (Aa (Md O) ?_)));refine Wv (str:=s) hF iX O ?_;intro b2 w hb2 hF hE;have nb2:b2≠b1:=by have:=hB.lt;omega
 have hB:=hB.ext hE;refine Ca (Va ?_);refine Tc (λμ σ w=>∃(q:Nat),∃(o:Str),μ=s.length-q/\(o++Rs s q=[34]++Rs s 0)/\(o.length<=1+6*q/\o.length<=1+6*s.length)/\(BW w0 [] w b1 b1 132 [] o)/\AllEq σ [(6,V b1),(20,V b2)]/\FR w0 [] [(b2,.stringIter (bs s) (q))] w) _ ⟨0,[34],O,(O),La,(hB),UB,hF⟩ ?_;rintro μ σ w ⟨q,o,rfl,hq,ho,hB,hs,hF⟩;refine Cg.slots hs ?_;clear hs;intro σ;have hr2:Ns w b2=false:=by rw[Tr (hF.heap (i:=0) rfl)];rfl
 refine Da ?_;by_cases hn0:(q)<(s:Str).length;refine Yz 0 (p:=q) (str:=s) hF O O hn0 ?_;intro w hF hE;have hB:=hB.step hE (by simpa using nb2.symm) (by simpa using hr2) (by simp[Tr (hF.heap (i:=0) rfl),Fj]);refine Aa (Jl O O) (Ca (Fa (Fd O (Na (Ga (Va (Da (Aa (Gj O O) (Aa (Lb O) (Ca ?_))))))))));refine Fa (Da (Aa (Gb O) ?_));refine Ya (CQ _ (((Utf8.decode (bs s) q).1:Nat):Int)) (Ma en_211 O O) ?_;rintro _ w ⟨rfl,hE⟩;have hF:=hF.ext hE;have hB:=hB.ext hE;refine Aa (Lb O) (Qb (Aa (Gb O) (Aa (Om O O) (Ca ?_))));refine Pb O O (λhc2=>?_) (λhc2=>?_);refine Da ?_;refine Ya (Ch hB.bd (92) Ba Ba (by have h1:=ho.1;have h2:=ho.2;simp;omega)) (Ra Pn O O O) ?_;rintro _ w ⟨rfl,hBd,hE⟩;have hF:=hF.wrote hB hE (by simp[Fj,nb2]);have hB:=hB.wrote hBd hE;clear hBd hE;refine Qb (Aa (Gb O) ?_);refine Ya (Ch hB.bd (Pe (((Utf8.decode (bs s) q).1:Nat):Int)) (Uo _).1 (Uo _).2 (by have h1:=ho.1;have h2:=ho.2;simp;omega)) (Ra Pn O O O) ?_;rintro _ w ⟨rfl,hBd,hE⟩;have hF:=hF.wrote hB hE (by simp[Fj,nb2]);have hB:=hB.wrote hBd hE;have e1:o++[UInt8.ofNat (92:Int).toNat]++[UInt8.ofNat (Pe (((Utf8.decode (bs s) q).1:Nat):Int)).toNat]=o++Do (Utf8.decode (bs s) q).1:=by rw[Do,if_pos (by simpa using hc2)];simp
 rw[e1]at hB;clear hBd hE;refine Ca (Kc (Ec O ?_));have h1:=Xf s q;refine Xb ⟨_,?_,q+(Utf8.decode (bs s) q).2,o++Do (Utf8.decode (bs s) q).1,O,(by rw[sQ,<-Nn Ba];exact hq),(by have h1:=Xf s q;have h2:=Jo (Utf8.decode (bs s) q).1;rw[dQ];omega),(hB),UB,hF⟩;omega;refine Na (Ga (Fa (Da (Aa (Gb O) (Aa (T6 O O) (Ca ?_))))));refine Pb O O (λhc3=>?_) (λhc3=>?_);refine Da (Aa (Gb O) ?_);refine Ya (Py hB.bd (((Utf8.decode (bs s) q).1:Nat):Int) Ba (by have:=Lib.rune_le (bs s) q;omega) (by have h1:=ho.1;have h2:=ho.2;simp;omega)) (Ra RP O O O) ?_;rintro _ w ⟨rfl,hBd,hE⟩;have hF:=hF.wrote hB hE (by simp[Fj,nb2]);have hB:=hB.wrote hBd hE;have e1:o++Uf (((Utf8.decode (bs s) q).1:Nat):Int)=o++Do (Utf8.decode (bs s) q).1:=by rw[Do,if_neg (by simpa using hc2),if_pos Ba]
 rw[e1]at hB;clear hBd hE;refine Ca (Kc (Ec O ?_));have h1:=Xf s q;refine Xb ⟨_,?_,q+(Utf8.decode (bs s) q).2,o++Do (Utf8.decode (bs s) q).1,O,(by rw[sQ,<-Nn Ba];exact hq),(by have h1:=Xf s q;have h2:=Jo (Utf8.decode (bs s) q).1;rw[dQ];omega),(hB),UB,hF⟩;omega;refine Na (Ga (Da (Aa (Gb O) (Ja (v:=J ((((Utf8.decode (bs s) q).1:Nat):Int))) (Ze wZ underlying2 O (Sm Ba Ba)) ?_))));refine Ya (hex_c _ (hG.ext hF.same) (Utf8.decode (bs s) q).1 Ba) (Ra en_213 O O O) ?_;rintro _ w ⟨rfl,hE⟩;have hF:=hF.ext hE;have hB:=hB.ext hE;refine Aa (Rf O) (Ca (Ha (Aa (Md O) (Aa (Qr iX O) (Ja (v:=J (((4-(Kl (Utf8.decode (bs s) q).1).length:Nat):Int))) (R1 O O (have:=Zl (Utf8.decode (bs s) q).1;Cl Ba Ba Ba)) ?_)))));refine Ya (S7 ((4-(Kl (Utf8.decode (bs s) q).1).length:Nat):Int) Ba Ba _) (Ra FG O O O) ?_;rintro _ w ⟨rfl,hE⟩;have hF:=hF.ext hE;have hB:=hB.ext hE;refine Ja (v:=I (([92,117])++(Lib.repeatL [48] (4-(Kl (Utf8.decode (bs s) q).1).length)))) (Iu O O (by have:=Zl (Utf8.decode (bs s) q).1;simp[Cq];omega)) ?_;refine Aa (Md O) ?_;refine Ja (v:=I ((([92,117])++(Lib.repeatL [48] (4-(Kl (Utf8.decode (bs s) q).1).length)))++(Kl (Utf8.decode (bs s) q).1))) (Iu O O (by have:=Zl (Utf8.decode (bs s) q).1;simp[Cq];omega)) ?_;refine Ya (Mj hB.bd _ (by have:=Zl (Utf8.decode (bs s) q).1;have h1:=ho.1;have h2:=ho.2;simp[Cq];omega)) (Ra C2 O O O) ?_;rintro _ w ⟨rfl,hBd,hE⟩;have hF:=hF.wrote hB hE (by simp[Fj,nb2]);have hB:=hB.wrote hBd hE;have e1:o++((([92,117])++(Lib.repeatL [48] (4-(Kl (Utf8.decode (bs s) q).1).length)))++(Kl (Utf8.decode (bs s) q).1))=o++Do (Utf8.decode (bs s) q).1:=by rw[Do,if_neg (by simpa using hc2),if_neg Ba]
 rw[e1]at hB;clear hBd hE;refine Ua (Cb ?_);have h1:=Xf s q;refine Xb ⟨_,?_,q+(Utf8.decode (bs s) q).2,o++Do (Utf8.decode (bs s) q).1,O,(by rw[sQ,<-Nn Ba];exact hq),(by have h1:=Xf s q;have h2:=Jo (Utf8.decode (bs s) q).1;rw[dQ];omega),(hB),UB,hF⟩;omega;refine Lq 0 (p:=q) (str:=s) hF O O hn0 (Aa (Jl O O) (Ca (Fa (We O ?_))));refine Kc (Ec O ?_);refine Ga (Da ?_);refine Ya (Ch hB.bd (34) Ba Ba (by have h1:=ho.1;have h2:=ho.2;simp;omega)) (Ra Pn O O O) ?_;rintro _ w ⟨rfl,hBd,hE⟩;have hF:=hF.wrote hB hE (by simp[Fj,nb2]);have hB:=hB.wrote hBd hE;clear hBd hE;refine Qb (Ya (Z3 hB.bd La) (Ma BJ O O) ?_);rintro _ w ⟨rfl,hE⟩;have hF:=hF.wrote hB hE (by simp[Fj,nb2]);refine Aa (Rf O) (Aa (Lb O) (Ca ?_));refine Ab (Za (Ka (Vc (v:=I (o++[34])) (x:=J 0) O O O) ?_));refine⟨?_,hF.same⟩;rw[if_pos (by simpa using hc0),Us,<-hq,Xx Ba,qQ]
def Yk(m:Bool)(ind d:Nat):Str:=if m then [10]++Lib.repeatL [32] (ind*d) else []
def qS(t:Str):Str:=if Lib.validD t=true then Us t else []
theorem Ks(c:UInt8)(n:Nat):(Lib.repeatL [c] n).length=n:=by
  induction n with
  | zero=>rfl
  | succ n ih=>simp[Lib.repeatL,ih];try omega
theorem Zw(m:Bool)(ind d:Nat):(Yk m ind d).length<=1+ind*d:=by unfold Yk;split <;> simp[Ks] <;> omega
theorem F9(s:Str)(p:Nat):(Rs s p).length<=6*(s.length-p):=by
  induction h:s.length-p using Nat.strongRecOn generalizing p with
  | ind n ih =>
    by_cases hp:p<s.length
    ·rw[Nn hp, dQ]
     have h1:=Jo (Utf8.decode (bs s) p).1;have h2:=Xf s p;have h3:=ih (s.length-(p+(Utf8.decode (bs s) p).2)) Ba (p+(Utf8.decode (bs s) p).2) rfl;omega
    rw[Xx hp];simp
theorem G7(s:Str):(qS s).length<=6*s.length+2:=by
  unfold qS;split
  ·have := F9 s 0
   simp[Us];omega
  simp
theorem VS(t:Str)(c:Nat)(h1:c<=9223372036854775807)(h2:t.length*c<=140737488355328)(w:World):Calls prog 197 #[I t,J (c:Int)] w (Pc λv w'=>v=I (Lib.repeatL t c)/\Same [] w w'):=by
  have h:=strings_Repeat (bs t) c w h1 (by rw[Pm];exact h2);exact Ht h
theorem QP(t:Str)(hl:t.length<=17592186044416)(w0:World)(hG:Gl w0):Calls prog 177 #[I t] w0 (Pc λv w'=>v=.tuple #[I (qS t),J (if Lib.validD t=true then 0 else 2)]/\Same [] w0 w'):=by
  refine Kj (QY w0 hG t hl) λv w' ⟨h1,h2⟩=>⟨?_,h2⟩;rw[h1,qS];split <;> rfl
theorem Bd.mul{w:World}{B pb T:Nat}{m:Bool}{ind:Int}{s:Str}(h:Bd w B pb T [.bool m,J ind] s):w.cell? ⟨pb,2,none⟩=some (.bool m):=by
  obtain⟨ap,v,hh,-⟩:=h.ex;rw[Cc hh];rfl
theorem Bd.ind{w:World}{B pb T:Nat}{m:Bool}{ind:Int}{s:Str}(h:Bd w B pb T [.bool m,J ind] s):w.cell? ⟨pb,3,none⟩=some (J ind):=by
  obtain⟨ap,v,hh,-⟩:=h.ex;rw[Cc hh];rfl
theorem Gl.wrote{w0 w:World}{B pb:Nat}(h:Gl w0)(hs:Same (Wk w0 B pb) w0 w)(hb:8<=B)(hp:B<=pb):Gl w:=h.same hs λx hx=>by
  rcases Vf.1 hx with rfl|⟨-,h1,-⟩ <;> omega
theorem EH(w0:World)(B pb:Nat)(m:Bool)(ind:Nat)(s:Str)(hBd:Bd w0 B pb 134 [.bool m,J (ind:Int)] s)(d:Nat)(hd:ind*d<=1000000000)(hl:s.length+(Yk m ind d).length<=140737488355328):Bv 179 #[V pb,J (d:Int)] (.tuple #[]) w0 B pb 134 [.bool m,J (ind:Int)] (s++Yk m ind d):=by
 unfold Bv;refine Ea func179 O ntmps179 Db (Lc _ _) ?_;have hB:=BW.start hBd;have hF:=FR.start w0 (Wk w0 B pb);refine Da (Aa (Wf O) (Aa (Ii O) (Aa (Ob QC O) (Ja (v:=.bool (m)) (Ad eZ O hB.bd.mul) (Ca ?_)))));refine Fe O O (λhc0=>?_) (λhc0=>?_);rw[Yk,if_pos hc0]at hl;simp only[dQ,kQ,List.length_nil,Ks]at hl;refine Da (Aa (Wf O) (Aa (Ii O) (Aa (Ob Gi O) ?_)));refine Ya (Ch hB.bd 10 Ta Ta Ba) (Ra Pn O O O) ?_;rintro _ w ⟨rfl,hBd,hE⟩;have hF:=hF.wrote hB hE La;have hB:=hB.wrote hBd hE;clear hBd hE;refine Ca (Ld (.of []) (bQ [0,1,2,3,4,5,6,7,8] (.act 9 (.act 10 .nil))) hF ?_);intro w hF hE;have hB:=hB.ext hE;refine⟨λwq=>FR w0 (Wk w0 B pb) _ wq/\∃s',Bd wq B pb 134 [.bool m,J (ind:Int)] s',⟨hF,⟨_,hB.bd⟩⟩,?_⟩;refine Fb O (Wf O) (Fb O (Ii O) (Fb O (Ob Gi O) (Fb O (Wf O) (Fb O (Ii O) (Fb O (Ob MT O) ?_)))));refine Bb rfl (v:=J ((ind:Int))) (λw hC=>Ad dZ rfl (by obtain⟨-,s_,hs_⟩:=hC;exact hs_.ind)) ?_;refine Fb O (Gb O) (Bb O (v:=J (((ind*d:Nat):Int))) (λw hC=>PE O O (Cl (by rw[Int.natCast_mul]) Ba Ba)) ?_);refine Uc O (VS [32] (ind*d) Ba (by simp;omega) _) (Ra FG O O O) ?_;rintro _ w ⟨rfl,hE⟩;have hF:=hF.ext hE;have hB:=hB.ext hE;refine⟨⟨hF,⟨_,hB.bd⟩⟩,?_⟩;refine Uc O (Mj hB.bd (Lib.repeatL [32] (ind*d)) (by simp[Ks];omega)) (Ra C2 O O O) ?_;rintro _ w ⟨rfl,hBd,hE⟩;have hF:=hF.wrote hB hE La;have hB:=hB.wrote hBd hE;clear hBd hE;refine⟨⟨hF,⟨_,hB.bd⟩⟩,?_⟩;refine Ac (Fg (Ce (Xi O) ?_));exact⟨O,by simpa[Yk,hc0]using hB.bd,hF.same⟩;refine Na (Fg (Ce (Xi O) ?_));exact⟨O,by simpa[Yk,hc0]using hB.bd,hF.same⟩
theorem S6(w0:World)(B pb:Nat)(m:Bool)(ind:Nat)(s:Str)(hBd:Bd w0 B pb 134 [.bool m,J (ind:Int)] s)(hG:Gl w0)(h8:8<=B)(t:Str)(ht:t.length<=17592186044416)(hl:s.length+(qS t).length<=140737488355328):Bv 136 #[V pb,I t] (.tuple #[]) w0 B pb 134 [.bool m,J (ind:Int)] (s++qS t):=by
 unfold Bv;refine Ea func136 O ntmps136 Db (Lc _ _) ?_;have hB:=BW.start hBd;have hF:=FR.start w0 (Wk w0 B pb);refine Da (Aa (Md O) ?_);refine Ya (QP t ht _ ((hG.wrote hF.same h8 hBd.le))) (Ma en_177 O O) ?_;rintro _ w ⟨rfl,hE⟩;have hF:=hF.ext hE;have hB:=hB.ext hE;refine Aa (Ri O) (Aa (Kx O O) (Aa (Gj O O) (Aa (Rf O) (Aa (Lb O) (Ca (Ha (Aa (Wf O) (Aa (Ii O) (Aa (Ob Gi O) (Aa (Md O) ?_))))))))));refine Ya (Mj hB.bd (qS t) Ba) (Ra C2 O O O) ?_;rintro _ w ⟨rfl,hBd,hE⟩;have hF:=hF.wrote hB hE La;have hB:=hB.wrote hBd hE;clear hBd hE;refine Ua (Fg (Ce (Xi O) ?_));exact⟨O,hB.bd,hF.same⟩
def Bl(m:Bool)(ind d:Nat):Bool->List Str->Str
  | _,[]=>[]
  | first,p::ps=>(if first then [] else [44])++(Yk m ind (d+1)++(p++Bl m ind d false ps))
def Ak(m:Bool)(ind d:Nat)(o c:UInt8)(ps:List Str):Str:=[o]++(Bl m ind d true ps++((if ps=[] then [] else Yk m ind d)++[c]))
mutual
def Tg(m:Bool)(ind:Nat):Tree->Nat->Str
  | .node k t ks xs,d=>if k=1 then [110,117,108,108] else if k=4 then qS t else if k=5 then Ak m ind d 91 93 (Po m ind xs (d+1)) else if k=6 then Ak m ind d 123 125 (Tj m ind xs ks (d+1)) else t
def Po(m:Bool)(ind:Nat):List Tree->Nat->List Str
  | [],_=>[]
  | x::xs,d=>Tg m ind x d::Po m ind xs d
def Tj(m:Bool)(ind:Nat):List Tree->List Str->Nat->List Str
  | [],_,_=>[]
  | x::xs,ks,d=>(qS (ks.headD [])++([58]++((if m then [32] else [])++Tg m ind x d)))::Tj m ind xs ks.tail d
end
theorem Ah:∀{xs:List Tree}{x:Tree},x∈xs->Hd x<=Wc xs
  | y :: ys, x, h => by
    rw[Wc];rcases oQ.1 h with rfl|h
    ·omega
    have:=Ah h;omega
theorem Qp(m:Bool)(ind d:Nat):∀xs,Po m ind xs d=xs.map (λx=>Tg m ind x d)
  | []=>by simp[Po]
  | x::xs=>by simp[Po,Qp m ind d xs]
def C9(m:Bool)(ind d:Nat)(k:Str)(x:Tree):Str:=qS k++([58]++((if m then [32] else [])++Tg m ind x d))
theorem Pq(m:Bool)(ind d:Nat):∀xs ks,(Tj m ind xs ks d).length=xs.length
  | [],ks=>by simp[Tj]
  | x::xs,ks=>by simp[Tj,Pq m ind d xs ks.tail]
theorem V5(m:Bool)(ind d:Nat):∀(xs:List Tree)(ks:List Str)(j:Nat)(h:j<xs.length)(hk:j<ks.length)(h':j<(Tj m ind xs ks d).length),(Tj m ind xs ks d)[j]=C9 m ind d ks[j] xs[j]
  | x::xs,k::ks,0,_,_,_=>by simp[Tj,C9]
  | x :: xs, k :: ks, j + 1, h, hk, h' => by
    simp only[Tj,List.tail_cons,List.getElem_cons_succ];exact V5 m ind d xs ks j (by simpa using h) (by simpa using hk) (by simpa[Tj]using h')
theorem DM(m:Bool)(ind d:Nat){ps:List Str}{j:Nat}(h:j<ps.length):Bl m ind d (decide (j=0)) (ps.drop j)=(if j=0 then [] else [44])++(Yk m ind (d+1)++(ps[j]++Bl m ind d (decide (j+1=0)) (ps.drop (j+1)))):=by
  rw[List.drop_eq_getElem_cons h,Bl];simp
mutual
def HJ:Tree->Prop|.node _ t ks xs=>t.length<=17592186044416/\(∀k∈ks,k.length<=17592186044416)/\GG xs
def GG:List Tree->Prop|[]=>True|x::xs=>HJ x/\GG xs
end
theorem Kw:∀{xs:List Tree},GG xs->∀x∈xs,HJ x
  | [],_,_,h=>absurd h La
  | y :: ys, h, x, hx => by
    rw[GG]at h;rcases oQ.1 hx with rfl|hx
    ·exact h.1
    exact Kw h.2 x hx
def BV(x:Tree):Prop:=∀(m:Bool)(ind d:Nat)(w0:World)(B pb:Nat)(s:Str)(cs:List Value),Bd w0 B pb 134 [.bool m,J (ind:Int)] s->Gl w0->8<=B->Rep (λb=>b∉Wk w0 B pb) w0 (Hb x) cs->HJ x->Td nodeB x=true ->
  ind*(d+Hd x)<=1000000000->d+Hd x<=1000000000->s.length+(Tg m ind x d).length<=140737488355328->Bv 90 #[V pb,.agg cs.toArray,J (d:Int)] (.tuple #[]) w0 B pb 134 [.bool m,J (ind:Int)] (s++Tg m ind x d)
def ItemC(f:Nat)(k:Int)(t:Str)(ks:List Str)(xs:List Tree)(m:Bool)(ind d:Nat)(ps:List Str):Prop:=∀(j:Nat)(hj:j<ps.length)(w0:World)(B pb:Nat)(s:Str)(A B':Option Addr)(c e:Nat),Bd w0 B pb 134 [.bool m,J (ind:Int)] s->Gl w0->8<=B ->
  Rep (λb=>b∉Wk w0 B pb) w0 (Hb (.node k t ks xs)) [J k,I t,.slice A ks.length c,.slice B' xs.length e]->s.length+ps[j].length<=140737488355328 ->
  Bv f #[V pb,.agg #[J k,I t,.slice A ks.length c,.slice B' xs.length e],J (j:Int),J (d:Int)] (.tuple #[]) w0 B pb 134 [.bool m,J (ind:Int)] (s++ps[j])
theorem item_c(k:Int)(t:Str)(ks:List Str)(xs:List Tree)(m:Bool)(ind d:Nat)(j:Nat)(hj:j<xs.length)(w0:World)(B pb:Nat)(s:Str)(A B_:Option Addr)(c e:Nat)(hBd:Bd w0 B pb 134 [.bool m,J (ind:Int)] s)(hG:Gl w0)(h8:8<=B)(hX:Rep (λb=>b∉Wk w0 B pb) w0 (Hb (.node k t ks xs)) [J k,I t,.slice A ks.length c,.slice B_ xs.length e])(hv:∀x∈xs,BV x)(hok:HJ (.node k t ks xs))(hn:Td nodeB (.node k t ks xs)=true)(hd:ind*(d+Wc xs)<=1000000000)(hd2:d+Wc xs<=1000000000)(hl:s.length+(Tg m ind xs[j] d).length<=140737488355328):Bv 138 #[V pb,.agg #[J k,I t,.slice A ks.length c,.slice B_ xs.length e],J (j:Int),J (d:Int)] (.tuple #[]) w0 B pb 134 [.bool m,J (ind:Int)] (s++Tg m ind xs[j] d):=by
 unfold Bv;rw[HJ]at hok;refine Ea func138 O ntmps138 Db (L1 _ _ _ _) ?_;have hB:=BW.start hBd;have hF:=FR.start w0 (Wk w0 B pb);refine Da (Le hF O ?_);intro b1 w hb1 hF hE;have nb1:b1≠pb:=by have:=hB.lt;omega
 have hX:=hX.off_ext hB.lt hE;have hB:=hB.ext hE;refine Ca (Ha (Aa (Wf O) (Aa (Ob Ub O) (Tb (Ff zQ O hF.F 0 O O) (Aa (Gb O) ?_)))));obtain⟨A_,c_,B__,e_,heq_,-,-,hK_,hXs_⟩:=hX.tree_inv;simp only[List.cons.injEq,Value.slice.injEq,true_and,and_true]at heq_;obtain⟨⟨rfl,rfl⟩,rfl,rfl⟩:=heq_;obtain⟨ad0,cs0,hA0,hl0,hk0,hx0⟩:=hXs_.tree_elem (i:=j) Ba;have ho0:=hx0.one_;refine Ja (v:=.pointer (some (ad0.add (j*4)))) (Sa (i:=(j:Int)) Mg O hA0 O Ba Ba) (Ja (v:=.agg (List.toArray cs0)) (Xa (l:=cs0) aZ mZ O hl0 hk0) (Aa (Gb O) ?_));refine Ya (hv xs[j] (eQ hj) m ind d _ B pb s _ hB.bd (hG.wrote hF.same h8 hBd.le) h8 hx0 (Kw hok.2.2 _ (eQ hj)) ((Tf hn).2 _ (eQ hj)) (by have h1:=Ah (eQ hj);exact fQ (Nat.mul_le_mul_left ind Ba) hd) (by have h1:=Ah (eQ hj);omega) hl) (Te FJ O O O O) ?_;rintro _ w ⟨rfl,hBd2,hE⟩;have hF:=hF.wrote hB hE (by simp[Fj,nb1]);have hX:=hX.off hE;have hB:=hB.wrote hBd2 hE;clear hBd2 hE;refine Ua (Fg (Ce (Xi O) ?_));exact⟨O,hB.bd,hF.same⟩
theorem HQ(k:Int)(t:Str)(ks:List Str)(xs:List Tree)(m:Bool)(ind d:Nat)(j:Nat)(hj:j<xs.length)(hjk:j<ks.length)(w0:World)(B pb:Nat)(s:Str)(A B_:Option Addr)(c e:Nat)(hBd:Bd w0 B pb 134 [.bool m,J (ind:Int)] s)(hG:Gl w0)(h8:8<=B)(hX:Rep (λb=>b∉Wk w0 B pb) w0 (Hb (.node k t ks xs)) [J k,I t,.slice A ks.length c,.slice B_ xs.length e])(hv:∀x∈xs,BV x)(hok:HJ (.node k t ks xs))(hn:Td nodeB (.node k t ks xs)=true)(hd:ind*(d+Wc xs)<=1000000000)(hd2:d+Wc xs<=1000000000)(hl:s.length+(C9 m ind d ks[j] xs[j]).length<=140737488355328):Bv 139 #[V pb,.agg #[J k,I t,.slice A ks.length c,.slice B_ xs.length e],J (j:Int),J (d:Int)] (.tuple #[]) w0 B pb 134 [.bool m,J (ind:Int)] (s++C9 m ind d ks[j] xs[j]):=by
 unfold Bv;rw[HJ]at hok;rw[C9]at hl;simp only[dQ,kQ,List.length_nil]at hl;refine Ea func139 O ntmps139 Db (L1 _ _ _ _) ?_;have hB:=BW.start hBd;have hF:=FR.start w0 (Wk w0 B pb);refine Da (Le hF O ?_);intro b1 w hb1 hF hE;have nb1:b1≠pb:=by have:=hB.lt;omega
 have hX:=hX.off_ext hB.lt hE;have hB:=hB.ext hE;refine Qb (Aa (Wf O) (Aa (Ob Zd O) (Tb (Ff yQ O hF.F 0 O O) (Aa (Gb O) ?_))));obtain⟨A_,c_,B__,e_,heq_,-,-,hK_,hXs_⟩:=hX.tree_inv;simp only[List.cons.injEq,Value.slice.injEq,true_and,and_true]at heq_;obtain⟨⟨rfl,rfl⟩,rfl,rfl⟩:=heq_;obtain⟨ad0,hA0,hk0,hx0⟩:=hK_.str_elem (i:=j) Ba;refine Ja (v:=.pointer (some (ad0.add (j*1)))) (Sa (i:=(j:Int)) Wt O hA0 O Ba Ba) (Ja (v:=I (ks[j])) (Ad iZ O hk0) ?_);refine Ya (S6 _ B pb m ind s hB.bd (hG.wrote hF.same h8 hBd.le) h8 ks[j] (hok.2.1 _ (eQ hjk)) Ba) (Ra LR O O O) ?_;rintro _ w ⟨rfl,hBd2,hE⟩;have hF:=hF.wrote hB hE (by simp[Fj,nb1]);have hX:=hX.off hE;have hB:=hB.wrote hBd2 hE;clear hBd2 hE;refine Qb (Aa (Wf O) (Aa (Ii O) (Aa (Ob Gi O) ?_)));refine Ya (Ch hB.bd 58 Ta Ta (by rw[dQ];omega)) (Ra Pn O O O) ?_;rintro _ w ⟨rfl,hBd2,hE⟩;have hF:=hF.wrote hB hE (by simp[Fj,nb1]);have hX:=hX.off hE;have hB:=hB.wrote hBd2 hE;clear hBd2 hE;refine Ca (Fa (Da (Aa (Wf O) (Aa (Ii O) (Aa (Ob QC O) (Ja (v:=.bool (m)) (Ad eZ O hB.bd.mul) (Ca ?_)))))));refine Fe O O (λhc0=>?_) (λhc0=>?_);refine Ha (Aa (Wf O) (Aa (Ii O) (Aa (Ob Gi O) ?_)));refine Ya (Ch hB.bd 32 Ta Ta (by simp only[dQ,kQ,List.length_nil];(first|rw[if_pos hc0]at hl|rw[if_neg (by simp[hc0])]at hl);simp only[kQ,List.length_nil]at hl;omega)) (Ra Pn rfl rfl rfl) ?_;rintro _ w ⟨rfl,hBd2,hE⟩;have hF:=hF.wrote hB hE (by simp[Fj,nb1]);have hX:=hX.off hE;have hB:=hB.wrote hBd2 hE;clear hBd2 hE;refine Ca (Ha (Aa (Wf O) (Aa (Ob Ub O) (Tb (Ff zQ O hF.F 0 O O) (Aa (Gb O) ?_)))));obtain⟨A_,c_,B__,e_,heq_,-,-,hK_,hXs_⟩:=hX.tree_inv;simp only[List.cons.injEq,Value.slice.injEq,true_and,and_true]at heq_;obtain⟨⟨rfl,rfl⟩,rfl,rfl⟩:=heq_;obtain⟨ad1,cs1,hA1,hl1,hk1,hx1⟩:=hXs_.tree_elem (i:=j) Ba
 have ho1:=hx1.one_;refine Ja (v:=.pointer (some (ad1.add (j*4)))) (Sa (i:=(j:Int)) Mg O hA1 O Ba Ba) (Ja (v:=.agg (List.toArray cs1)) (Xa (l:=cs1) aZ mZ O hl1 hk1) (Aa (Gb O) ?_));refine Ya (hv xs[j] (eQ hj) m ind d _ B pb _ _ hB.bd (hG.wrote hF.same h8 hBd.le) h8 hx1 (Kw hok.2.2 _ (eQ hj)) ((Tf hn).2 _ (eQ hj)) (by have h1:=Ah (eQ hj);exact fQ (Nat.mul_le_mul_left ind Ba) hd) (by have h1:=Ah (eQ hj);omega) (by simp only[dQ,kQ,List.length_nil];(first|rw[if_pos hc0]at hl|rw[if_neg (by simp[hc0])]at hl);simp only[kQ,List.length_nil]at hl;omega)) (Te FJ rfl rfl rfl rfl) ?_;rintro _ w ⟨rfl,hBd2,hE⟩;have hF:=hF.wrote hB hE (by simp[Fj,nb1]);have hX:=hX.off hE;have hB:=hB.wrote hBd2 hE;clear hBd2 hE;refine Ua (Fg (Ce (Xi O) ?_));exact⟨O,by simpa[C9,hc0]using hB.bd,hF.same⟩;refine Na (Ga (Ha (Aa (Wf O) (Aa (Ob Ub O) (Tb (Ff zQ O hF.F 0 O O) (Aa (Gb O) ?_))))));obtain⟨A_,c_,B__,e_,heq_,-,-,hK_,hXs_⟩:=hX.tree_inv;simp only[List.cons.injEq,Value.slice.injEq,true_and,and_true]at heq_;obtain⟨⟨rfl,rfl⟩,rfl,rfl⟩:=heq_;obtain⟨ad2,cs2,hA2,hl2,hk2,hx2⟩:=hXs_.tree_elem (i:=j) Ba;have ho2:=hx2.one_;refine Ja (v:=.pointer (some (ad2.add (j*4)))) (Sa (i:=(j:Int)) Mg O hA2 O Ba Ba) (Ja (v:=.agg (List.toArray cs2)) (Xa (l:=cs2) aZ mZ O hl2 hk2) (Aa (Gb O) ?_));refine Ya (hv xs[j] (eQ hj) m ind d _ B pb _ _ hB.bd (hG.wrote hF.same h8 hBd.le) h8 hx2 (Kw hok.2.2 _ (eQ hj)) ((Tf hn).2 _ (eQ hj)) (by have h1:=Ah (eQ hj);exact fQ (Nat.mul_le_mul_left ind Ba) hd) (by have h1:=Ah (eQ hj);omega) (by simp only[dQ,kQ,List.length_nil];(first|rw[if_pos hc0]at hl|rw[if_neg (by simp[hc0])]at hl);simp only[kQ,List.length_nil]at hl;omega)) (Te FJ rfl rfl rfl rfl) ?_;rintro _ w ⟨rfl,hBd2,hE⟩;have hF:=hF.wrote hB hE (by simp[Fj,nb1]);have hX:=hX.off hE
 have hB:=hB.wrote hBd2 hE;clear hBd2 hE;refine Ua (Fg (Ce (Xi O) ?_));exact⟨O,by simpa[C9,hc0]using hB.bd,hF.same⟩
theorem YN(m:Bool)(ind d:Nat)(b:Bool):Bl m ind d b []=[]:=by cases b <;> rfl
theorem NI(f:Nat)(hen:Qa prog f)(k:Int)(t:Str)(ks:List Str)(xs:List Tree)(m:Bool)(ind d:Nat)(bo bc:UInt8)(ps:List Str)(hps:ps.length=xs.length)(hI:ItemC f k t ks xs m ind (d+1) ps)(w0:World)(B pb:Nat)(s:Str)(A B_:Option Addr)(c e:Nat)(hBd:Bd w0 B pb 134 [.bool m,J (ind:Int)] s)(hG:Gl w0)(h8:8<=B)(hX:Rep (λb=>b∉Wk w0 B pb) w0 (Hb (.node k t ks xs)) [J k,I t,.slice A ks.length c,.slice B_ xs.length e])(hd1:ind*(d+1)<=1000000000)(hd2:d+1<=1000000000)(hxl:xs.length<=9223372036854775807)(hlim:s.length+(Ak m ind d bo bc ps).length<=140737488355328):Bv 137 #[V pb,.agg #[J k,I t,.slice A ks.length c,.slice B_ xs.length e],J (d:Int),I [bo,bc],.func (.func f) #[V pb] #[]] (.tuple #[]) w0 B pb 134 [.bool m,J (ind:Int)] (s++Ak m ind d bo bc ps):=by
 unfold Bv;rw[Ak]at hlim;simp only[dQ,kQ,List.length_nil]at hlim;refine Ea func137 O ntmps137 Db (IF _ _ _ _ _) ?_;have hB:=BW.start hBd;have hF:=FR.start w0 (Wk w0 B pb);refine Da (Le hF O ?_);intro b1 w hb1 hF hE;have nb1:b1≠pb:=by have:=hB.lt;omega
 have hX:=hX.off_ext hB.lt hE;have hB:=hB.ext hE;refine Ca (Fa ?_);refine Ld (.of []) (bQ [0,1,2,3,4] (.act 5 .nil)) hF ?_;intro w hF hE;have hX:=hX.off_ext hB.lt hE;have hB:=hB.ext hE;refine⟨λwq=>FR w0 (Wk w0 B pb) _ wq,hF,?_⟩;refine Fb O (Wf O) (Fb O (Ii O) (Fb O (Ob Gi O) (Fb O (Md O) ?_)));refine Bb O (v:=.int .u8 (((bo.toNat:Nat):Int))) (λw hC=>Jf (s:=[bo,bc]) 0 iX O O La) (Uc O (Qo hB.bd bo Ba) (Ra Pn O O O) ?_);rintro _ w ⟨rfl,hBd2,hE⟩;have hF:=hF.wrote hB hE (by simp[Fj,nb1]);have hX:=hX.off hE;have hB:=hB.wrote hBd2 hE;clear hBd2 hE;refine⟨hF,?_⟩;refine Ac (Ga (Fa (Da (Aa (Ob Ub O) (Tb (Ff zQ O hF.F 0 O O) (Aa (Ug yZ O) (Aa (Gb O) (Ca (Va ?_)))))))));refine Tc (λμ σ w=>∃(j:Nat),∃(o:Str),μ=xs.length-j/\(j<=xs.length)/\(o++Bl m ind d (decide (j=0)) (ps.drop j)=s++([bo]++Bl m ind d true ps))/\(BW w0 (Wk w0 B pb) w B pb 134 [.bool m,J (ind:Int)] (o))/\(Rep (λb=>b∉Wk w B pb) w (Hb (.node k t ks xs)) [J k,I t,.slice A ks.length c,.slice B_ xs.length e])/\AllEq σ [(0,V pb),(2,J ((d:Int))),(3,I ([bo,bc])),(4,.func (.func f) #[V pb] #[]),(6,V b1),(19,J ((xs.length:Nat))),(20,J ((j:Int)))]/\FR w0 (Wk w0 B pb) [(b1,.cells #[J k,I t,.slice A ks.length c,.slice B_ xs.length e] 25)] w) _ ⟨0,s++[bo],O,(Nat.zero_le _),La,(hB),(hX),N_,hF⟩ ?_;rintro μ σ w ⟨j,o,rfl,hj,hq,hB,hX,hs,hF⟩;refine Cg.slots hs ?_;clear hs;intro σ;refine Da (Aa (Sl O O) (Ca (Fa ?_)));refine Pb O O (λhc0=>?_) (λhc0=>?_);have hjp:j<ps.length:=by omega
 have hjd:=DM m ind d hjp;have hL:=congrArg List.length hq;rw[hjd]at hL;have hif:(if j=0 then ([]:Str) else [44]).length=if j=0 then 0 else 1:=by split <;> rfl
 simp only[dQ,kQ,List.length_nil,hif]at hL;refine Na (Ga (Fa (Va (Da (Aa (Gb O) (Aa (Lb O) (Ca (Fa (Da (Aa (Gb O) ?_))))))))));refine Aa (Gz O O) (Ca ?_);refine Pb O O (λhc1=>?_) (λhc1=>?_);refine Ha (Aa (Wf O) (Aa (Ii O) (Aa (Ob Gi O) ?_)));refine Ya (Ch hB.bd 44 Ta Ta (by rw[if_neg Ba]at hL;omega)) (Ra Pn O O O) ?_;rintro _ w ⟨rfl,hBd2,hE⟩;have hF:=hF.wrote hB hE (by simp[Fj,nb1]);have hX:=hX.off hE;have hB:=hB.wrote hBd2 hE;clear hBd2 hE;refine Qb (Aa (Wf O) (Aa (Gb O) (Aa (Bo (((d+1:Nat):Int)) O O) ?_)));refine Ya (EH _ B pb m ind _ hB.bd (d+1) hd1 (by (try simp only[dQ,kQ,List.length_nil]);first|(rw[if_neg Ba]at hL;omega)|(rw[if_pos Ba]at hL;omega))) (Ra DF rfl rfl rfl) ?_;rintro _ w ⟨rfl,hBd2,hE⟩;have hF:=hF.wrote hB hE (by simp[Fj,nb1]);have hX:=hX.off hE;have hB:=hB.wrote hBd2 hE;clear hBd2 hE;refine Ca (Ha (Aa (Pr) (Tb (He aZ mZ O hF.F 0 O O) (Aa (Gb O) (Aa (Gb O) (Aa (Bo (((d+1:Nat):Int)) O O) ?_))))));refine Ya (hI j hjp _ B pb _ A B_ c e hB.bd (hG.wrote hF.same h8 hBd.le) h8 hX (by (try simp only[dQ,kQ,List.length_nil]);first|(rw[if_neg Ba]at hL;omega)|(rw[if_pos Ba]at hL;omega))) (IC rfl hen rfl rfl rfl rfl) ?_;rintro _ w ⟨rfl,hBd2,hE⟩;have hF:=hF.wrote hB hE (by simp[Fj,nb1]);have hX:=hX.off hE;have hB:=hB.wrote hBd2 hE;clear hBd2 hE;have hB:BW w0 (Wk w0 B pb) w B pb 134 [.bool m,J (ind:Int)] (o++((if j=0 then [] else [44])++(Yk m ind (d+1)++ps[j]))):=by first|(have h0:¬j=0:=Ba;rw[if_neg h0];simpa using hB)|(have h0:j=0:=Ba;rw[if_pos h0];simpa using hB)
 refine Ua (Cb (Ga (Ha (Aa (Il O O) (Aa (Gb O) (Ua ?_))))));refine Xb ⟨_,?_,j+1,o++((if j=0 then [] else [44])++(Yk m ind (d+1)++ps[j])),O,Ba,(by have h:=hq;rw[hjd]at h;simpa[sQ]using h),(hB),(hX),N_,hF⟩;omega;refine Na (Ga (Da (Aa (Wf O) (Aa (Gb O) (Aa (Bo (((d+1:Nat):Int)) O O) ?_)))));refine Ya (EH _ B pb m ind _ hB.bd (d+1) hd1 (by (try simp only[dQ,kQ,List.length_nil]);first|(rw[if_neg Ba]at hL;omega)|(rw[if_pos Ba]at hL;omega))) (Ra DF rfl rfl rfl) ?_;rintro _ w ⟨rfl,hBd2,hE⟩;have hF:=hF.wrote hB hE (by simp[Fj,nb1]);have hX:=hX.off hE;have hB:=hB.wrote hBd2 hE;clear hBd2 hE;refine Ca (Ha (Aa (Pr) (Tb (He aZ mZ O hF.F 0 O O) (Aa (Gb O) (Aa (Gb O) (Aa (Bo (((d+1:Nat):Int)) O O) ?_))))));refine Ya (hI j hjp _ B pb _ A B_ c e hB.bd (hG.wrote hF.same h8 hBd.le) h8 hX (by (try simp only[dQ,kQ,List.length_nil]);first|(rw[if_neg Ba]at hL;omega)|(rw[if_pos Ba]at hL;omega))) (IC rfl hen rfl rfl rfl rfl) ?_;rintro _ w ⟨rfl,hBd2,hE⟩;have hF:=hF.wrote hB hE (by simp[Fj,nb1]);have hX:=hX.off hE;have hB:=hB.wrote hBd2 hE;clear hBd2 hE;have hB:BW w0 (Wk w0 B pb) w B pb 134 [.bool m,J (ind:Int)] (o++((if j=0 then [] else [44])++(Yk m ind (d+1)++ps[j]))):=by first|(have h0:¬j=0:=Ba;rw[if_neg h0];simpa using hB)|(have h0:j=0:=Ba;rw[if_pos h0];simpa using hB)
 refine Ua (Cb (Ga (Ha (Aa (Il O O) (Aa (Gb O) (Ua ?_))))));refine Xb ⟨_,?_,j+1,o++((if j=0 then [] else [44])++(Yk m ind (d+1)++ps[j])),O,Ba,(by have h:=hq;rw[hjd]at h;simpa[sQ]using h),(hB),(hX),N_,hF⟩;omega;have hq2:o=s++([bo]++Bl m ind d true ps):=by have h:=hq;rw[List.drop_eq_nil_of_le Ba,YN,qQ]at h;exact h
 refine Kc (Ec O ?_);refine Ga (Fa (Da (Aa (Ob Ub O) (Tb (Ff zQ O hF.F 0 O O) (Aa (Ug yZ O) (Aa (Gz O O) (Ca ?_)))))));refine Pb O O (λhc2=>?_) (λhc2=>?_);have hpn:ps≠[]:=by intro hp;rw[hp]at hps;simp at hps;omega
 refine Ha (Aa (Wf O) (Aa (Gb O) ?_));refine Ya (EH _ B pb m ind _ hB.bd d (fQ (Nat.mul_le_mul_left ind Ba) hd1) (by have hp:ps≠[]:=(by intro hp;rw[hp]at hps;simp at hps;omega);rw[if_neg hp]at hlim;rw[hq2];(try simp only[dQ,kQ,List.length_nil]);omega)) (Ra DF rfl rfl rfl) ?_;rintro _ w ⟨rfl,hBd2,hE⟩;have hF:=hF.wrote hB hE (by simp[Fj,nb1]);have hX:=hX.off hE;have hB:=hB.wrote hBd2 hE;clear hBd2 hE;refine Ca (Ld (.of []) (bQ [0,1,2,3,4] (.act 5 .nil)) hF ?_);intro w hF hE;have hX:=hX.off_ext hB.lt hE;have hB:=hB.ext hE;refine⟨λwq=>FR w0 (Wk w0 B pb) _ wq,hF,?_⟩;refine Fb O (Wf O) (Fb O (Ii O) (Fb O (Ob Gi O) (Fb O (Md O) ?_)));refine Bb O (v:=.int .u8 (((bc.toNat:Nat):Int))) (λw hC=>Jf (s:=[bo,bc]) 1 iX O O La) ?_;refine Uc rfl (Qo hB.bd bc (by rw[hq2];(try simp only[dQ,kQ,List.length_nil]);first|(rw[if_neg hpn]at hlim;omega)|omega)) (Ra Pn rfl rfl rfl) ?_;rintro _ w ⟨rfl,hBd2,hE⟩;have hF:=hF.wrote hB hE (by simp[Fj,nb1]);have hX:=hX.off hE;have hB:=hB.wrote hBd2 hE;clear hBd2 hE;refine⟨hF,?_⟩;refine Ac (Fg (Ce (Xi O) ?_));refine⟨O,?_,hF.same⟩;have hb:=hB.bd;rw[hq2]at hb;rw[Ak,if_neg hpn];simpa[sQ]using hb;have hpz:ps=[]:=List.eq_nil_of_length_eq_zero Ba;refine Na (Ga ?_);refine Ld (.of []) (bQ [0,1,2,3,4] (.act 5 .nil)) hF ?_;intro w hF hE;have hX:=hX.off_ext hB.lt hE;have hB:=hB.ext hE;refine⟨λwq=>FR w0 (Wk w0 B pb) _ wq,hF,?_⟩;refine Fb O (Wf O) (Fb O (Ii O) (Fb O (Ob Gi O) (Fb O (Md O) ?_)));refine Bb O (v:=.int .u8 (((bc.toNat:Nat):Int))) (λw hC=>Jf (s:=[bo,bc]) 1 iX O O La) ?_;refine Uc rfl (Qo hB.bd bc (by rw[hq2];(try simp only[dQ,kQ,List.length_nil]);first|(rw[if_neg hpn]at hlim;omega)|omega)) (Ra Pn rfl rfl rfl) ?_;rintro _ w ⟨rfl,hBd2,hE⟩;have hF:=hF.wrote hB hE (by simp[Fj,nb1])
 have hX:=hX.off hE;have hB:=hB.wrote hBd2 hE;clear hBd2 hE;refine⟨hF,?_⟩;refine Ac (Fg (Ce (Xi O) ?_));refine⟨O,?_,hF.same⟩;have hb:=hB.bd;rw[hq2]at hb;rw[Ak,if_pos hpz];simpa[sQ]using hb
theorem DH(k:Int)(t:Str)(ks:List Str)(xs:List Tree)(ih:∀x∈xs,BV x)(m:Bool)(ind d:Nat)(w0:World)(B pb:Nat)(s:Str)(A B_:Option Addr)(c e:Nat)(hBd:Bd w0 B pb 134 [.bool m,J (ind:Int)] s)(hG:Gl w0)(h8:8<=B)(hX:Rep (λb=>b∉Wk w0 B pb) w0 (Hb (.node k t ks xs)) [J k,I t,.slice A ks.length c,.slice B_ xs.length e])(hok:HJ (.node k t ks xs))(hn:Td nodeB (.node k t ks xs)=true)(hd:ind*(d+Hd (.node k t ks xs))<=1000000000)(hd2:d+Hd (.node k t ks xs)<=1000000000)(hxl:xs.length<=9223372036854775807)(hl:s.length+(Tg m ind (.node k t ks xs) d).length<=140737488355328):Bv 90 #[V pb,.agg #[J k,I t,.slice A ks.length c,.slice B_ xs.length e],J (d:Int)] (.tuple #[]) w0 B pb 134 [.bool m,J (ind:Int)] (s++Tg m ind (.node k t ks xs) d):=by
 unfold Bv;refine Ea func90 O ntmps90 Db (Fk _ _ _) ?_;have hB:=BW.start hBd;have hF:=FR.start w0 (Wk w0 B pb);refine Da (Le hF O ?_);intro b1 w hb1 hF hE;have nb1:b1≠pb:=by have:=hB.lt;omega
 have hX:=hX.off_ext hB.lt hE;have hB:=hB.ext hE;refine Qb (Aa (Ob Se O) (Tb (Yi dZ O hF.F 0 O O) (Ca (Va (Da (Aa (Yh O O) (Aa (Jb O) (Ua ?_))))))));refine Ga (Pb O O (λhc0=>?_) (λhc0=>?_));refine Ha (Aa (Wf O) (Aa (Ii O) (Aa (Ob Gi O) ?_)));have hkk_:k=1:=by omega
 refine Ya (Mj hB.bd [110,117,108,108] (by rw[Tg,if_pos hkk_]at hl;exact hl)) (Ra C2 O O O) ?_;rintro _ w ⟨rfl,hBd2,hE⟩;have hF:=hF.wrote hB hE (by simp[Fj,nb1]);have hX:=hX.off hE;have hB:=hB.wrote hBd2 hE;clear hBd2 hE;refine Ua (Cb ?_);refine Fg (Ce (Xi O) ?_);refine⟨O,?_,hF.same⟩;rw[Tg]
 first|(rw[if_pos hkk_];exact hB.bd)|(rw[if_neg Ba,if_pos hkk_];exact hB.bd)|(rw[if_neg Ba,if_neg Ba,if_pos hkk_];exact hB.bd)|(rw[if_neg Ba,if_neg Ba,if_neg Ba,if_pos hkk_];exact hB.bd)|(rw[if_neg Ba,if_neg Ba,if_neg Ba,if_neg Ba];exact hB.bd)
 refine Da (Aa (Yh O O) (Aa (Jb O) (Ca ?_)));refine Pb O O (λhc1=>?_) (λhc1=>?_);refine Ha (Aa (Wf O) (Aa (Ob Re O) (Tb (Rm iZ O hF.F 0 O O) ?_)));have hkk_:k=4:=by omega
 refine Ya (S6 _ B pb m ind s hB.bd (hG.wrote hF.same h8 hBd.le) h8 t (by rw[HJ]at hok;exact hok.1) (by rw[Tg,if_neg Ba,if_pos hkk_]at hl;exact hl)) (Ra LR O O O) ?_;rintro _ w ⟨rfl,hBd2,hE⟩;have hF:=hF.wrote hB hE (by simp[Fj,nb1]);have hX:=hX.off hE;have hB:=hB.wrote hBd2 hE;clear hBd2 hE;refine Ua (Cb ?_);refine Fg (Ce (Xi O) ?_);refine⟨O,?_,hF.same⟩;rw[Tg]
 first|(rw[if_pos hkk_];exact hB.bd)|(rw[if_neg Ba,if_pos hkk_];exact hB.bd)|(rw[if_neg Ba,if_neg Ba,if_pos hkk_];exact hB.bd)|(rw[if_neg Ba,if_neg Ba,if_neg Ba,if_pos hkk_];exact hB.bd)|(rw[if_neg Ba,if_neg Ba,if_neg Ba,if_neg Ba];exact hB.bd)
 refine Da (Aa (Yh O O) (Aa (Jb O) (Ca ?_)));refine Pb O O (λhc2=>?_) (λhc2=>?_);refine Ha (Aa (Wf O) (Tb (He aZ mZ O hF.F 0 O O) (Aa (Gb O) (Aa (Wf O) (Ja (v:=.func (.func 138) #[V pb] #[]) (Xq O) ?_)))));have hkk_:k=5:=by omega
 refine Ya (NI 138 en_138 k t ks xs m ind d 91 93 (Po m ind xs (d+1)) (by rw[Qp,rQ]) (λj hj w1 B1 p1 s1 A1 B1_ c1 e1 hb1_ hg1 h81 hx1 hl1=>by have hj2:j<xs.length:=(by rw[Qp,rQ]at hj;exact hj);have hg:(Po m ind xs (d+1))[j]=Tg m ind xs[j] (d+1):=(by simp only[Qp,List.getElem_map]);rw[hg]at hl1 ⊢;exact item_c k t ks xs m ind (d+1) j hj2 w1 B1 p1 s1 A1 B1_ c1 e1 hb1_ hg1 h81 hx1 ih hok hn (by rw[Hd]at hd;exact fQ (Nat.mul_le_mul_left ind Ba) hd) (by rw[Hd]at hd2;omega) hl1) _ B pb s A B_ c e hB.bd (hG.wrote hF.same h8 hBd.le) h8 hX (by have h1:=hd;rw[Hd]at h1;exact fQ (Nat.mul_le_mul_left ind Ba) h1) (by rw[Hd]at hd2;omega) hxl (by rw[Tg]at hl;simpa[hkk_]using hl)) (E0 HS O O O O O O) ?_;rintro _ w ⟨rfl,hBd2,hE⟩;have hF:=hF.wrote hB hE (by simp[Fj,nb1]);have hX:=hX.off hE;have hB:=hB.wrote hBd2 hE;clear hBd2 hE;refine Ua (Cb ?_);refine Fg (Ce (Xi O) ?_);refine⟨O,?_,hF.same⟩;rw[Tg]
 first|(rw[if_pos hkk_];exact hB.bd)|(rw[if_neg Ba,if_pos hkk_];exact hB.bd)|(rw[if_neg Ba,if_neg Ba,if_pos hkk_];exact hB.bd)|(rw[if_neg Ba,if_neg Ba,if_neg Ba,if_pos hkk_];exact hB.bd)|(rw[if_neg Ba,if_neg Ba,if_neg Ba,if_neg Ba];exact hB.bd)
 refine Da (Aa (Yh O O) (Aa (Jb O) (Ca ?_)));refine Pb O O (λhc3=>?_) (λhc3=>?_);refine Ha (Aa (Wf O) (Tb (He aZ mZ O hF.F 0 O O) (Aa (Gb O) (Aa (Wf O) (Ja (v:=.func (.func 139) #[V pb] #[]) (Xq O) ?_)))));have hkk_:k=6:=by omega
 have hkl:ks.length=xs.length:=(Cu (hkk_▸(Tf hn).1)).2;refine Ya (NI 139 en_139 k t ks xs m ind d 123 125 (Tj m ind xs ks (d+1)) (by rw[Pq]) (λj hj w1 B1 p1 s1 A1 B1_ c1 e1 hb1_ hg1 h81 hx1 hl1=>by have hj2:j<xs.length:=(by rw[Pq]at hj;exact hj);have hg:=V5 m ind (d+1) xs ks j hj2 Ba hj;rw[hg]at hl1 ⊢;exact HQ k t ks xs m ind (d+1) j hj2 Ba w1 B1 p1 s1 A1 B1_ c1 e1 hb1_ hg1 h81 hx1 ih hok hn (by rw[Hd]at hd;exact fQ (Nat.mul_le_mul_left ind Ba) hd) (by rw[Hd]at hd2;omega) hl1) _ B pb s A B_ c e hB.bd (hG.wrote hF.same h8 hBd.le) h8 hX (by have h1:=hd;rw[Hd]at h1;exact fQ (Nat.mul_le_mul_left ind Ba) h1) (by rw[Hd]at hd2;omega) hxl (by rw[Tg]at hl;simpa[hkk_]using hl)) (E0 HS O O O O O O) ?_;rintro _ w ⟨rfl,hBd2,hE⟩;have hF:=hF.wrote hB hE (by simp[Fj,nb1]);have hX:=hX.off hE;have hB:=hB.wrote hBd2 hE;clear hBd2 hE;refine Ua (Cb ?_);refine Fg (Ce (Xi O) ?_);refine⟨O,?_,hF.same⟩;rw[Tg]
 first|(rw[if_pos hkk_];exact hB.bd)|(rw[if_neg Ba,if_pos hkk_];exact hB.bd)|(rw[if_neg Ba,if_neg Ba,if_pos hkk_];exact hB.bd)|(rw[if_neg Ba,if_neg Ba,if_neg Ba,if_pos hkk_];exact hB.bd)|(rw[if_neg Ba,if_neg Ba,if_neg Ba,if_neg Ba];exact hB.bd)
 refine Ld (.of []) (bQ [0,1,2,3,4] (.act 5 .nil)) hF ?_;intro w hF hE;have hX:=hX.off_ext hB.lt hE;have hB:=hB.ext hE;refine⟨λwq=>FR w0 (Wk w0 B pb) _ wq,hF,?_⟩;refine Fb O (Wf O) (Fb O (Ii O) (Fb O (Ob Gi O) (Fb O (Ob Re O) (Sf O (Rm iZ O C0 0 O O) ?_))));refine Uc O (Mj hB.bd t (by rw[Tg,if_neg Ba,if_neg Ba,if_neg Ba,if_neg Ba]at hl;exact hl)) (Ra C2 O O O) ?_;rintro _ w ⟨rfl,hBd2,hE⟩;have hF:=hF.wrote hB hE (by simp[Fj,nb1]);have hX:=hX.off hE;have hB:=hB.wrote hBd2 hE;clear hBd2 hE;refine⟨hF,?_⟩;refine Ac (Cb ?_);refine Fg (Ce (Xi O) ?_);refine⟨O,?_,hF.same⟩;rw[Tg]
 first|(rw[if_pos hkk_];exact hB.bd)|(rw[if_neg Ba,if_pos hkk_];exact hB.bd)|(rw[if_neg Ba,if_neg Ba,if_pos hkk_];exact hB.bd)|(rw[if_neg Ba,if_neg Ba,if_neg Ba,if_pos hkk_];exact hB.bd)|(rw[if_neg Ba,if_neg Ba,if_neg Ba,if_neg Ba];exact hB.bd)
theorem VX(x:Tree):BV x:=Tree.ind (Q:=BV) (λk t ks xs ih m ind d w0 B pb s cs hBd hG h8 hX hok hn hd hd2 hl=>by
  obtain⟨A,c,B_,e,rfl,-,-,-,hXs⟩:=hX.tree_inv;have h1:=hXs.slice_len;exact DH k t ks xs ih m ind d w0 B pb s A B_ c e hBd hG h8 hX hok hn hd hd2 Ba hl) x
theorem TG{t:Str}(h:Xk t=true):t≠[]:=by
  rintro rfl
  revert h
  decide
theorem UV(m:Bool)(ind:Nat)(x:Tree)(d:Nat)(h:Gf x=true):Tg m ind x d≠[]:=by
  obtain⟨k,t,ks,xs⟩:=x;unfold Gf at h;rw[Bool.and_eq_true]at h;have h1:=(Tf h.2).1;unfold rnodeB at h1;rw[Bool.and_eq_true,decide_eq_true_eq]at h1;obtain⟨h7,h1⟩:=h1;have h7':k≠7:=h7;rw[Tg];split
  ·simp
  split
  ·rename_i h4
   subst h4;simp[nodeB]at h1;rw[qS,if_pos h1.2];simp[Us]
  split
  ·simp[Ak]
  split
  ·simp[Ak]
  rename_i g1 g4 g5 g6
  simp only[nodeB,if_neg g5,if_neg g6,if_neg g1,if_neg g4,if_neg h7']at h1;split at h1
  ·cases h1
  split at h1
  ·rw[Bool.or_eq_true, decide_eq_true_eq, decide_eq_true_eq]at h1
   rcases h1 with rfl|rfl <;> simp
  split at h1
  ·exact TG h1
  cases h1
theorem ZM{x:Tree}(h:Gf x=true):Td nodeB x=true:=by
  unfold Gf at h;rw[Bool.and_eq_true]at h;refine Tree.ind (Q:=λx=>Td rnodeB x=true->Td nodeB x=true) (λk t ks xs ih h=>?_) x h.2;rw[Td,Bool.and_eq_true]at h ⊢;have h1:=h.1;unfold rnodeB at h1;rw[Bool.and_eq_true]at h1;refine⟨h1.2,?_⟩;have key:∀ys:List Tree,(∀y∈ys,y∈xs)->Np rnodeB ys=true->Np nodeB ys=true:=by
    intro ys
    induction ys with
    | nil=>intro _ _;rfl
    | cons y ys ihy =>
      intro hm hs;rw[Np,Bool.and_eq_true]at hs ⊢;exact⟨ih y (hm y La) hs.1,ihy (λz hz=>hm z (by simp[hz])) hs.2⟩
  exact key xs (λ_ h=>h) h.2
theorem Ny{x:Tree}(h:Gf x=true):Hd x<=32:=by
  unfold Gf Bq at h;simp only[Bool.and_eq_true,decide_eq_true_eq]at h;exact h.1.2
theorem CN(x:Tree)(S:Nat->Prop)(w0:World)(cs:List Value)(rx:Rep S w0 (Hb x) cs)(hG:Gl w0)(hk:Co x)(hq:HJ x)(hsz:Mb x<=1000000000)(hlim:Gf x=true->(Tg false 0 x 0).length<=140737488355328):Calls prog 54 #[.agg cs.toArray] w0 (Pc λv w'=>v=(if Gf x=true then .tuple #[I (Tg false 0 x 0),J 0] else .tuple #[I [],J 1])/\Same [] w0 w'):=by
 have hl:cs.length=4:=rx.length.trans (Nc x);have ho:=rx.one_;refine Ea func54 O ntmps54 Db (Rb _) ?_;have hF:=FR.start w0 [];refine Da (Hm (v:=.agg (List.toArray cs)) (cs:=(List.toArray cs)) hF O O ?_);rintro b1 w hb1 hF -;refine Aa (Rf O) (Aa (Lb O) (Ca (Fa (Da (Ja (v:=.agg (List.toArray cs)) (Xa (l:=cs) aZ mZ O hl (hF.cellsAll 0 O)) ?_)))));refine Oa hF (B0 x Ba _ _ _ (hF.rep rx) hk (hG.ext hF.same)) (Ma ZI O O) ?_;intro w hF;refine Aa (Oh O) (Ca ?_);refine Fe O O (λhc0=>?_) (λhc0=>?_);refine Da (Aa (Rf O) (Aa (Lb O) (Ca ?_)));refine Ab (Za (Ka (Vc (v:=I []) (x:=J 1) O O O) ?_));exact⟨by rw[if_neg (by simpa using hc0)],hF.same⟩;refine Na (Ga (Da ?_));refine Jc (cs:=#[.pointer none,aQ,.bool false,J 0]) hF zeroValue134 O ?_;rintro b2 w hb2 hF -;refine Qb (Ja (v:=.agg (List.toArray cs)) (Xa (l:=cs) aZ mZ O hl (hF.cellsAll 1 O)) ?_);have hB:BW w0 [] w b2 b2 134 [.bool false,J ((0:Nat):Int)] []:=BW.own ⟨.inr ⟨rfl,_,_,rfl⟩,gQ _,_,_,hF.heap (i:=0) rfl,World.ownsRow_nil _ _ _ _,.inl rfl⟩ (hF.ge (i:=0) rfl) hF.same.size;have nb1:b1≠b2:=XK hF.desc (i:=1) (j:=0) rfl rfl Ta;have hge:=hF.ge (i:=0) rfl;have hF:FR w0 [] [(b1,.cells cs.toArray 25)] w:=hF.drop 1;have hXo:Rep (λb=>b∉Wk w b2 b2) w (Hb x) cs:=(rx.old.same hF.same La).weaken λb hb _ hm=>by have h1:=hb.2;rcases Vf.1 hm with rfl|⟨-,h2,-⟩ <;> omega
 refine Ya (VX x false 0 0 _ b2 b2 [] cs hB.bd (hG.ext hF.same) (by have:=hG.size;omega) hXo hq (ZM (by simpa using hc0)) Ba (by have:=Ny (x:=x) (by simpa using hc0);omega) (by simpa using hlim (by simpa using hc0))) (Te FJ O O O O) ?_;rintro _ w ⟨rfl,hBd2,hE⟩;have hF:=hF.wrote hB hE (by simp[Fj,nb1]);have hB:=hB.wrote hBd2 hE;clear hBd2 hE;refine Qb (Aa (Ob Gi O) ?_);refine Ya (Z3 hB.bd (by simpa using UV false 0 x 0 (by simpa using hc0))) (Ma BJ O O) ?_;rintro _ w ⟨rfl,hE⟩;have hF:=hF.wrote hB hE (by simp[Fj,nb1]);refine Aa (Rf O) (Aa (Lb O) (Ca ?_));refine Ab (Za (Ka (Vc (v:=I ([]++Tg false 0 x 0)) (x:=J 0) O O O) ?_));exact⟨by rw[if_pos (by simpa using hc0)];rfl,hF.same⟩
end Go.Scarf
