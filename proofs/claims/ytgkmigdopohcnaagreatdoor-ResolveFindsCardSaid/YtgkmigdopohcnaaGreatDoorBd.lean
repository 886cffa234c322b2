/- A part of the proof. -/
import Derived.Lib.AppendStr
import Derived.Lib.Builder
import Derived.Lib.UnsafeStr
import Derived.Lib.RuneBytes
import Derived.Test.YtgkmigdopohcnaaGreatDoorW19
import Derived.Laws.BytesString
import Derived.Lib.TrimU
set_option linter.all false
set_option maxHeartbeats 8000000
set_option maxRecDepth 10000
namespace Go.Scarf
open Go.RowKit Go.Proofs Go.Proofs.Tryz
section
variable {P:Program}{w w' w0:World}{Ds E:List Nat}{bs_:List (Nat × Obj)}
def Fj:Obj->Bool
  | .cells _ e _=>e==5
  | _=>false
def Wr(w:World)(b:Nat):Bool:=match w.heap[b]? with|some o=>Fj o|none=>false
def Wk(w:World)(B pb:Nat):List Nat:=pb::(List.range w.heap.size).filter λb=>decide (B<=b)&&Wr w b
theorem Xf{B pb x:Nat}:x∈Wk w B pb↔x=pb\/(x<w.heap.size/\B<=x/\Wr w x=true):=by simp[Wk]
theorem Js{b:Nat}{o:Obj}(h:w.heap[b]? = some o):Wr w b=Fj o:=by simp[Wr,h]
def Shp(T:Nat)(rest:List Value):Prop:=(T=132/\rest=[])\/(T=134/\∃m i,rest=[.bool m,J i])
theorem Shp.ne{T:Nat}{rest:List Value}(h:Shp T rest):(T==5)=false:=by rcases h with ⟨rfl,-⟩|⟨rfl,-⟩ <;> rfl
structure Bd (w:World) (B pb T:Nat) (rest:List Value) (s:Str):Prop where
  shp:Shp T rest
  le:B<=pb
  ex:∃ap v,w.heap[pb]? = some (.cells (ap::v::rest).toArray T)/\w.ownsRow B 5 1 v s.length (Lib.byteCells s)/\(ap=.pointer none\/ap=V pb)
theorem Bd.lt{B pb T:Nat}{rest:List Value}{s:Str}(h:Bd w B pb T rest s):pb<w.heap.size:=by
  obtain⟨ap,v,hh,-⟩:=h.ex;exact Lb hh
theorem Bd.base{B pb T:Nat}{rest:List Value}{s:Str}(h:Bd w B pb T rest s):B<=w.heap.size:=fQ h.le (Nat.le_of_lt h.lt)
theorem Qm{B n g:Nat}{v:Value}{xs:List Value}(h:w.ownsRow B 5 1 v n xs)(hg:v.ownBlock=some g):g<w.heap.size/\B<=g/\Wr w g=true:=by
  rcases h.2 with ⟨rfl,-⟩|⟨g',cap,cur,rfl,h1,h2,-⟩
  ·cases hg
  cases hg;exact⟨Lb h2,h1,by rw[Js h2];rfl⟩
theorem V7{B n g pb:Nat}{v:Value}{xs:List Value}(h:w.ownsRow B 5 1 v n xs)(hg:v.ownBlock=some g):g∈Wk w B pb:=Xf.2 (.inr (Qm h hg))
theorem Cq{B n g pb:Nat}{v:Value}{xs:List Value}{o:Obj}(h:w.ownsRow B 5 1 v n xs)(hg:v.ownBlock=some g)(hh:w.heap[pb]? = some o)(ho:Fj o=false):g≠pb:=by
  rintro rfl;have h1:=(Qm h hg).2.2;rw[Js hh,ho]at h1;cases h1
theorem Hi{B n:Nat}{v:Value}{xs:List Value}(h:w.ownsRow B 5 1 v n xs)(hs:Same E w w')(he:∀g,v.ownBlock=some g->g∉E):w'.ownsRow B 5 1 v n xs:=by
  refine⟨h.1,?_⟩;rcases h.2 with h2|⟨g,cap,cur,rfl,h1,h2,h3⟩
  ·exact .inl h2
  exact .inr ⟨g,cap,cur,O,h1,(hs.block g (Lb h2) (he g O)).trans h2,h3⟩
theorem Zg{B n:Nat}{v:Value}{xs:List Value}(h:w.ownsRow B 5 1 v n xs):∃A c,v=.slice A n c:=by
  rcases h.2 with ⟨rfl,rfl⟩|⟨g,cap,cur,rfl,-⟩
  ·exact⟨_,_,O⟩
  exact⟨_,_,O⟩
theorem Wk.step{B pb x:Nat}(hs:Same (Wk w B pb) w w')(hx:x∈Wk w' B pb):x∈Wk w B pb\/w.heap.size<=x:=by
  by_cases h:x<w.heap.size
  ·by_cases hm : x ∈ Wk w B pb
   ·exact .inl hm
   rcases Xf.1 hx with rfl|⟨h1, h2, h3⟩
   ·exact .inl (Xf.2 (.inl O))
   refine absurd (Xf.2 (.inr ⟨h, h2, ?_⟩)) hm;rw[Wr,<-hs.block x h hm];exact h3
  exact .inr Ba
theorem FR.grown{g:Option Nat}(h:FR w0 Ds bs_ w)(hg:w.grownBy w' g)(hr:∀b,g=some b->(b<w0.heap.size->b∈Ds)/\∀p∈bs_,p.1≠b):FR w0 Ds bs_ w':=by
  have hs:Same g.toList w w':=⟨hg.os,hg.tape,hg.output,hg.size,λb hb hn=>hg.block b hb (λe=>hn (by simp[<-e]))⟩;exact h.touch hs (λb hb=>hr b (by simpa using hb))
theorem Xm(s t:Str):Lib.byteCells (s++t)=Lib.byteCells s++Lib.byteCells t:=Lib.byteCells_append s t
end
section
variable {P:Program}{w:World}{ρ:Operand->Value}{dst:Option Nat}{ty:TypeId}{pos:String}{aft:Array Edge}{g:Option (Nat × Bool)}
theorem OK{t t' te:Nat}{x y:Operand}(ht:P.underlying t=some (.pointer te))(hx:ρ x=.pointer none)(hy:ρ y=.pointer none) :
    (execOp ρ ⟨dst,.binOp .eql t x y t',ty,pos,aft,g⟩).run P w=.ok (.value (.bool true)) w:=by
  have h:∀d:Nat,(Op.equalIn (d+1) t (.pointer none) (.pointer none)).run P w=.ok true w:=λd=>by
    simp[Op.equalIn,run_underlying ht]
  have hg:(eqGuard .eql t x y (.pointer none) (.pointer none)).run P w=.ok () w:=by unfold eqGuard;split <;> simp
  simp only[execOp,hx,hy,Sem.run_bind,hg,Result.andThen_ok,binOp];simp[Op.equal,Op.maxDepth,h 9999]
theorem NJ{t t' te:Nat}{x y:Operand}{a:Addr}(ht:P.underlying t=some (.pointer te))(hx:ρ x=.pointer (some a))(hy:ρ y=.pointer none) :
    (execOp ρ ⟨dst,.binOp .eql t x y t',ty,pos,aft,g⟩).run P w=.ok (.value (.bool false)) w:=by
  have h:∀d:Nat,(Op.equalIn (d+1) t (.pointer (some a)) (.pointer none)).run P w=.ok false w:=λd=>by
    simp[Op.equalIn,run_underlying ht]
  have hg:(eqGuard .eql t x y (.pointer (some a)) (.pointer none)).run P w=.ok () w:=by unfold eqGuard;split <;> simp
  simp only[execOp,hx,hy,Sem.run_bind,hg,Result.andThen_ok,binOp];simp[Op.equal,Op.maxDepth,h 9999]
theorem KT{t t' te:Nat}{x y:Operand}{a:Addr}{j:TypeInfo}(ht:P.underlying t=some (.pointer te))(hte:P.info? te=some j)(hx:ρ x=.pointer (some a))(hy:ρ y=.pointer (some a)) :
    (execOp ρ ⟨dst,.binOp .neq t x y t',ty,pos,aft,g⟩).run P w=.ok (.value (.bool false)) w:=by
  have h:=Lib.run_neq_ptr_same w a ht hte;have hg:(eqGuard .neq t x y (.pointer (some a)) (.pointer (some a))).run P w=.ok () w:=by unfold eqGuard;split <;> simp
  simp only[execOp,hx,hy,Sem.run_bind,hg,Result.andThen_ok,h,Sem.run_pure]
theorem Zz{t t':Nat}{x:Operand}{v:Value}(hx:ρ x=v)(h:(convert t t' v).run P w=.ok v w):(execOp ρ ⟨dst,.convert t t' x,ty,pos,aft,g⟩).run P w=.ok (.value v) w:=by
  simp[execOp,hx,h]
theorem BV {f:FuncId} {fn:Func} {e:Array Value->Sem Value} {x1:Operand} {ats:Array TypeId} {v1 v:Value} (hf:P.funcs[f]? = some fn) (hname:(fn.name == "runtime.NumGoroutine")=false)
    (hb:fn.body.isNone=true) (hn:Extern.findNext fn=none) (he:Extern.find fn=some e) (h0:ρ (.func f)=.func (.func f) #[] #[]) (h1:ρ x1=v1) (hr:(e #[v1]).run P w=.ok v w) :
    (execOp ρ ⟨dst,.call ⟨.value (.func f),#[x1],ats⟩,ty,pos,aft,g⟩).run P w=.ok (.value v) w:=by
  simp[execOp,resolve,Deferred.ofValue,h0,h1,invoke,run_callFunc_extern hf hname hb hn he,hr]
theorem BZ{x:Operand}{ats:Array TypeId}{a:Addr}{n c:Nat}(hx:ρ x=.slice (some a) n c)(hc:c≠0):(execOp ρ ⟨dst,.call ⟨.builtin .unsafeSliceData,#[x],ats⟩,ty,pos,aft,g⟩).run P w=.ok (.value (.pointer (some a))) w:=by
  simp[execOp,resolve,invoke,builtin,hx,Lib.run_unsafeSliceData_row w ats ty a n c hc]
theorem KP{x y:Operand}{t1 t2:Nat}{u v r:Value}{w':World}(hx:ρ x=u)(hy:ρ y=v)(h:(Builtin.unsafeString_ #[t1,t2] ty #[u,v]).run P w=.ok r w'):(execOp ρ ⟨dst,.call ⟨.builtin .unsafeString,#[x,y],#[t1,t2]⟩,ty,pos,aft,g⟩).run P w=.ok (.value r) w':=by
  simp[execOp,resolve,invoke,builtin,hx,hy,h]
theorem EM{x y:Operand}{t1 t2:TypeId}{u v:Value}{r:Value}{w':World}(hx:ρ x=u)(hy:ρ y=v)(h:(Builtin.append_ #[t1,t2] ty #[u,v]).run P w=.ok r w') :
    (execOp ρ ⟨dst,.call ⟨.builtin .append,#[x,y],#[t1,t2]⟩,ty,pos,aft,g⟩).run P w=.ok (.value r) w':=by
  simp[execOp,resolve,invoke,builtin,hx,hy,h]
end
section
variable {P:Program}{R:Exit->Act->World->Prop}{n:Nat}{kt:Kt}{s:Nat->Value}{w:World}{ops rest:List Oper}
variable {d:Nat}{ty:TypeId}{pos:String}{aft:Array Edge}{g:Option (Nat × Bool)}
variable {w0:World}{Ds:List Nat}{bs_:List (Nat × Obj)}
theorem FS{x y:Operand}{t B len c2 k:Nat}{v:Value}{xs news:List Value}{a:Addr}(hE:Elems P t 5 1 1)
    (hF:FR w0 Ds bs_ w) (hO:w.ownsRow B 5 1 v len xs) (hB:B<=w.heap.size) (hx:ev n s x=v) (hy:ev n s y=.slice (some a) k c2)
    (hl:news.length=k*1) (hnews:∀j u,news[j]? = some u->w.cell? (a.add j)=some u) (h1:∀u∈news,u.oneCell'=true) (hb:len+k<=140737488355328)
    (hr:∀b,v.ownBlock=some b->(b<w0.heap.size->b∈Ds)/\∀p∈bs_,p.1≠b)
    (h:∀v' w',w'.ownsRow B 5 1 v' (len+k) (xs++news)->FR w0 Ds bs_ w'->w.heap.size<=w'.heap.size->Og P R n ops kt rest (Fe s d v') w')
    (hw:Wa ops n s ⟨some d,.call ⟨.builtin .append,#[x,y],#[t,t]⟩,ty,pos,aft,g⟩=true:=by rfl):Og P R n ops kt (⟨some d,.call ⟨.builtin .append,#[x,y],#[t,t]⟩,ty,pos,aft,g⟩::rest) s w:=by
  obtain⟨i,z,hi,hz,h2,h3,h4⟩:=hE.info;obtain⟨v',w',hr',hO',hg,-⟩:=run_append_own (P:=P) w B t ty 5 i z 1 1 hE.ht hi hz h2 h3 h4 Ta v len xs hO a k c2 news hl hnews h1 (by unfold maxLen;omega) Ba hB;exact Ja (Ep hx hy hr') (h v' w' hO' (hF.grown hg hr) hg.size) hw
theorem GR{x y:Operand}{t u B len:Nat}{v:Value}{xs:List Value}{str:Str}(hE:Elems P t 5 1 1)(hz0:(P.info? 5).map (·.zero)=some (some (.int .u8 0)))(hu:P.underlying u=some .string)
    (hF:FR w0 Ds bs_ w) (hO:w.ownsRow B 5 1 v len xs) (hB:B<=w.heap.size) (hx:ev n s x=v) (hy:ev n s y=I str) (hb:len+str.length<=140737488355328)
    (hr:∀b,v.ownBlock=some b->(b<w0.heap.size->b∈Ds)/\∀p∈bs_,p.1≠b)
    (h:∀v' w',w'.ownsRow B 5 1 v' (len+str.length) (xs++Lib.byteCells str)->FR w0 Ds bs_ w'->w.heap.size<=w'.heap.size->Og P R n ops kt rest (Fe s d v') w')
    (hw:Wa ops n s ⟨some d,.call ⟨.builtin .append,#[x,y],#[t,u]⟩,ty,pos,aft,g⟩=true:=by rfl):Og P R n ops kt (⟨some d,.call ⟨.builtin .append,#[x,y],#[t,u]⟩,ty,pos,aft,g⟩::rest) s w:=by
  obtain⟨i,z,hi,hz,h2,h3,h4⟩:=hE.info;rw[hi]at hz0;have hz1:i.zero=some (.int .u8 0):=by simpa using hz0
  have e:(bs str).size=str.length:=Nm str;obtain⟨v',w',hr',hO',hg,-⟩:=Lib.run_append_own_string (P:=P) w B t u ty 5 i hE.ht hu hi hz1 h2 h3 v len xs hO (bs str) (by rw[e];unfold maxLen;omega) (by rw[e];omega) hB;rw[e]at hO';exact Ja (EM hx hy hr') (h v' w' (by simpa[Lib.strCells_eq,Pl,bs]using hO') (hF.grown hg hr) hg.size) hw
end
theorem CU:liesAt prog prog.depth 132 (2/prog.cellsOf 132) 0 132 1=true:=by kernel_rfl
theorem HU:liesAt prog prog.depth 134 (4/prog.cellsOf 134) 0 132 1=true:=by kernel_rfl
theorem Dx:(prog.info? 132).map (·.size)=some 2:=by kernel_rfl
theorem P8(w0:World)(pb:Nat)(v:Value)(hh:w0.heap[pb]? = some (.cells #[.pointer none,v] 132)):Calls prog 176 #[V pb] w0 (Pc λv_ w'=>v_=.tuple #[]/\Same [pb] w0 w'/\w'.heap[pb]? = some (.cells #[V pb,v] 132)):=by
 obtain⟨j,hj,hjs⟩:=Option.map_eq_some_iff.1 Dx;have hne:pb<w0.heap.size:=Lb hh;refine Ea func176 O ntmps176 Db (Rb _) ?_;have hF:FR w0 [pb] [(pb,.cells #[.pointer none,v] 132)] w0:=FR.open_ (by simpa using hh) La;refine Da (Aa (Wf O) (Aa (Ii O) (Aa (Ob Xl O) (Tb (O7 isAgg129 O hF.F 0 O O) (Ja (v:=.bool true) (OK tZ O O) (Ca (Fd O (Ha (Aa (Wf O) (Aa (Wf O) ?_))))))))));refine Ja (v:=V pb) (Zz O (Lib.run_to_unsafe _ ⟨pb,0,none⟩ tZ underlying251 hj (by rw[hjs];decide) (e:=132) (cells:=2) (by simp[World.shape?,hF.heap (i:=0) O]) (Nat.zero_lt_succ _))) ?_;refine Ja (v:=V pb) (BV func210 Ib Ib Ib (e:=Extern.AbiNoEscape.same) Ib O O (Lib.run_noEscape _ _)) (Ja (v:=V pb) (Zz O (Lib.run_from_unsafe _ ⟨pb,0,none⟩ underlying251 tZ hj (e:=132) (cells:=2) (by simp[World.shape?,hF.heap (i:=0) O]) CU)) ?_);refine Aa (Ii O) (Aa (Ob Xl O) ?_);refine Ck (.pointer _) hF sizeOf129 O O Pg Pg ?_;rintro w hF -;refine Ua (Fg (Be (Wi O) ?_));exact⟨O,hF.same,hF.heap (i:=0) O⟩
theorem P9(w0:World)(pb:Nat)(v:Value)(m:Bool)(i:Int)(hh:w0.heap[pb]? = some (.cells #[.pointer none,v,.bool (m),J i] 134)):Calls prog 176 #[V pb] w0 (Pc λv_ w'=>v_=.tuple #[]/\Same [pb] w0 w'/\w'.heap[pb]? = some (.cells #[V pb,v,.bool (m),J i] 134)):=by
 obtain⟨j,hj,hjs⟩:=Option.map_eq_some_iff.1 Dx;have hne:pb<w0.heap.size:=Lb hh;refine Ea func176 O ntmps176 Db (Rb _) ?_;have hF:FR w0 [pb] [(pb,.cells #[.pointer none,v,.bool (m),J i] 134)] w0:=FR.open_ (by simpa using hh) La;refine Da (Aa (Wf O) (Aa (Ii O) (Aa (Ob Xl O) (Tb (O7 isAgg129 O hF.F 0 O O) (Ja (v:=.bool true) (OK tZ O O) (Ca (Fd O (Ha (Aa (Wf O) (Aa (Wf O) ?_))))))))));refine Ja (v:=V pb) (Zz O (Lib.run_to_unsafe _ ⟨pb,0,none⟩ tZ underlying251 hj (by rw[hjs];decide) (e:=134) (cells:=4) (by simp[World.shape?,hF.heap (i:=0) O]) (Nat.zero_lt_succ _))) ?_;refine Ja (v:=V pb) (BV func210 Ib Ib Ib (e:=Extern.AbiNoEscape.same) Ib O O (Lib.run_noEscape _ _)) (Ja (v:=V pb) (Zz O (Lib.run_from_unsafe _ ⟨pb,0,none⟩ underlying251 tZ hj (e:=134) (cells:=4) (by simp[World.shape?,hF.heap (i:=0) O]) HU)) ?_);refine Aa (Ii O) (Aa (Ob Xl O) ?_);refine Ck (.pointer _) hF sizeOf129 O O Pg Pg ?_;rintro w hF -;refine Ua (Fg (Be (Wi O) ?_));exact⟨O,hF.same,hF.heap (i:=0) O⟩
theorem S8(w0:World)(pb:Nat)(v:Value)(hh:w0.heap[pb]? = some (.cells #[V pb,v] 132)):Calls prog 176 #[V pb] w0 (Pc λv_ w'=>v_=.tuple #[]/\Same [pb] w0 w'/\w'.heap[pb]? = some (.cells #[V pb,v] 132)):=by
 obtain⟨j,hj,hjs⟩:=Option.map_eq_some_iff.1 Dx;have hne:pb<w0.heap.size:=Lb hh;refine Ea func176 O ntmps176 Db (Rb _) ?_;have hF:FR w0 [pb] [(pb,.cells #[V pb,v] 132)] w0:=FR.open_ (by simpa using hh) La;refine Da (Aa (Wf O) (Aa (Ii O) (Aa (Ob Xl O) (Tb (O7 isAgg129 O hF.F 0 O O) (Ja (v:=.bool false) (NJ tZ O O) (Ca (We O (Da (Aa (Wf O) (Aa (Ii O) ?_))))))))));refine Aa (Ob Xl O) (Tb (O7 isAgg129 O hF.F 0 O O) (Aa (Wf O) (Ja (v:=.bool false) (KT tZ hj O O) (Ca (We O (Na ?_))))));refine Fg (Be (Wi O) ?_);exact⟨O,hF.same,hF.heap (i:=0) O⟩
theorem X8(w0:World)(pb:Nat)(v:Value)(m:Bool)(i:Int)(hh:w0.heap[pb]? = some (.cells #[V pb,v,.bool (m),J i] 134)):Calls prog 176 #[V pb] w0 (Pc λv_ w'=>v_=.tuple #[]/\Same [pb] w0 w'/\w'.heap[pb]? = some (.cells #[V pb,v,.bool (m),J i] 134)):=by
 obtain⟨j,hj,hjs⟩:=Option.map_eq_some_iff.1 Dx;have hne:pb<w0.heap.size:=Lb hh;refine Ea func176 O ntmps176 Db (Rb _) ?_;have hF:FR w0 [pb] [(pb,.cells #[V pb,v,.bool (m),J i] 134)] w0:=FR.open_ (by simpa using hh) La;refine Da (Aa (Wf O) (Aa (Ii O) (Aa (Ob Xl O) (Tb (O7 isAgg129 O hF.F 0 O O) (Ja (v:=.bool false) (NJ tZ O O) (Ca (We O (Da (Aa (Wf O) (Aa (Ii O) ?_))))))))));refine Aa (Ob Xl O) (Tb (O7 isAgg129 O hF.F 0 O O) (Aa (Wf O) (Ja (v:=.bool false) (KT tZ hj O O) (Ca (We O (Na ?_))))));refine Fg (Be (Wi O) ?_);exact⟨O,hF.same,hF.heap (i:=0) O⟩
theorem Hk{w0:World}{B pb T:Nat}{rest:List Value}{s:Str}(h:Bd w0 B pb T rest s) :
    ∃v, w0.ownsRow B 5 1 v s.length (Lib.byteCells s) /\ (∀g, v.ownBlock = some g -> g ∈ Wk w0 B pb /\ g ≠ pb) /\
      Calls prog 176 #[V pb] w0 (Pc λu w'=>u=.tuple #[]/\Same [pb] w0 w'/\w'.heap[pb]? = some (.cells (V pb::v::rest).toArray T)/\w'.ownsRow B 5 1 v s.length (Lib.byteCells s)):=by
  obtain⟨hs,hle,ap,v,hh,hO,ha⟩:=h;have hne:∀g,v.ownBlock=some g->g≠pb:=λg hg=>Cq hO hg hh (by exact hs.ne);refine⟨v,hO,λg hg=>⟨V7 hO hg,hne g hg⟩,?_⟩;have fin:∀{u:Value}{w':World},(u=.tuple #[]/\Same [pb] w0 w'/\w'.heap[pb]? = some (.cells (V pb::v::rest).toArray T))->(u=.tuple #[]/\Same [pb] w0 w'/\w'.heap[pb]? = some (.cells (V pb::v::rest).toArray T)/\w'.ownsRow B 5 1 v s.length (Lib.byteCells s)) :=
    λ⟨h1,h2,h3⟩=>⟨h1,h2,h3,Hi hO h2 (λg hg=>by simpa using hne g hg)⟩
  rcases hs with ⟨rfl,rfl⟩|⟨rfl,m,i,rfl⟩ <;> rcases ha with rfl|rfl
  ·exact Ij (P8 w0 pb v hh) λ_ _=>fin
  ·exact Ij (S8 w0 pb v hh) λ_ _=>fin
  ·exact Ij (P9 w0 pb v m i hh) λ_ _=>fin
  exact Ij (X8 w0 pb v m i hh) λ_ _=>fin
theorem J7:(prog.info? 5).map (·.zero)=some (some (.int .u8 0)):=by kernel_rfl
theorem FR.addD{w0 w:World}{Ds:List Nat}{bs_:List (Nat × Obj)}{b:Nat}{o:Obj}(h:FR w0 Ds bs_ w)(hh:w.heap[b]? = some o)(hd:w0.heap.size<=b\/b∈Ds)(hn:∀p∈bs_,p.1≠b):FR w0 Ds ((b,o)::bs_) w :=
  ⟨h.same,λp hp=>by
    rcases oQ.1 hp with rfl|hp
    ·exact⟨hh,hd⟩
    exact h.own p hp,List.pairwise_cons.2 ⟨λq hq=>hn q hq,h.desc⟩⟩
def Uf(r:Int):Str:=(Lib.encodeRuneZ r).map λx=>UInt8.ofNat x.toNat
theorem Ah(r:Int):1<=(Uf r).length/\(Uf r).length<=4:=by rw[Uf,rQ];exact Lib.encodeRuneZ_length r
theorem Zh(r:Int):Lib.byteCells (Uf r)=Lib.runeCells r:=by
  rw[Uf,Lib.byteCells,Lib.runeCells,List.map_map];refine List.map_congr_left λx hx=>?_;have:=Lib.encodeRuneZ_byte r x hx;simp only[Function.comp_apply,Value.int.injEq,true_and,UInt8.toNat_ofNat'];omega
theorem Ov{w:World}{B n:Nat}{v:Value}{xs:List Value}{r:Int}(hO:w.ownsRow B 5 1 v n xs)(h0:-2147483648<=r)(h1:r<=2147483647)(hn:n+4<=140737488355328)(hB:B<=w.heap.size) :
    Calls prog 246 #[v,.int .i32 r] w (Pc λv' w'=>w'.ownsRow B 5 1 v' (n+(Uf r).length) (xs++Lib.byteCells (Uf r))/\∃o,(w.alloc o).grownBy w' v.ownBlock):=by
  refine (utf8_AppendRune_plain B v n xs r h0 h1 w hO hn hB).mono λe w' ⟨v',he,h2,h3⟩=>⟨v',he,?_,h3⟩;have e1:(Uf r).length=(Lib.runeCells r).length:=by rw[<-Zh,Lib.byteCells_length]
  rw[e1,Zh];exact h2
def Bv(f:Nat)(args:Array Value)(u:Value)(w0:World)(B pb T:Nat)(rest:List Value)(s:Str):Prop :=
  Calls prog f args w0 (Pc λv w'=>v=u/\Bd w' B pb T rest s/\Same (Wk w0 B pb) w0 w')
theorem MD(w0:World)(B pb:Nat)(s:Str)(hB:Bd w0 B pb 132 [] s)(c:UInt8)(hl:s.length+1<=140737488355328):Bv 178 #[V pb,.int .u8 ((c.toNat:Nat):Int)] .nilIface w0 B pb 132 [] (s++[c]):=by
 unfold Bv;refine Ea func178 O ntmps178 Db (Lc _ _) ?_;obtain⟨v,hO0,hv,hC⟩:=Hk hB;have hle:=hB.le;have hBw:=hB.base;have hlt:=hB.lt;have hws:=gQ w0.heap.size;have hvl:∀g,v.ownBlock=some g->g<w0.heap.size:=λg hg=>(Qm hO0 hg).1;obtain⟨A1,c1,rfl⟩:=Zg hO0;have hF:=FR.start w0 (Wk w0 B pb);refine Da (Aa (Sx) (Qb (Aa (Wf O) ?_)));refine Ya hC (Ma Ky O O) ?_;rintro _ w ⟨rfl,hE,hh,hO⟩;have hws:=fQ hws hE.size;have hBw:=fQ hBw hE.size;have hF:FR w0 (Wk w0 B pb) [(pb,.cells #[V pb,.slice A1 s.length c1] 132)] w:=(hF.touch hE (λb hb=>by obtain rfl:=pQ.1 hb;exact⟨λ_=>Xf.2 (.inl rfl),by simp⟩)).addD hh (.inr (Xf.2 (.inl rfl))) La;clear hE hh;refine Qb (Aa (Wf O) (Aa (Wf O) (Aa (Ii O) (Aa (Ob Ke O) (Tb (Ef tQ O hF.F 0 O O) (Aa (Gb O) ?_))))));refine Ak 1 hF (Eb (cs:=#[.int .u8 ((c.toNat:Nat))]) uZ sizeOf5 zeroValue5 Ta Ta Ib) ?_;intro b1 w hb1 hF hE;have nb1:w0.heap.size<=b1:=by rw[hb1];exact hws
 have hws:=fQ hws hE.size;have hBw:=fQ hBw hE.size;have hO:=Hi hO hE La;refine FS (news:=[.int .u8 ((c.toNat:Nat):Int)]) I_ hF hO hBw rfl rfl rfl (Yc (hF.cellsAll 0 rfl)) (by simp[Value.oneCell']) Ba (λb hb=>⟨λ_=>(hv b hb).1,by have h1:=(hv b hb).2;have h2:=hvl b hb;intro p hp;simp only[oQ,List.not_mem_nil,or_false]at hp;rcases hp with rfl|rfl <;> grind⟩) ?_;clear hF hO;intro v2 w hO hF hsz;have hws:=fQ hws hsz;have hBw:=fQ hBw hsz;have hne2:∀g,v2.ownBlock=some g->g≠pb:=λg hg=>Cq hO hg (hF.heap (i:=1) rfl) rfl;obtain⟨A2,c2,rfl⟩:=Zg hO;clear hsz;refine Aa (Ii O) (Aa (Ob Ke O) ?_);refine Ck (.slice _ _ _) hF sizeOf130 O O Nr Nr ?_;intro w hF hE;have hws:=fQ hws hE.size;have hBw:=fQ hBw hE.size;have hO:=Hi hO hE (λg hg=>by simpa using hne2 g hg);refine Qb (Aa (Sx) (Ca ?_));refine Hc (v:=.nilIface) O O ?_;exact⟨O,⟨.inl ⟨O,O⟩,hle,_,_,hF.heap (i:=1) O,by simpa[Xm,Lib.byteCells,Zh]using hO,.inr O⟩,hF.same⟩
theorem Y4(w0:World)(B pb:Nat)(s:Str)(hB:Bd w0 B pb 132 [] s)(t:Str)(hl:s.length+t.length<=140737488355328):Bv 135 #[V pb,I t] (.tuple #[J ((t.length:Nat):Int),.nilIface]) w0 B pb 132 [] (s++t):=by
 unfold Bv;refine Ea func135 O ntmps135 Db (Lc _ _) ?_;obtain⟨v,hO0,hv,hC⟩:=Hk hB;have hle:=hB.le;have hBw:=hB.base;have hlt:=hB.lt;have hws:=gQ w0.heap.size;have hvl:∀g,v.ownBlock=some g->g<w0.heap.size:=λg hg=>(Qm hO0 hg).1;obtain⟨A1,c1,rfl⟩:=Zg hO0;have hF:=FR.start w0 (Wk w0 B pb);refine Da (Aa (Kb O) (Aa (Sx) (Qb (Aa (Wf O) ?_))));refine Ya hC (Ma Ky O O) ?_;rintro _ w ⟨rfl,hE,hh,hO⟩;have hws:=fQ hws hE.size;have hBw:=fQ hBw hE.size;have hF:FR w0 (Wk w0 B pb) [(pb,.cells #[V pb,.slice A1 s.length c1] 132)] w:=(hF.touch hE (λb hb=>by obtain rfl:=pQ.1 hb;exact⟨λ_=>Xf.2 (.inl rfl),by simp⟩)).addD hh (.inr (Xf.2 (.inl rfl))) La;clear hE hh;refine Qb (Aa (Wf O) (Aa (Wf O) (Aa (Ii O) (Aa (Ob Ke O) (Tb (Ef tQ O hF.F 0 O O) (Aa (Md O) ?_))))));refine GR (str:=t) I_ J7 iX hF hO hBw rfl rfl Ba (λb hb=>⟨λ_=>(hv b hb).1,by have h1:=(hv b hb).2;have h2:=hvl b hb;intro p hp;simp only[oQ,List.not_mem_nil,or_false]at hp;rcases hp with rfl <;> grind⟩) ?_;clear hF hO;intro v2 w hO hF hsz;have hws:=fQ hws hsz;have hBw:=fQ hBw hsz;have hne2:∀g,v2.ownBlock=some g->g≠pb:=λg hg=>Cq hO hg (hF.heap (i:=0) rfl) rfl;obtain⟨A2,c2,rfl⟩:=Zg hO;clear hsz;refine Aa (Ii O) (Aa (Ob Ke O) ?_);refine Ck (.slice _ _ _) hF sizeOf130 O O Pg Nr ?_;intro w hF hE;have hws:=fQ hws hE.size;have hBw:=fQ hBw hE.size;have hO:=Hi hO hE (λg hg=>by simpa using hne2 g hg);refine Qb (Aa (Md O) (Aa (Qr iX O) (Aa (Kb O) (Aa (Sx) (Ca ?_)))));refine Ab (Za (Ka (Vc (v:=J ((((t):Str).length:Int))) (x:=.nilIface) O O O) ?_));exact⟨O,⟨.inl ⟨O,O⟩,hle,_,_,hF.heap (i:=0) O,by simpa[Xm,Lib.byteCells,Zh]using hO,.inr O⟩,hF.same⟩
theorem AE(w0:World)(B pb:Nat)(s:Str)(hB:Bd w0 B pb 132 [] s)(r:Int)(hr0:-2147483648<=r)(hr1:r<=2147483647)(hl:s.length+4<=140737488355328):Bv 212 #[V pb,.int .i32 r] (.tuple #[J (((Uf r).length:Nat):Int),.nilIface]) w0 B pb 132 [] (s++Uf r):=by
 unfold Bv;have hrl:=Ah r;refine Ea func212 O ntmps212 Db (Lc _ _) ?_;obtain⟨v,hO0,hv,hC⟩:=Hk hB;have hle:=hB.le;have hBw:=hB.base;have hlt:=hB.lt;have hws:=gQ w0.heap.size;have hvl:∀g,v.ownBlock=some g->g<w0.heap.size:=λg hg=>(Qm hO0 hg).1;obtain⟨A1,c1,rfl⟩:=Zg hO0;have hF:=FR.start w0 (Wk w0 B pb);refine Da (Aa (Kb O) (Aa (Sx) (Qb (Aa (Wf O) ?_))));refine Ya hC (Ma Ky O O) ?_;rintro _ w ⟨rfl,hE,hh,hO⟩;have hws:=fQ hws hE.size;have hBw:=fQ hBw hE.size;have hF:FR w0 (Wk w0 B pb) [(pb,.cells #[V pb,.slice A1 s.length c1] 132)] w:=(hF.touch hE (λb hb=>by obtain rfl:=pQ.1 hb;exact⟨λ_=>Xf.2 (.inl rfl),by simp⟩)).addD hh (.inr (Xf.2 (.inl rfl))) La;clear hE hh;refine Qb (Aa (Wf O) (Aa (Ii O) (Aa (Ob Ke O) (Tb (Ef tQ O hF.F 0 O O) (Aa (Ug uZ O) (Aa (Kb O) (Qb ?_)))))));refine Aa (Wf O) (Aa (Wf O) (Aa (Ii O) (Aa (Ob Ke O) (Tb (Ef tQ O hF.F 0 O O) (Aa (Gb O) ?_)))));refine Ya (Ov hO hr0 hr1 Ba hBw) (Ra XP O O O) ?_;rintro v2 w2 ⟨hO2,o,hg⟩;have hF:=(hF.ext (Same.alloc _ o)).grown hg (λb hb=>⟨λ_=>(hv b hb).1,by have h1:=(hv b hb).2;have h2:=hvl b hb;intro p hp;simp only[oQ,List.not_mem_nil,or_false]at hp;rcases hp with rfl <;> grind⟩);have hsz:=fQ (Same.alloc _ o).size hg.size;clear hO hg;revert hsz hF hO2;generalize w2=w;intro hO hF hsz;have hws:=fQ hws hsz;have hBw:=fQ hBw hsz;have hne2:∀g,v2.ownBlock=some g->g≠pb:=λg hg=>Cq hO hg (hF.heap (i:=0) rfl) rfl;obtain⟨A2,c2,rfl⟩:=Zg hO;clear hsz;refine Aa (Ii O) (Aa (Ob Ke O) ?_);refine Ck (.slice _ _ _) hF sizeOf130 O O Pg Nr ?_;intro w hF hE;have hws:=fQ hws hE.size;have hBw:=fQ hBw hE.size;have hO:=Hi hO hE (λg hg=>by simpa using hne2 g hg);refine Qb (Aa (Wf O) (Aa (Ii O) (Aa (Ob Ke O) (Tb (Ef tQ O hF.F 0 O O) (Aa (Ug uZ O) (Aa (Gb O) (Aa (TV (((Uf r).length:Nat)) O O) (Aa (Kb O) (Aa (Sx) (Ua ?_))))))))))
 refine Ga (Ab (Za (Ka (Vc (v:=J (((Uf r).length:Nat))) (x:=.nilIface) O O O) ?_)));exact⟨O,⟨.inl ⟨O,O⟩,hle,_,_,hF.heap (i:=0) O,by simpa[Xm,Lib.byteCells,Zh]using hO,.inr O⟩,hF.same⟩
theorem YD(w0:World)(B pb:Nat)(m:Bool)(i:Int)(s:Str)(hB:Bd w0 B pb 134 [.bool (m),J i] s)(c:UInt8)(hl:s.length+1<=140737488355328):Bv 178 #[V pb,.int .u8 ((c.toNat:Nat):Int)] .nilIface w0 B pb 134 [.bool (m),J i] (s++[c]):=by
 unfold Bv;refine Ea func178 O ntmps178 Db (Lc _ _) ?_;obtain⟨v,hO0,hv,hC⟩:=Hk hB;have hle:=hB.le;have hBw:=hB.base;have hlt:=hB.lt;have hws:=gQ w0.heap.size;have hvl:∀g,v.ownBlock=some g->g<w0.heap.size:=λg hg=>(Qm hO0 hg).1;obtain⟨A1,c1,rfl⟩:=Zg hO0;have hF:=FR.start w0 (Wk w0 B pb);refine Da (Aa (Sx) (Qb (Aa (Wf O) ?_)));refine Ya hC (Ma Ky O O) ?_;rintro _ w ⟨rfl,hE,hh,hO⟩;have hws:=fQ hws hE.size;have hBw:=fQ hBw hE.size;have hF:FR w0 (Wk w0 B pb) [(pb,.cells #[V pb,.slice A1 s.length c1,.bool (m),J i] 134)] w:=(hF.touch hE (λb hb=>by obtain rfl:=pQ.1 hb;exact⟨λ_=>Xf.2 (.inl rfl),by simp⟩)).addD hh (.inr (Xf.2 (.inl rfl))) La;clear hE hh;refine Qb (Aa (Wf O) (Aa (Wf O) (Aa (Ii O) (Aa (Ob Ke O) (Tb (Ef tQ O hF.F 0 O O) (Aa (Gb O) ?_))))));refine Ak 1 hF (Eb (cs:=#[.int .u8 ((c.toNat:Nat))]) uZ sizeOf5 zeroValue5 Ta Ta Ib) ?_;intro b1 w hb1 hF hE;have nb1:w0.heap.size<=b1:=by rw[hb1];exact hws
 have hws:=fQ hws hE.size;have hBw:=fQ hBw hE.size;have hO:=Hi hO hE La;refine FS (news:=[.int .u8 ((c.toNat:Nat):Int)]) I_ hF hO hBw rfl rfl rfl (Yc (hF.cellsAll 0 rfl)) (by simp[Value.oneCell']) Ba (λb hb=>⟨λ_=>(hv b hb).1,by have h1:=(hv b hb).2;have h2:=hvl b hb;intro p hp;simp only[oQ,List.not_mem_nil,or_false]at hp;rcases hp with rfl|rfl <;> grind⟩) ?_;clear hF hO;intro v2 w hO hF hsz;have hws:=fQ hws hsz;have hBw:=fQ hBw hsz;have hne2:∀g,v2.ownBlock=some g->g≠pb:=λg hg=>Cq hO hg (hF.heap (i:=1) rfl) rfl;obtain⟨A2,c2,rfl⟩:=Zg hO;clear hsz;refine Aa (Ii O) (Aa (Ob Ke O) ?_);refine Ck (.slice _ _ _) hF sizeOf130 O O Nr Nr ?_;intro w hF hE;have hws:=fQ hws hE.size;have hBw:=fQ hBw hE.size;have hO:=Hi hO hE (λg hg=>by simpa using hne2 g hg);refine Qb (Aa (Sx) (Ca ?_));refine Hc (v:=.nilIface) O O ?_;exact⟨O,⟨.inr ⟨O,m,i,O⟩,hle,_,_,hF.heap (i:=1) O,by simpa[Xm,Lib.byteCells,Zh]using hO,.inr O⟩,hF.same⟩
theorem W4(w0:World)(B pb:Nat)(m:Bool)(i:Int)(s:Str)(hB:Bd w0 B pb 134 [.bool (m),J i] s)(t:Str)(hl:s.length+t.length<=140737488355328):Bv 135 #[V pb,I t] (.tuple #[J ((t.length:Nat):Int),.nilIface]) w0 B pb 134 [.bool (m),J i] (s++t):=by
 unfold Bv;refine Ea func135 O ntmps135 Db (Lc _ _) ?_;obtain⟨v,hO0,hv,hC⟩:=Hk hB;have hle:=hB.le;have hBw:=hB.base;have hlt:=hB.lt;have hws:=gQ w0.heap.size;have hvl:∀g,v.ownBlock=some g->g<w0.heap.size:=λg hg=>(Qm hO0 hg).1;obtain⟨A1,c1,rfl⟩:=Zg hO0;have hF:=FR.start w0 (Wk w0 B pb);refine Da (Aa (Kb O) (Aa (Sx) (Qb (Aa (Wf O) ?_))));refine Ya hC (Ma Ky O O) ?_;rintro _ w ⟨rfl,hE,hh,hO⟩;have hws:=fQ hws hE.size;have hBw:=fQ hBw hE.size;have hF:FR w0 (Wk w0 B pb) [(pb,.cells #[V pb,.slice A1 s.length c1,.bool (m),J i] 134)] w:=(hF.touch hE (λb hb=>by obtain rfl:=pQ.1 hb;exact⟨λ_=>Xf.2 (.inl rfl),by simp⟩)).addD hh (.inr (Xf.2 (.inl rfl))) La;clear hE hh;refine Qb (Aa (Wf O) (Aa (Wf O) (Aa (Ii O) (Aa (Ob Ke O) (Tb (Ef tQ O hF.F 0 O O) (Aa (Md O) ?_))))));refine GR (str:=t) I_ J7 iX hF hO hBw rfl rfl Ba (λb hb=>⟨λ_=>(hv b hb).1,by have h1:=(hv b hb).2;have h2:=hvl b hb;intro p hp;simp only[oQ,List.not_mem_nil,or_false]at hp;rcases hp with rfl <;> grind⟩) ?_;clear hF hO;intro v2 w hO hF hsz;have hws:=fQ hws hsz;have hBw:=fQ hBw hsz;have hne2:∀g,v2.ownBlock=some g->g≠pb:=λg hg=>Cq hO hg (hF.heap (i:=0) rfl) rfl;obtain⟨A2,c2,rfl⟩:=Zg hO;clear hsz;refine Aa (Ii O) (Aa (Ob Ke O) ?_);refine Ck (.slice _ _ _) hF sizeOf130 O O Pg Nr ?_;intro w hF hE;have hws:=fQ hws hE.size;have hBw:=fQ hBw hE.size;have hO:=Hi hO hE (λg hg=>by simpa using hne2 g hg);refine Qb (Aa (Md O) (Aa (Qr iX O) (Aa (Kb O) (Aa (Sx) (Ca ?_)))));refine Ab (Za (Ka (Vc (v:=J ((((t):Str).length:Int))) (x:=.nilIface) O O O) ?_));exact⟨O,⟨.inr ⟨O,m,i,O⟩,hle,_,_,hF.heap (i:=0) O,by simpa[Xm,Lib.byteCells,Zh]using hO,.inr O⟩,hF.same⟩
theorem BD(w0:World)(B pb:Nat)(m:Bool)(i:Int)(s:Str)(hB:Bd w0 B pb 134 [.bool (m),J i] s)(r:Int)(hr0:-2147483648<=r)(hr1:r<=2147483647)(hl:s.length+4<=140737488355328):Bv 212 #[V pb,.int .i32 r] (.tuple #[J (((Uf r).length:Nat):Int),.nilIface]) w0 B pb 134 [.bool (m),J i] (s++Uf r):=by
 unfold Bv;have hrl:=Ah r;refine Ea func212 O ntmps212 Db (Lc _ _) ?_;obtain⟨v,hO0,hv,hC⟩:=Hk hB;have hle:=hB.le;have hBw:=hB.base;have hlt:=hB.lt;have hws:=gQ w0.heap.size;have hvl:∀g,v.ownBlock=some g->g<w0.heap.size:=λg hg=>(Qm hO0 hg).1;obtain⟨A1,c1,rfl⟩:=Zg hO0;have hF:=FR.start w0 (Wk w0 B pb);refine Da (Aa (Kb O) (Aa (Sx) (Qb (Aa (Wf O) ?_))));refine Ya hC (Ma Ky O O) ?_;rintro _ w ⟨rfl,hE,hh,hO⟩;have hws:=fQ hws hE.size;have hBw:=fQ hBw hE.size;have hF:FR w0 (Wk w0 B pb) [(pb,.cells #[V pb,.slice A1 s.length c1,.bool (m),J i] 134)] w:=(hF.touch hE (λb hb=>by obtain rfl:=pQ.1 hb;exact⟨λ_=>Xf.2 (.inl rfl),by simp⟩)).addD hh (.inr (Xf.2 (.inl rfl))) La;clear hE hh;refine Qb (Aa (Wf O) (Aa (Ii O) (Aa (Ob Ke O) (Tb (Ef tQ O hF.F 0 O O) (Aa (Ug uZ O) (Aa (Kb O) (Qb ?_)))))));refine Aa (Wf O) (Aa (Wf O) (Aa (Ii O) (Aa (Ob Ke O) (Tb (Ef tQ O hF.F 0 O O) (Aa (Gb O) ?_)))));refine Ya (Ov hO hr0 hr1 Ba hBw) (Ra XP O O O) ?_;rintro v2 w2 ⟨hO2,o,hg⟩;have hF:=(hF.ext (Same.alloc _ o)).grown hg (λb hb=>⟨λ_=>(hv b hb).1,by have h1:=(hv b hb).2;have h2:=hvl b hb;intro p hp;simp only[oQ,List.not_mem_nil,or_false]at hp;rcases hp with rfl <;> grind⟩);have hsz:=fQ (Same.alloc _ o).size hg.size;clear hO hg;revert hsz hF hO2;generalize w2=w;intro hO hF hsz;have hws:=fQ hws hsz;have hBw:=fQ hBw hsz;have hne2:∀g,v2.ownBlock=some g->g≠pb:=λg hg=>Cq hO hg (hF.heap (i:=0) rfl) rfl;obtain⟨A2,c2,rfl⟩:=Zg hO;clear hsz;refine Aa (Ii O) (Aa (Ob Ke O) ?_);refine Ck (.slice _ _ _) hF sizeOf130 O O Pg Nr ?_;intro w hF hE;have hws:=fQ hws hE.size;have hBw:=fQ hBw hE.size;have hO:=Hi hO hE (λg hg=>by simpa using hne2 g hg);refine Qb (Aa (Wf O) (Aa (Ii O) (Aa (Ob Ke O) (Tb (Ef tQ O hF.F 0 O O) (Aa (Ug uZ O) (Aa (Gb O) (Aa (TV (((Uf r).length:Nat)) O O) (Aa (Kb O) (Aa (Sx) (Ua ?_))))))))))
 refine Ga (Ab (Za (Ka (Vc (v:=J (((Uf r).length:Nat))) (x:=.nilIface) O O O) ?_)));exact⟨O,⟨.inr ⟨O,m,i,O⟩,hle,_,_,hF.heap (i:=0) O,by simpa[Xm,Lib.byteCells,Zh]using hO,.inr O⟩,hF.same⟩
theorem R0:prog.cellsOf 5=1:=by kernel_rfl
theorem Same.freeze(w:World)(a:Addr)(n:Nat):Same [a.block] w (w.freeze a n):=by
  have h:=Lib.below_freeze (B:=a.block) (Below.refl a.block w) (p:=a) (gQ _) n;refine⟨h.os,h.tape,h.output,h.size,λb hb hn=>?_⟩;have hn':b≠a.block:=by simpa using hn
  unfold World.freeze;split
  ·rfl
  simp[Array.getElem?_modify,hn'.symm]
theorem DT(w0:World)(B pb:Nat)(s:Str)(hB:Bd w0 B pb 132 [] s)(h0:s≠[]):Calls prog 91 #[V pb] w0 (Pc λv w'=>v=I s/\Same (Wk w0 B pb) w0 w'):=by
  refine Ea func91 O ntmps91 Db (Rb _) ?_;obtain⟨-,hle,ap,v,hh,hO,-⟩:=hB;have hsl:s.length≠0:=by simpa using h0
  obtain⟨g,c1,cur,rfl,hbg,hg,hnc,hcm,hcs,htake⟩:∃g cap cur,v=W g s.length cap/\B<=g/\w0.heap[g]? = some (.cells cur 5 (0,0))/\s.length<=cap/\cap<=maxLen/\cur.size=cap*1/\cur.toList.take (s.length*1)=Lib.byteCells s:=by
    rcases hO.2 with ⟨_,hz⟩|⟨g,cap,cur,hv,r⟩
    ·exact absurd hz hsl
    exact⟨g,cap,cur,hv,r⟩
  have hgm:g∈Wk w0 B pb:=V7 hO rfl;have hgn:g≠pb:=Cq hO rfl hh (by rfl);have hF:FR w0 (Wk w0 B pb) [(pb,.cells #[ap,W g s.length c1] 132)] w0:=(FR.start w0 (Wk w0 B pb)).addD hh (.inr (Xf.2 (.inl rfl))) La;refine Fa (Ha ?_);refine Aa (Rf O) (Ua ?_);refine Ga (Fa ?_);refine Kd (.of []) (bQ [0,1,2,3,5,6,7,8,9] (.act 4 (.act 10 (.free 11 .nil)))) hF ?_;intro w hF hE;have hg:=(hE.block g (Lb hg) La).trans hg;have hO:=Hi hO hE La;refine⟨λwq=>FR w0 (Wk w0 B pb) _ wq,hF,?_⟩;refine Fb O (Wf O) (Fb O (Ii O) ?_);refine Fb O (Ob Ke O) (Sf O (Ef tQ O C0 0 O O) ?_);refine Fb O (Wf O) (Fb O (Ii O) ?_);refine Fb O (Ob Ke O) (Sf O (Ef tQ O C0 0 O O) ?_);refine Fb O (Ug uZ O) (Vt O (BZ O Ba) hF ?_);have hu:(Builtin.unsafeString_ #[184,3] 9 #[V g,J s.length]).run prog w=.ok (I s) (w.freeze ⟨g,0,none⟩ s.length):=Lib.run_unsafeString_row w 184 3 9 5 underlying184 R0 g cur.size (by simp[World.shape?,hg]) s h0 Ba (by simp only[maxLen]at hcm;omega) (λj x hx=>hO.cells (g:=g) rfl j (.int .u8 x.toNat) (by simp[Lib.byteCells,hx]));have hEf:FR w0 (Wk w0 B pb) _ (w.freeze ⟨g,0,none⟩ s.length):=hF.touch (Same.freeze w ⟨g,0,none⟩ s.length) (λb hb=>by obtain rfl:=pQ.1 hb;exact⟨λ_=>hgm,by simpa using hgn.symm⟩);refine Vt O (KP O O hu) hEf ?_;have hF:=hEf;refine Fb O (Rf O) (Ac ?_);refine Ga (Hc (v:=I s) O O ?_);exact⟨O,hF.same⟩
theorem JV(w0:World)(B pb:Nat)(m:Bool)(i:Int)(s:Str)(hB:Bd w0 B pb 134 [.bool (m),J i] s)(h0:s≠[]):Calls prog 91 #[V pb] w0 (Pc λv w'=>v=I s/\Same (Wk w0 B pb) w0 w'):=by
  refine Ea func91 O ntmps91 Db (Rb _) ?_;obtain⟨-,hle,ap,v,hh,hO,-⟩:=hB;have hsl:s.length≠0:=by simpa using h0
  obtain⟨g,c1,cur,rfl,hbg,hg,hnc,hcm,hcs,htake⟩:∃g cap cur,v=W g s.length cap/\B<=g/\w0.heap[g]? = some (.cells cur 5 (0,0))/\s.length<=cap/\cap<=maxLen/\cur.size=cap*1/\cur.toList.take (s.length*1)=Lib.byteCells s:=by
    rcases hO.2 with ⟨_,hz⟩|⟨g,cap,cur,hv,r⟩
    ·exact absurd hz hsl
    exact⟨g,cap,cur,hv,r⟩
  have hgm:g∈Wk w0 B pb:=V7 hO rfl;have hgn:g≠pb:=Cq hO rfl hh (by rfl);have hF:FR w0 (Wk w0 B pb) [(pb,.cells #[ap,W g s.length c1,.bool (m),J i] 134)] w0:=(FR.start w0 (Wk w0 B pb)).addD hh (.inr (Xf.2 (.inl rfl))) La;refine Fa (Ha ?_);refine Aa (Rf O) (Ua ?_);refine Ga (Fa ?_);refine Kd (.of []) (bQ [0,1,2,3,5,6,7,8,9] (.act 4 (.act 10 (.free 11 .nil)))) hF ?_;intro w hF hE;have hg:=(hE.block g (Lb hg) La).trans hg;have hO:=Hi hO hE La;refine⟨λwq=>FR w0 (Wk w0 B pb) _ wq,hF,?_⟩;refine Fb O (Wf O) (Fb O (Ii O) ?_);refine Fb O (Ob Ke O) (Sf O (Ef tQ O C0 0 O O) ?_);refine Fb O (Wf O) (Fb O (Ii O) ?_);refine Fb O (Ob Ke O) (Sf O (Ef tQ O C0 0 O O) ?_);refine Fb O (Ug uZ O) (Vt O (BZ O Ba) hF ?_);have hu:(Builtin.unsafeString_ #[184,3] 9 #[V g,J s.length]).run prog w=.ok (I s) (w.freeze ⟨g,0,none⟩ s.length):=Lib.run_unsafeString_row w 184 3 9 5 underlying184 R0 g cur.size (by simp[World.shape?,hg]) s h0 Ba (by simp only[maxLen]at hcm;omega) (λj x hx=>hO.cells (g:=g) rfl j (.int .u8 x.toNat) (by simp[Lib.byteCells,hx]));have hEf:FR w0 (Wk w0 B pb) _ (w.freeze ⟨g,0,none⟩ s.length):=hF.touch (Same.freeze w ⟨g,0,none⟩ s.length) (λb hb=>by obtain rfl:=pQ.1 hb;exact⟨λ_=>hgm,by simpa using hgn.symm⟩);refine Vt O (KP O O hu) hEf ?_;have hF:=hEf;refine Fb O (Rf O) (Ac ?_);refine Ga (Hc (v:=I s) O O ?_);exact⟨O,hF.same⟩
theorem Ho{w0:World}{B pb T:Nat}{rest:List Value}{s:Str}(hB:Bd w0 B pb T rest s)(c:UInt8)(hl:s.length+1<=140737488355328):Bv 178 #[V pb,.int .u8 ((c.toNat:Nat):Int)] .nilIface w0 B pb T rest (s++[c]):=by
  rcases hB.shp with ⟨rfl,rfl⟩|⟨rfl,m,i,rfl⟩
  ·exact MD w0 B pb s hB c hl
  exact YD w0 B pb m i s hB c hl
theorem Nj{w0:World}{B pb T:Nat}{rest:List Value}{s:Str}(hB:Bd w0 B pb T rest s)(t:Str)(hl:s.length+t.length<=140737488355328):Bv 135 #[V pb,I t] (.tuple #[J ((t.length:Nat):Int),.nilIface]) w0 B pb T rest (s++t):=by
  rcases hB.shp with ⟨rfl,rfl⟩|⟨rfl,m,i,rfl⟩
  ·exact Y4 w0 B pb s hB t hl
  exact W4 w0 B pb m i s hB t hl
theorem Ny{w0:World}{B pb T:Nat}{rest:List Value}{s:Str}(hB:Bd w0 B pb T rest s)(r:Int)(h0:-2147483648<=r)(h1:r<=2147483647)(hl:s.length+4<=140737488355328):Bv 212 #[V pb,.int .i32 r] (.tuple #[J (((Uf r).length:Nat):Int),.nilIface]) w0 B pb T rest (s++Uf r):=by
  rcases hB.shp with ⟨rfl,rfl⟩|⟨rfl,m,i,rfl⟩
  ·exact AE w0 B pb s hB r h0 h1 hl
  exact BD w0 B pb m i s hB r h0 h1 hl
theorem E4{w0:World}{B pb T:Nat}{rest:List Value}{s:Str}(hB:Bd w0 B pb T rest s)(h0:s≠[]):Calls prog 91 #[V pb] w0 (Pc λv w'=>v=I s/\Same (Wk w0 B pb) w0 w'):=by
  rcases hB.shp with ⟨rfl,rfl⟩|⟨rfl,m,i,rfl⟩
  ·exact DT w0 B pb s hB h0
  exact JV w0 B pb m i s hB h0
structure BW (w0:World) (Ds:List Nat) (w:World) (B pb T:Nat) (rest:List Value) (s:Str):Prop where
  bd:Bd w B pb T rest s
  sub:∀x∈Wk w B pb,x<w0.heap.size->x∈Ds
  ge:w0.heap.size<=w.heap.size
section
variable {w0 w w':World}{Ds E:List Nat}{bs_:List (Nat × Obj)}{B pb T:Nat}{rest:List Value}{s t:Str}
theorem BW.start(h:Bd w0 B pb T rest s):BW w0 (Wk w0 B pb) w0 B pb T rest s:=⟨h,λx hx _=>hx,gQ _⟩
theorem BW.own(h:Bd w B pb T rest s)(hb:w0.heap.size<=B)(hg:w0.heap.size<=w.heap.size):BW w0 Ds w B pb T rest s :=
  ⟨h,λx hx hl=>by
    have:=h.le;rcases Xf.1 hx with rfl|⟨-,h2,-⟩ <;> omega,hg⟩
theorem BW.lt(h:BW w0 Ds w B pb T rest s):pb<w.heap.size:=h.bd.lt
theorem BW.wrote(h:BW w0 Ds w B pb T rest s)(hb:Bd w' B pb T rest t)(hs:Same (Wk w B pb) w w'):BW w0 Ds w' B pb T rest t :=
  ⟨hb,λx hx hl=>by
    rcases Wk.step hs hx with h1|h1
    ·exact h.sub x h1 hl
    have:=h.ge;omega,fQ h.ge hs.size⟩
theorem FR.wrote(hF:FR w0 Ds bs_ w)(h:BW w0 Ds w B pb T rest s)(hs:Same (Wk w B pb) w w')(hb:∀p∈bs_,Fj p.2=false/\p.1≠pb):FR w0 Ds bs_ w' :=
  hF.touch hs λx hx=>⟨h.sub x hx,λp hp e=>by
    have h1:=hb p hp;rcases Xf.1 hx with h2|⟨-,-,h3⟩
    ·exact h1.2 (e.trans h2)
    rw[<-e,Js (hF.memHeap hp),h1.1]at h3;cases h3⟩
theorem Bd.same(h:Bd w B pb T rest s)(hs:Same E w w')(hp:pb∉E)(he:∀x∈E,Wr w x=false):Bd w' B pb T rest s:=by
  obtain⟨h1,h2,ap,v,h3,h4,h5⟩:=h;refine⟨h1,h2,ap,v,(hs.block pb (Lb h3) hp).trans h3,Hi h4 hs (λg hg hm=>?_),h5⟩;have:=(Qm h4 hg).2.2;rw[he g hm]at this;cases this
theorem Bd.ext(h:Bd w B pb T rest s)(hs:Same [] w w'):Bd w' B pb T rest s:=h.same hs La La
theorem BW.step(h:BW w0 Ds w B pb T rest s)(hs:Same E w w')(hp:pb∉E)(he:∀x∈E,Wr w x=false)(he':∀x∈E,Wr w' x=false):BW w0 Ds w' B pb T rest s :=
  ⟨h.bd.same hs hp he,λx hx hl=>by
    refine h.sub x (Xf.2 ?_) hl;have hl2:=Nat.lt_of_lt_of_le hl h.ge;rcases Xf.1 hx with rfl|⟨-,h2,h3⟩
    ·exact .inl O
    refine .inr ⟨hl2, h2, ?_⟩;have hn:x∉E:=λhm=>by rw[he' x hm]at h3;cases h3
    rw[Wr,<-hs.block x hl2 hn];exact h3,fQ h.ge hs.size⟩
theorem BW.ext(h:BW w0 Ds w B pb T rest s)(hs:Same [] w w'):BW w0 Ds w' B pb T rest s:=h.step hs La La La
theorem Rep.off{d:D}{cs:List Value}(h:Rep (λx=>x∉Wk w B pb) w d cs)(hs:Same (Wk w B pb) w w'):Rep (λx=>x∉Wk w' B pb) w' d cs :=
  ((h.old).same hs (λb hb hn=>hn.1 hb)).weaken λx hx _ hm=>by
    rcases Wk.step hs hm with h1|h1
    ·exact hx.1 h1
    have:=hx.2;omega
theorem Rep.off_ext{d:D}{cs:List Value}(h:Rep (λx=>x∉Wk w B pb) w d cs)(hp:pb<w.heap.size)(hs:Same [] w w'):Rep (λx=>x∉Wk w' B pb) w' d cs:=h.off (hs.mono La)
end
section
variable {P:Program}{w:World}{ρ:Operand->Value}{dst:Option Nat}{ty:TypeId}{pos:String}{aft:Array Edge}{g:Option (Nat × Bool)}
theorem MP{t t':TypeId}{x y:Operand}{k:IntKind}{a b c:Int}(hx:ρ x=.int k a)(hy:ρ y=.int k b)(h:bits .and k a b=c) :
    (execOp ρ ⟨dst,.binOp .and t x y t',ty,pos,aft,g⟩).run P w=.ok (.value (.int k c)) w:=by
  simp[execOp,hx,hy,Ee,binOp,intBits_and,h]
theorem CQ{t t':TypeId}{x y:Operand}{k k2:IntKind}{a c:Int}(m:Nat)(hx:ρ x=.int k a)(hy:ρ y=.int k2 m)(hm:m<=k.bits)(h:a.fdiv (2 ^ m)=c) :
    (execOp ρ ⟨dst,.binOp .shr t x y t',ty,pos,aft,g⟩).run P w=.ok (.value (.int k c)) w:=by
  have hg:(eqGuard .shr t x y (.int k a) (.int k2 m)).run P w=.ok () w:=by unfold eqGuard;simp
  have h0:¬((m:Int)<0):=by omega
  simp[execOp,hx,hy,hg,binOp,Op.shift,h0,Nat.min_eq_left hm,h]
theorem Lu{t e N:Nat}{x y:Operand}{kk:IntKind}{b:Nat}(i:Nat)(ht:P.underlying t=some (.array N e))(hs:∀w,(sizeOf e).run P w=.ok 1 w)(hx:ρ x=V b)(hy:ρ y=.int kk (i:Int))(h1:i<N) :
    (execOp ρ ⟨dst,.indexAddr t x y,ty,pos,aft,g⟩).run P w=.ok (.value (.pointer (some ⟨b,i,none⟩))) w:=by
  have h2:(0:Int)<=(i:Int)/\(i:Int)<(N:Int):=by omega
  have e1:(⟨b,0,none⟩:Addr).add i=⟨b,i,none⟩:=by rw[Ff,Nat.zero_add]
  simp[execOp,hx,hy,Instr.indexAt,run_underlying ht,Instr.sureAddr,asIntOf,h2,hs,e1];intro hh;omega
theorem UF{t e N:Nat}{x y:Operand}{kk:IntKind}{b:Nat}(i:Nat)(ht:P.underlying t=some (.array N e))(hs:∀w,(sizeOf e).run P w=.ok 1 w)(hx:ρ x=V b)(hy:ρ y=.int kk (i:Int))(h1:i<N) :
    (execOp ρ ⟨dst,.slice t x (some y) none none,ty,pos,aft,g⟩).run P w=.ok (.value (.slice (some ⟨b,i,none⟩) (N-i) (N-i))) w:=by
  have h0:¬N=i:=by omega
  have e1:(⟨b,0,none⟩:Addr).add i=⟨b,i,none⟩:=by rw[Ff,Nat.zero_add]
  have e2:(0:Int)<=(i:Int)/\(i:Int)<=(N:Int):=by omega
  simp[execOp,hx,hy,Instr.sliceAt,run_underlying ht,Instr.sureAddr,Instr.sliceBounds,run_sliceBound,hs,e1,h0,e2]
theorem MQ{t t' e:Nat}{x:Operand}{a:Addr}{n c:Nat}(s:Str)(ht:P.underlying t=some (.slice e))(he:P.underlying e=some (.int .u8))(hd:P.underlying t'=some .string)(hx:ρ x=.slice (some a) n c)(hn:s.length=n)
    (h:∀j (hj:j<s.length),w.cell? (a.add j)=some (.int .u8 (s[j].toNat:Int))) :
    (execOp ρ ⟨dst,.convert t t' x,ty,pos,aft,g⟩).run P w=.ok (.value (I s)) w:=by
  have hl:=Ro (P:=P) a w ((s.map λu=>(u.toNat:Int)).map (Value.int .u8)) (m:=n) (by simp[hn]) (λj hj=>by simp at hj ⊢;exact h j hj);have hb:=run_bytesToString w a n c (s.map λu=>(u.toNat:Int)) hl;have e1:∀(l:Str)(acc:ByteArray),(l.map λu=>(u.toNat:Int)).foldl (λr n=>r.push (UInt8.ofNat n.toNat)) acc=⟨acc.data++l.toArray⟩:=by
    intro l
    induction l with
    | nil=>intro acc;simp
    | cons u l ih=>intro acc;rw[List.map_cons,List.foldl_cons,ih];simp[ByteArray.push]
  rw[e1]at hb;simp[execOp,hx,run_convert_bytes_string w t t' e _ _ _ ht he hd,hb]
end
def WH:List Value:=List.replicate 65 (.int .u8 0)
def Ow:Str:=[48,49,50,51,52,53,54,55,56,57,97,98,99,100,101,102,103,104,105,106,107,108,109,110,111,112,113,114,115,116,117,118,119,120,121,122]
def dg(k:Nat):UInt8:=Ow.getD k 0
def Jl(r:Nat):Str:=if r<16 then [dg r] else [dg (r/16),dg (r%16)]
theorem Xy{k:Nat}(h:k<Ow.length):Ow[k]=dg k:=by simp[dg,h]
theorem wrap64:∀r<32,IntKind.u64.wrap ((r:Nat):Int)=r:=by decide
theorem and15:∀u<32,bits .and .u64 ((u:Nat):Int) 15=((u%16:Nat):Int):=by decide
theorem tz64_c(w0:World)(hG:Gl w0):Calls prog 256 #[.int .u64 16] w0 (Pc λv w'=>v=J 4/\Same [] w0 w'):=by
 obtain⟨e,fz,hbr⟩:=hG.bru;refine Ea func256 O ntmps256 Db (Rb _) ?_;have hF:=FR.start w0 [];refine Da (Aa (Kb O) (Ca (Fa (Da (Aa (Gb O) (Ja (v:=.bool false) (Yg (Yp O O) Ta) (Ca (We O (Na ?_)))))))));refine Ga (Da (Aa (Gb O) (Aa (Gb O) (Ja (v:=.int .u64 18446744073709551600) (IZ O Ta) (Ja (v:=.int .u64 16) (MP O O Ta) (Ja (v:=.int .u64 4573923408821661840) (IC O O Ta) (Ja (v:=.int .u64 15) (CQ 58 O O Ta Ta) (Ja (v:=.pointer (some (⟨5,15,none⟩))) (Lu 15 underlying297 sizeOf5 O O Ta) ?_))))))));refine Ja (v:=.int .u8 4) (Ed isAgg5 O (by rw[Cc (hF.heap0 hbr)];rfl)) ?_;refine Ja (v:=J 4) (Ze dX zZ O Ta) (Aa (Kb O) (Ca ?_));refine Hc (v:=J 4) O O ?_;exact⟨O,hF.same⟩
theorem tz_c(w0:World)(hG:Gl w0):Calls prog 229 #[.int .u64 16] w0 (Pc λv w'=>v=J 4/\Same [] w0 w'):=by
 refine Ea func229 O ntmps229 Db (Rb _) ?_;have hF:=FR.start w0 [];refine Da (Aa (Kb O) (Ca (Fa (Kz O (Da (Aa (Gb O) ?_))))));refine Oa hF (tz64_c _ (hG.ext hF.same)) (Ma en_256 O O) ?_;intro w hF;refine Aa (Kb O) (Ca ?_);refine Hc (v:=J 4) O O ?_;exact⟨O,hF.same⟩
theorem pow2_c(w0:World):Calls prog 228 #[J 16] w0 (Pc λv w'=>v=.bool true/\Same [] w0 w'):=by
 refine Ea func228 O ntmps228 Db (Rb _) ?_;have hF:=FR.start w0 [];refine Da (Aa (Jb O) (Qb (Aa (Gb O) (Aa (Gb O) (Ja (v:=J 15) (C2 O O Ta) (Ja (v:=J 0) (MP O O Ta) (Ja (v:=.bool true) (Sj (Yp O O) Ta) (Aa (Jb O) (Ua ?_)))))))));refine Ga (Hc (v:=.bool true) O O ?_);exact⟨O,hF.same⟩
theorem M8(w0:World)(hG:Gl w0)(r:Nat)(hr:r<32):Calls prog 190 #[aQ,.int .u64 (r:Int),J 16,.bool false,.bool false] w0 (Pc λv w'=>v=.tuple #[aQ,I (Jl r)]/\Same [] w0 w'):=by
  refine Ea func190 O ntmps190 Db (WF _ _ _ _ _) ?_;have hF:=FR.start w0 [];refine Fa (Ha ?_);refine Aa (Em O) (Aa (Rf O) ?_);refine Ua (Ga ?_);refine Fa (Fa ?_);refine Ha (Aa (Gb O) ?_);refine Ja (v:=.bool false) (Yg (KI O O) Ta) (Aa (Dc O) ?_);refine Aa (Gb O) (Ja (v:=.bool false) (Yg (Yp O O) Ta) ?_);refine Aa (Bc O O) (Aa (Dc O) ?_);refine Aa (Gb O) (Ja (v:=.bool false) (Yg (JS O O) Ta) ?_);refine Aa (Bc O O) (Ua ?_);refine Ga (We O ?_);refine Na (Ga ?_);refine Fa (Ha ?_);refine Jc (cs:=(List.toArray WH)) hF zeroValue264 Ib ?_;intro b1 w hb1 hF hE;refine Ua (Ga ?_);refine Fa (Ha ?_);refine Aa (Kb O) (Ua ?_);refine Ga (Fa ?_);refine Fa (Ha ?_);refine Aa (Dc O) (Ua ?_);refine Ga (We O ?_);refine Na (Ga ?_);refine Fa (Fa ?_);refine Ha (Aa (Gb O) ?_);refine Oa hF (pow2_c _) (Ma en_228 O O) ?_;intro w hF;refine Ua (Ga ?_);refine Fd O (Fa ?_);refine Ha (Aa (Gb O) ?_);refine Ja (v:=.int .u64 16) (Ze zZ underlying161 O Ta) (Oa hF (tz_c _ (hG.ext hF.same)) (Ma en_229 O O) ?_);intro w hF;refine Ja (v:=.int .u64 4) (Ze zZ underlying161 O Ta) (Aa (Kb O) ?_);refine Ua (Ga ?_);refine Fa (Ha ?_);refine Aa (Gb O) (Ja (v:=.int .u64 16) (Ze zZ underlying229 O Ta) ?_);refine Aa (Kb O) (Ua ?_);refine Ga (Fa ?_);refine Ha (Aa (Gb O) ?_);refine Ja (v:=.int .u64 16) (Ze zZ underlying161 O Ta) (Ja (v:=.int .u64 15) (C2 O O Ta) ?_);refine Aa (Kb O) (Ua ?_);refine Ga (Fa ?_);refine Va (Sc (λμ σ w=>∃(u:Nat),∃(i:Nat),∃(cs:List Value),μ=2*u/\((u=r/\i=65/\cs=WH)\/(16<=r/\u=r/16/\i=64/\cs=WH.set 64 (.int .u8 ((dg (r%16)).toNat:Int))))/\AllEq σ [(0,aQ),(1,.int .u64 ((u:Int))),(3,.bool false),(4,.bool false),(10,aQ),(11,I []),(12,V b1),(13,J ((i:Int))),(14,.int .u64 4),(15,.int .u64 16),(16,.int .u64 15)]/\FR w0 [] [(b1,.cells (List.toArray cs) 264)] w) _ ⟨r,65,WH,O,(.inl ⟨O,O,O⟩),⟨O,O,O,O,O,O,O,O,O,O,O,trivial⟩,hF⟩ ?_)
  rintro μ σ w ⟨u,i,cs,rfl,hI,hs,hF⟩;refine Cg.slots hs ?_;clear hs;intro σ;have hcl:cs.length=65:=by rcases hI with ⟨-,-,rfl⟩|⟨-,-,-,rfl⟩ <;> simp[WH]
  have hu32:u<32:=by omega
  refine Fa (Fa ?_);refine Ha (Aa (Gb O) ?_);refine Aa (Gb O) (Aa (E6 O O) ?_);refine Ua (Ga ?_);refine Pb O O (λhc3=>?_) (λhc3=>?_)
  ·
   refine Na (Ga ?_);refine Va (Fa ?_);refine Ha (Aa (Gb O) ?_);refine Aa (TV (((64:Nat):Int)) O O) (Aa (Kb O) ?_);refine Ua (Ga ?_);refine Fa (Ha ?_);refine Aa (Gb O) (Aa (Gb O) ?_);refine Aa (Gb O) (Ja (v:=.int .u64 (((u%16:Nat):Int))) (MP O O (and15 u Ba)) ?_);refine Ja (v:=.int .u8 (((dg (u%16)).toNat:Int))) (by rw[<-Xy (show u%16<Ow.length by show u%16<36;omega)];exact Jf (u%16) iX O O _) ?_;refine Ja (v:=.pointer (some ⟨b1,64,none⟩)) (Lu 64 underlying264 sizeOf5 O O Ta) ?_;refine Ch 0 (l:=[.int .u8 (((dg (u%16)).toNat:Nat):Int)]) (cs':=(List.toArray (cs.set 64 (.int .u8 (((dg (u%16)).toNat:Nat):Int))))) hF sizeOf5 O (v:=.int .u8 (((dg (u%16)).toNat:Nat):Int)) O O Fs O (by simp[hcl] <;> omega) (by simp[putA]) ?_;intro w hF hE;have hF:FR w0 [] [(b1,.cells (List.toArray (cs.set 64 (.int .u8 (((dg (u%16)).toNat:Nat):Int)))) 264)] w:=hF;refine Ua (Ga ?_);refine Ha (Aa (Gb O) ?_);refine Aa (Gb O) ?_;refine Ja (v:=.int .u64 (((u/16:Nat):Int))) (CQ 4 O O Ta (by rw[Int.fdiv_eq_ediv_of_nonneg _ Ta];omega)) ?_;refine Aa (Kb O) (Ua ?_);refine Cb ?_;refine Xb ⟨_,?_,u/16,64,cs.set 64 (.int .u8 (((dg (u%16)).toNat:Nat):Int)),rfl,(.inr (by rcases hI with ⟨rfl,rfl,rfl⟩|⟨h16,rfl,rfl,rfl⟩ <;> first|omega|exact⟨by omega,rfl,rfl,rfl⟩)),⟨rfl,rfl,rfl,rfl,rfl,rfl,rfl,rfl,rfl,rfl,rfl,trivial⟩,hF⟩;omega
  refine Kc (Ec O ?_);refine Ga (Fa ?_);refine Ha (Aa (Gb O) ?_);refine Aa (TV (((i-1:Nat):Int)) O O) (Aa (Kb O) ?_);refine Ua (Ga ?_);refine Ha (Aa (Gb O) ?_);refine Aa (Gb O) ?_;refine Ja (v:=.int .u8 (((dg u).toNat:Int))) (by rw[<-Xy (show u<Ow.length by show u<36;omega)];exact Jf u iX O O _) ?_;refine Ja (v:=.pointer (some ⟨b1,(i-1),none⟩)) (Lu (i-1) underlying264 sizeOf5 O O Ba) ?_;refine Ch 0 (l:=[.int .u8 (((dg (u)).toNat:Nat):Int)]) (cs':=(List.toArray (cs.set (i-1) (.int .u8 (((dg (u)).toNat:Nat):Int))))) hF sizeOf5 O (v:=.int .u8 (((dg (u)).toNat:Nat):Int)) O O Fs O (by simp[hcl] <;> omega) (by simp[putA]) ?_;intro w hF hE;have hF:FR w0 [] [(b1,.cells (List.toArray (cs.set (i-1) (.int .u8 (((dg (u)).toNat:Nat):Int)))) 264)] w:=hF;refine Ua (Ga ?_);refine Fa (Fa ?_);refine Ha (Aa (Dc O) ?_);refine Ua (Ga ?_);refine We O (Na ?_);refine Ga (Fa ?_);refine Fa (Ha ?_);refine Aa (Dc O) (Ua ?_);refine Ga (We O ?_);refine Na (Ga ?_);refine Fa (Ha ?_);refine Aa (Gb O) (Ja (v:=.slice (some ⟨b1,i-1,none⟩) (65-(i-1)) (65-(i-1))) (UF (i-1) underlying264 sizeOf5 O O Ba) ?_);have hfin:(Jl r).length=65-(i-1)/\∀j (hj:j<(Jl r).length),w.cell? ((⟨b1,i-1,none⟩:Addr).add j)=some (.int .u8 ((Jl r)[j].toNat:Int)):=by
    have hh:=hF.heap (i:=0) rfl;rcases hI with ⟨rfl,rfl,rfl⟩|⟨h16,rfl,rfl,rfl⟩
    ·have h1 : Jl u = [dg u] := by rw[Jl, if_pos Ba]
     refine⟨by rw[h1];rfl,λj hj=>?_⟩;have hj0:j=0:=by rw[h1]at hj;simpa using hj
     subst hj0;rw[Ff,Cc hh];simp[h1,WH]
    have h1 : Jl r = [dg (r/16), dg (r%16)] := by rw[Jl, if_neg Ba]
    refine⟨by rw[h1];rfl,λj hj=>?_⟩;have hj2:j=0\/j=1:=by rw[h1]at hj;simp at hj;omega
    rw[Ff,Cc hh];rcases hj2 with rfl|rfl <;> simp[h1,WH]
  refine Ja (v:=I (Jl r)) (MQ (Jl r) uZ dX iX O hfin.1 hfin.2) (Aa (Rf O) ?_);refine Ua (Ga ?_);refine Ab (Za (Ka (Vc (v:=.slice _ _ _) (x:=I (Jl r)) O O O) ?_));exact⟨O,hF.same⟩
theorem HV(w0:World)(hG:Gl w0)(r:Nat)(hr:r<32):Calls prog 157 #[J (r:Int),J 16] w0 (Pc λv w'=>v=I (Jl r)/\Same [] w0 w'):=by
 refine Ea func157 O ntmps157 Db (Lc _ _) ?_;have hF:=FR.start w0 [];refine Da (Aa (Rf O) (Ca (Fa (Da (Aa (Gb O) (Ja (v:=.bool false) (Yg (Yp O O) Ta) (Ca (We O (Na ?_)))))))));refine Ga (Da (Aa (Gb O) (Ja (v:=.int .u64 ((r:Int))) (Ze underlying2 underlying229 O (wrap64 r hr)) (Aa (Gb O) (Aa (Gb O) (Ja (v:=.bool false) (Yg (KI O O) Ba) ?_))))));refine Oa hF (M8 _ (hG.ext hF.same) r hr) (Wz en_190 O O O O O O) ?_;intro w hF;refine Aa (Ri O) (Aa (yxl O O) (Aa (Kx O O) (Aa (Em O) (Aa (Rf O) (Qb (Aa (Md O) (Aa (Rf O) (Ca ?_))))))));refine Hc (v:=I (Jl r)) O O ?_;exact⟨O,hF.same⟩
theorem hex_c(w0:World)(hG:Gl w0)(r:Nat)(hr:r<32):Calls prog 213 #[J (r:Int),J 16] w0 (Pc λv w'=>v=I (Jl r)/\Same [] w0 w'):=by
 refine Ea func213 O ntmps213 Db (Lc _ _) ?_;have hF:=FR.start w0 [];refine Da (Aa (Rf O) (Qb (Aa (Gb O) (Aa (Gb O) ?_))));refine Oa hF (HV _ (hG.ext hF.same) r hr) (Ra en_157 O O O) ?_;intro w hF;refine Aa (Rf O) (Ca ?_);refine Hc (v:=I (Jl r)) O O ?_;exact⟨O,hF.same⟩
def Me(r:Int):Int:=if r=34 then 34 else if r=92 then 92 else if r=8 then 98 else if r=12 then 102 else if r=10 then 110 else if r=13 then 114 else if r=9 then 116 else 0
theorem IR(w0:World)(r:Int):Calls prog 211 #[.int .i32 r] w0 (Pc λv w'=>v=.int .u8 (Me r)/\Same [] w0 w'):=by
 refine Ea func211 O ntmps211 Db (Rb _) ?_;have hF:=FR.start w0 [];refine Da (Aa (Kb O) (Ca (Fa (Da (Aa (Gb O) (Ca (Va (Fa (Fa ?_)))))))));refine Ha (Aa (Yh O O) (Aa (Jb O) (Ca ?_)));refine Pb O O (λhc0=>?_) (λhc0=>?_);refine Na (Ga (Fd O (Da (Aa (Gb O) ?_))));refine Ja (v:=.int .u8 (Me r)) (Ze wZ dX rfl (by rcases (by first|exact .inl (by assumption)|exact .inr (by assumption):r=34\/r=92)with rfl|rfl <;> decide)) ?_;refine Aa (Kb O) (Ca ?_);refine Hc (v:=.int .u8 (Me r)) O O ?_;refine⟨?_,hF.same⟩;simp_all[Me];refine Ha (Aa (Yh O O) (Aa (Jb O) (Ca ?_)));refine Pb O O (λhc1=>?_) (λhc1=>?_);refine Da (Aa (Gb O) ?_);refine Ja (v:=.int .u8 (Me r)) (Ze wZ dX rfl (by rcases (by first|exact .inl (by assumption)|exact .inr (by assumption):r=34\/r=92)with rfl|rfl <;> decide)) ?_;refine Aa (Kb O) (Ca ?_);refine Hc (v:=.int .u8 (Me r)) O O ?_;refine⟨?_,hF.same⟩;simp_all[Me];refine Da (Aa (Yh O O) (Aa (Jb O) (Ca ?_)));refine Pb O O (λhc2=>?_) (λhc2=>?_);refine Da (Aa (Kb O) (Ca ?_));refine Hc (v:=.int .u8 98) O O ?_;refine⟨?_,hF.same⟩;simp_all[Me];refine Da (Aa (Yh O O) (Aa (Jb O) (Ca ?_)));refine Pb O O (λhc3=>?_) (λhc3=>?_);refine Da (Aa (Kb O) (Ca ?_));refine Hc (v:=.int .u8 102) O O ?_;refine⟨?_,hF.same⟩;simp_all[Me];refine Da (Aa (Yh O O) (Aa (Jb O) (Ca ?_)));refine Pb O O (λhc4=>?_) (λhc4=>?_);refine Da (Aa (Kb O) (Ca ?_));refine Hc (v:=.int .u8 110) O O ?_;refine⟨?_,hF.same⟩;simp_all[Me];refine Da (Aa (Yh O O) (Aa (Jb O) (Ca ?_)));refine Pb O O (λhc5=>?_) (λhc5=>?_);refine Da (Aa (Kb O) (Ca ?_));refine Hc (v:=.int .u8 114) O O ?_;refine⟨?_,hF.same⟩;simp_all[Me];refine Da (Aa (Yh O O) (Aa (Jb O) (Ca ?_)));refine Pb O O (λhc6=>?_) (λhc6=>?_);refine Da (Aa (Kb O) (Ca ?_));refine Hc (v:=.int .u8 116) O O ?_;refine⟨?_,hF.same⟩;simp_all[Me]
 refine Na (Cb (Ga (Da (Aa (Kb O) (Ca ?_)))));refine Hc (v:=.int .u8 0) O O ?_;refine⟨?_,hF.same⟩;simp_all[Me]
def Do(r:Nat):Str:=if Me r≠0 then [92,UInt8.ofNat (Me r).toNat] else if 32<=r then Uf r else [92,117]++Lib.repeatL [48] (4-(Jl r).length)++Jl r
def Ez:Nat->Str->Nat->Str
  | 0,_,_=>[]
  | f+1,s,p=>if p<s.length then Do (Utf8.decode (bs s) p).1++Ez f s (p+(Utf8.decode (bs s) p).2) else []
theorem IL:∀(f g:Nat)(s:Str)(p:Nat),s.length-p<=f->s.length-p<=g->Ez f s p=Ez g s p
  | 0,0,_,_,_,_=>rfl
  | 0,g+1,s,p,h,_=>by rw[Ez,Ez,if_neg Ba]
  | f+1,0,s,p,_,h=>by rw[Ez,Ez,if_neg Ba]
  | f + 1, g + 1, s, p, h1, h2 => by
    rw[Ez,Ez];split
    ·have h3 := Vf s p
     rw[IL f g s _ Ba Ba]
    rfl
def Ns(s:Str)(p:Nat):Str:=Ez (s.length-p) s p
theorem Rn{s:Str}{p:Nat}(h:p<s.length):Ns s p=Do (Utf8.decode (bs s) p).1++Ns s (p+(Utf8.decode (bs s) p).2):=by
  have h3:=Vf s p;obtain⟨f,hf⟩:∃f,s.length-p=f+1:=⟨s.length-p-1,by omega⟩;rw[Ns,hf,Ez,if_pos h,Ns,IL f (s.length-(p+(Utf8.decode (bs s) p).2)) s _ Ba Ba]
theorem Ay{s:Str}{p:Nat}(h:¬p<s.length):Ns s p=[]:=by
  have e:s.length-p=0:=by omega
  rw[Ns,e,Ez]
def Cs(s:Str):Str:=[34]++Ns s 0++[34]
theorem So(r:Int):0<=Me r/\Me r<256:=by
  unfold Me
  repeat' split
  all_goals omega
theorem Am(r:Nat):1<=(Jl r).length/\(Jl r).length<=2:=by unfold Jl;split <;> simp
theorem Lq(n:Nat):(Lib.repeatL [48] n).length=n:=by
  induction n with
  | zero=>rfl
  | succ n ih=>simp[Lib.repeatL,ih];try omega
theorem Jo(r:Nat):(Do r).length<=6:=by
  unfold Do;have h1:=Ah r;have h2:=Am r
  repeat' split
  ·simp
  ·omega
  simp[Lq];omega
theorem Fh{w0:World}{B pb T:Nat}{rest:List Value}{s:Str}(hB:Bd w0 B pb T rest s)(z:Int)(h0:0<=z)(h1:z<256)(hl:s.length+1<=140737488355328):Bv 178 #[V pb,.int .u8 z] .nilIface w0 B pb T rest (s++[UInt8.ofNat z.toNat]):=by
  have h:=Ho hB (UInt8.ofNat z.toNat) hl;have e:(((UInt8.ofNat z.toNat).toNat:Nat):Int)=z:=by simp only[UInt8.toNat_ofNat'];omega
  rwa [e]at h
theorem UY(w0:World)(hG:Gl w0)(s:Str)(hl:s.length<=17592186044416):Calls prog 177 #[I s] w0 (Pc λv w'=>v=(if Lib.validD s=true then .tuple #[I (Cs s),J 0] else .tuple #[I [],J 2])/\Same [] w0 w'):=by
 refine Ea func177 O ntmps177 Db (Rb _) ?_;have hF:=FR.start w0 [];refine Da (Aa (Rf O) (Aa (Kb O) (Ca (Fa (Da (Aa (Md O) ?_))))));refine Ya (M_ s Ba _ (hG.ext hF.same)) (Ma QU O O) ?_;rintro _ w ⟨n0,rfl,hE⟩;have hF:=hF.ext hE;refine Aa (Ri O) (Aa (Gj O O) (Aa (Ll O O) (Aa (Kb O) (Aa (Jb O) (Qb (Aa (Dc O) (Aa (Nh O) (Ca ?_))))))));refine Ge O O (λhc0=>?_) (λhc0=>?_);refine Da (Aa (Rf O) (Aa (Kb O) (Ca ?_)));refine Ab (Za (Ka (Vc (v:=I []) (x:=J 2) O O O) ?_));exact⟨by rw[if_neg (by simpa using hc0)],hF.same⟩;refine Na (Ga (Da ?_));refine Jc (cs:=#[.pointer none,aQ]) hF zeroValue132 O ?_;rintro b1 w hb1 hF -;refine Qb ?_;have hBn:BW w0 [] w b1 b1 132 [] []:=BW.own ⟨.inl ⟨rfl,rfl⟩,gQ _,_,_,hF.heap (i:=0) rfl,World.ownsRow_nil _ _ _ _,.inl rfl⟩ (hF.ge (i:=0) rfl) hF.same.size;have hB:=hBn;have hF:=hF.drop 1;have hF:FR w0 [] [] w:=hF;have ho:(0:Nat)<=0/\([]:Str).length<=0:=by simp
 refine Ya (Fh hB.bd (34) Ba Ba La) (Ra Pn O O O) ?_;rintro _ w ⟨rfl,hBd,hE⟩;have hF:=hF.wrote hB hE La;have hB:=hB.wrote hBd hE;clear hBd hE;refine Ca (Fa (Da (Aa (Md O) ?_)));refine Rv (str:=s) hF iX O ?_;intro b2 w hb2 hF hE;have nb2:b2≠b1:=by have:=hB.lt;omega
 have hB:=hB.ext hE;refine Ca (Va ?_);refine Sc (λμ σ w=>∃(q:Nat),∃(o:Str),μ=s.length-q/\(o++Ns s q=[34]++Ns s 0)/\(o.length<=1+6*q/\o.length<=1+6*s.length)/\(BW w0 [] w b1 b1 132 [] o)/\AllEq σ [(6,V b1),(20,V b2)]/\FR w0 [] [(b2,.stringIter (bs s) (q))] w) _ ⟨0,[34],O,(O),La,(hB),FA,hF⟩ ?_;rintro μ σ w ⟨q,o,rfl,hq,ho,hB,hs,hF⟩;refine Cg.slots hs ?_;clear hs;intro σ;have hr2:Wr w b2=false:=by rw[Js (hF.heap (i:=0) rfl)];rfl
 refine Da ?_;by_cases hn0:(q)<(s:Str).length;refine Uz 0 (p:=q) (str:=s) hF O O hn0 ?_;intro w hF hE;have hB:=hB.step hE (by simpa using nb2.symm) (by simpa using hr2) (by simp[Js (hF.heap (i:=0) rfl),Fj]);refine Aa (Ll O O) (Ca (Fa (Fd O (Na (Ga (Va (Da (Aa (Gj O O) (Aa (Kb O) (Ca ?_))))))))));refine Fa (Da (Aa (Gb O) ?_));refine Ya (IR _ (((Utf8.decode (bs s) q).1:Nat):Int)) (Ma en_211 O O) ?_;rintro _ w ⟨rfl,hE⟩;have hF:=hF.ext hE;have hB:=hB.ext hE;refine Aa (Kb O) (Qb (Aa (Gb O) (Aa (Om O O) (Ca ?_))));refine Pb O O (λhc2=>?_) (λhc2=>?_);refine Da ?_;refine Ya (Fh hB.bd (92) Ba Ba (by have h1:=ho.1;have h2:=ho.2;simp;omega)) (Ra Pn O O O) ?_;rintro _ w ⟨rfl,hBd,hE⟩;have hF:=hF.wrote hB hE (by simp[Fj,nb2]);have hB:=hB.wrote hBd hE;clear hBd hE;refine Qb (Aa (Gb O) ?_);refine Ya (Fh hB.bd (Me (((Utf8.decode (bs s) q).1:Nat):Int)) (So _).1 (So _).2 (by have h1:=ho.1;have h2:=ho.2;simp;omega)) (Ra Pn O O O) ?_;rintro _ w ⟨rfl,hBd,hE⟩;have hF:=hF.wrote hB hE (by simp[Fj,nb2]);have hB:=hB.wrote hBd hE;have e1:o++[UInt8.ofNat (92:Int).toNat]++[UInt8.ofNat (Me (((Utf8.decode (bs s) q).1:Nat):Int)).toNat]=o++Do (Utf8.decode (bs s) q).1:=by rw[Do,if_pos (by simpa using hc2)];simp
 rw[e1]at hB;clear hBd hE;refine Ca (Kc (Ec O ?_));have h1:=Vf s q;refine Xb ⟨_,?_,q+(Utf8.decode (bs s) q).2,o++Do (Utf8.decode (bs s) q).1,O,(by rw[sQ,<-Rn Ba];exact hq),(by have h1:=Vf s q;have h2:=Jo (Utf8.decode (bs s) q).1;rw[dQ];omega),(hB),FA,hF⟩;omega;refine Na (Ga (Fa (Da (Aa (Gb O) (Aa (E6 O O) (Ca ?_))))));refine Pb O O (λhc3=>?_) (λhc3=>?_);refine Da (Aa (Gb O) ?_);refine Ya (Ny hB.bd (((Utf8.decode (bs s) q).1:Nat):Int) Ba (by have:=Lib.rune_le (bs s) q;omega) (by have h1:=ho.1;have h2:=ho.2;simp;omega)) (Ra XQ O O O) ?_;rintro _ w ⟨rfl,hBd,hE⟩;have hF:=hF.wrote hB hE (by simp[Fj,nb2]);have hB:=hB.wrote hBd hE;have e1:o++Uf (((Utf8.decode (bs s) q).1:Nat):Int)=o++Do (Utf8.decode (bs s) q).1:=by rw[Do,if_neg (by simpa using hc2),if_pos Ba]
 rw[e1]at hB;clear hBd hE;refine Ca (Kc (Ec O ?_));have h1:=Vf s q;refine Xb ⟨_,?_,q+(Utf8.decode (bs s) q).2,o++Do (Utf8.decode (bs s) q).1,O,(by rw[sQ,<-Rn Ba];exact hq),(by have h1:=Vf s q;have h2:=Jo (Utf8.decode (bs s) q).1;rw[dQ];omega),(hB),FA,hF⟩;omega;refine Na (Ga (Da (Aa (Gb O) (Ja (v:=J ((((Utf8.decode (bs s) q).1:Nat):Int))) (Ze wZ underlying2 O (Um Ba Ba)) ?_))));refine Ya (hex_c _ (hG.ext hF.same) (Utf8.decode (bs s) q).1 Ba) (Ra en_213 O O O) ?_;rintro _ w ⟨rfl,hE⟩;have hF:=hF.ext hE;have hB:=hB.ext hE;refine Aa (Rf O) (Ca (Ha (Aa (Md O) (Aa (Qr iX O) (Ja (v:=J (((4-(Jl (Utf8.decode (bs s) q).1).length:Nat):Int))) (C2 O O (have:=Am (Utf8.decode (bs s) q).1;Vk Ba Ba Ba)) ?_)))));refine Ya (M6 ((4-(Jl (Utf8.decode (bs s) q).1).length:Nat):Int) Ba Ba _) (Ra VF O O O) ?_;rintro _ w ⟨rfl,hE⟩;have hF:=hF.ext hE;have hB:=hB.ext hE;refine Ja (v:=I (([92,117])++(Lib.repeatL [48] (4-(Jl (Utf8.decode (bs s) q).1).length)))) (Cu O O (by have:=Am (Utf8.decode (bs s) q).1;simp[Lq];omega)) ?_;refine Aa (Md O) ?_;refine Ja (v:=I ((([92,117])++(Lib.repeatL [48] (4-(Jl (Utf8.decode (bs s) q).1).length)))++(Jl (Utf8.decode (bs s) q).1))) (Cu O O (by have:=Am (Utf8.decode (bs s) q).1;simp[Lq];omega)) ?_;refine Ya (Nj hB.bd _ (by have:=Am (Utf8.decode (bs s) q).1;have h1:=ho.1;have h2:=ho.2;simp[Lq];omega)) (Ra G1 O O O) ?_;rintro _ w ⟨rfl,hBd,hE⟩;have hF:=hF.wrote hB hE (by simp[Fj,nb2]);have hB:=hB.wrote hBd hE;have e1:o++((([92,117])++(Lib.repeatL [48] (4-(Jl (Utf8.decode (bs s) q).1).length)))++(Jl (Utf8.decode (bs s) q).1))=o++Do (Utf8.decode (bs s) q).1:=by rw[Do,if_neg (by simpa using hc2),if_neg Ba]
 rw[e1]at hB;clear hBd hE;refine Ua (Cb ?_);have h1:=Vf s q;refine Xb ⟨_,?_,q+(Utf8.decode (bs s) q).2,o++Do (Utf8.decode (bs s) q).1,O,(by rw[sQ,<-Rn Ba];exact hq),(by have h1:=Vf s q;have h2:=Jo (Utf8.decode (bs s) q).1;rw[dQ];omega),(hB),FA,hF⟩;omega;refine Sq 0 (p:=q) (str:=s) hF O O hn0 (Aa (Ll O O) (Ca (Fa (We O ?_))));refine Kc (Ec O ?_);refine Ga (Da ?_);refine Ya (Fh hB.bd (34) Ba Ba (by have h1:=ho.1;have h2:=ho.2;simp;omega)) (Ra Pn O O O) ?_;rintro _ w ⟨rfl,hBd,hE⟩;have hF:=hF.wrote hB hE (by simp[Fj,nb2]);have hB:=hB.wrote hBd hE;clear hBd hE;refine Qb (Ya (E4 hB.bd La) (Ma WK O O) ?_);rintro _ w ⟨rfl,hE⟩;have hF:=hF.wrote hB hE (by simp[Fj,nb2]);refine Aa (Rf O) (Aa (Kb O) (Ca ?_));refine Ab (Za (Ka (Vc (v:=I (o++[34])) (x:=J 0) O O O) ?_));refine⟨?_,hF.same⟩;rw[if_pos (by simpa using hc0),Cs,<-hq,Ay Ba,qQ]
def Xk(m:Bool)(ind d:Nat):Str:=if m then [10]++Lib.repeatL [32] (ind*d) else []
def qS(t:Str):Str:=if Lib.validD t=true then Cs t else []
theorem Vs(c:UInt8)(n:Nat):(Lib.repeatL [c] n).length=n:=by
  induction n with
  | zero=>rfl
  | succ n ih=>simp[Lib.repeatL,ih];try omega
theorem Nv(m:Bool)(ind d:Nat):(Xk m ind d).length<=1+ind*d:=by unfold Xk;split <;> simp[Vs] <;> omega
theorem N9(s:Str)(p:Nat):(Ns s p).length<=6*(s.length-p):=by
  induction h:s.length-p using Nat.strongRecOn generalizing p with
  | ind n ih =>
    by_cases hp:p<s.length
    ·rw[Rn hp, dQ]
     have h1:=Jo (Utf8.decode (bs s) p).1;have h2:=Vf s p;have h3:=ih (s.length-(p+(Utf8.decode (bs s) p).2)) Ba (p+(Utf8.decode (bs s) p).2) rfl;omega
    rw[Ay hp];simp
theorem Q6(s:Str):(qS s).length<=6*s.length+2:=by
  unfold qS;split
  ·have := N9 s 0
   simp[Cs];omega
  simp
theorem WS(t:Str)(c:Nat)(h1:c<=9223372036854775807)(h2:t.length*c<=140737488355328)(w:World):Calls prog 197 #[I t,J (c:Int)] w (Pc λv w'=>v=I (Lib.repeatL t c)/\Same [] w w'):=by
  have h:=strings_Repeat (bs t) c w h1 (by rw[Nm];exact h2);exact Bt h
theorem KS(t:Str)(hl:t.length<=17592186044416)(w0:World)(hG:Gl w0):Calls prog 177 #[I t] w0 (Pc λv w'=>v=.tuple #[I (qS t),J (if Lib.validD t=true then 0 else 2)]/\Same [] w0 w'):=by
  refine Ij (UY w0 hG t hl) λv w' ⟨h1,h2⟩=>⟨?_,h2⟩;rw[h1,qS];split <;> rfl
theorem Bd.mul{w:World}{B pb T:Nat}{m:Bool}{ind:Int}{s:Str}(h:Bd w B pb T [.bool m,J ind] s):w.cell? ⟨pb,2,none⟩=some (.bool m):=by
  obtain⟨ap,v,hh,-⟩:=h.ex;rw[Cc hh];rfl
theorem Bd.ind{w:World}{B pb T:Nat}{m:Bool}{ind:Int}{s:Str}(h:Bd w B pb T [.bool m,J ind] s):w.cell? ⟨pb,3,none⟩=some (J ind):=by
  obtain⟨ap,v,hh,-⟩:=h.ex;rw[Cc hh];rfl
theorem Gl.wrote{w0 w:World}{B pb:Nat}(h:Gl w0)(hs:Same (Wk w0 B pb) w0 w)(hb:8<=B)(hp:B<=pb):Gl w:=h.same hs λx hx=>by
  rcases Xf.1 hx with rfl|⟨-,h1,-⟩ <;> omega
theorem YG(w0:World)(B pb:Nat)(m:Bool)(ind:Nat)(s:Str)(hBd:Bd w0 B pb 134 [.bool m,J (ind:Int)] s)(d:Nat)(hd:ind*d<=1000000000)(hl:s.length+(Xk m ind d).length<=140737488355328):Bv 179 #[V pb,J (d:Int)] (.tuple #[]) w0 B pb 134 [.bool m,J (ind:Int)] (s++Xk m ind d):=by
 unfold Bv;refine Ea func179 O ntmps179 Db (Lc _ _) ?_;have hB:=BW.start hBd;have hF:=FR.start w0 (Wk w0 B pb);refine Da (Aa (Wf O) (Aa (Ii O) (Aa (Ob WA O) (Ja (v:=.bool (m)) (Ed eZ O hB.bd.mul) (Ca ?_)))));refine Ge O O (λhc0=>?_) (λhc0=>?_);rw[Xk,if_pos hc0]at hl;simp only[dQ,kQ,List.length_nil,Vs]at hl;refine Da (Aa (Wf O) (Aa (Ii O) (Aa (Ob Fi O) ?_)));refine Ya (Fh hB.bd 10 Ta Ta Ba) (Ra Pn O O O) ?_;rintro _ w ⟨rfl,hBd,hE⟩;have hF:=hF.wrote hB hE La;have hB:=hB.wrote hBd hE;clear hBd hE;refine Ca (Kd (.of []) (bQ [0,1,2,3,4,5,6,7,8] (.act 9 (.act 10 .nil))) hF ?_);intro w hF hE;have hB:=hB.ext hE;refine⟨λwq=>FR w0 (Wk w0 B pb) _ wq/\∃s',Bd wq B pb 134 [.bool m,J (ind:Int)] s',⟨hF,⟨_,hB.bd⟩⟩,?_⟩;refine Fb O (Wf O) (Fb O (Ii O) (Fb O (Ob Fi O) (Fb O (Wf O) (Fb O (Ii O) (Fb O (Ob ET O) ?_)))));refine Bb rfl (v:=J ((ind:Int))) (λw hC=>Ed dZ rfl (by obtain⟨-,s_,hs_⟩:=hC;exact hs_.ind)) ?_;refine Fb O (Gb O) (Bb O (v:=J (((ind*d:Nat):Int))) (λw hC=>IC O O (Vk (by rw[Int.natCast_mul]) Ba Ba)) ?_);refine Uc O (WS [32] (ind*d) Ba (by simp;omega) _) (Ra VF O O O) ?_;rintro _ w ⟨rfl,hE⟩;have hF:=hF.ext hE;have hB:=hB.ext hE;refine⟨⟨hF,⟨_,hB.bd⟩⟩,?_⟩;refine Uc O (Nj hB.bd (Lib.repeatL [32] (ind*d)) (by simp[Vs];omega)) (Ra G1 O O O) ?_;rintro _ w ⟨rfl,hBd,hE⟩;have hF:=hF.wrote hB hE La;have hB:=hB.wrote hBd hE;clear hBd hE;refine⟨⟨hF,⟨_,hB.bd⟩⟩,?_⟩;refine Ac (Fg (Be (Wi O) ?_));exact⟨O,by simpa[Xk,hc0]using hB.bd,hF.same⟩;refine Na (Fg (Be (Wi O) ?_));exact⟨O,by simpa[Xk,hc0]using hB.bd,hF.same⟩
theorem N7(w0:World)(B pb:Nat)(m:Bool)(ind:Nat)(s:Str)(hBd:Bd w0 B pb 134 [.bool m,J (ind:Int)] s)(hG:Gl w0)(h8:8<=B)(t:Str)(ht:t.length<=17592186044416)(hl:s.length+(qS t).length<=140737488355328):Bv 136 #[V pb,I t] (.tuple #[]) w0 B pb 134 [.bool m,J (ind:Int)] (s++qS t):=by
 unfold Bv;refine Ea func136 O ntmps136 Db (Lc _ _) ?_;have hB:=BW.start hBd;have hF:=FR.start w0 (Wk w0 B pb);refine Da (Aa (Md O) ?_);refine Ya (KS t ht _ ((hG.wrote hF.same h8 hBd.le))) (Ma en_177 O O) ?_;rintro _ w ⟨rfl,hE⟩;have hF:=hF.ext hE;have hB:=hB.ext hE;refine Aa (Ri O) (Aa (Kx O O) (Aa (Gj O O) (Aa (Rf O) (Aa (Kb O) (Ca (Ha (Aa (Wf O) (Aa (Ii O) (Aa (Ob Fi O) (Aa (Md O) ?_))))))))));refine Ya (Nj hB.bd (qS t) Ba) (Ra G1 O O O) ?_;rintro _ w ⟨rfl,hBd,hE⟩;have hF:=hF.wrote hB hE La;have hB:=hB.wrote hBd hE;clear hBd hE;refine Ua (Fg (Be (Wi O) ?_));exact⟨O,hB.bd,hF.same⟩
def Cl(m:Bool)(ind d:Nat):Bool->List Str->Str
  | _,[]=>[]
  | first,p::ps=>(if first then [] else [44])++(Xk m ind (d+1)++(p++Cl m ind d false ps))
def Bk(m:Bool)(ind d:Nat)(o c:UInt8)(ps:List Str):Str:=[o]++(Cl m ind d true ps++((if ps=[] then [] else Xk m ind d)++[c]))
mutual
def Tg(m:Bool)(ind:Nat):Tree->Nat->Str
  | .node k t ks xs,d=>if k=1 then [110,117,108,108] else if k=4 then qS t else if k=5 then Bk m ind d 91 93 (Lo m ind xs (d+1)) else if k=6 then Bk m ind d 123 125 (Oj m ind xs ks (d+1)) else t
def Lo(m:Bool)(ind:Nat):List Tree->Nat->List Str
  | [],_=>[]
  | x::xs,d=>Tg m ind x d::Lo m ind xs d
def Oj(m:Bool)(ind:Nat):List Tree->List Str->Nat->List Str
  | [],_,_=>[]
  | x::xs,ks,d=>(qS (ks.headD [])++([58]++((if m then [32] else [])++Tg m ind x d)))::Oj m ind xs ks.tail d
end
theorem Gh:∀{xs:List Tree}{x:Tree},x∈xs->Gd x<=Xc xs
  | y :: ys, x, h => by
    rw[Xc];rcases oQ.1 h with rfl|h
    ·omega
    have:=Gh h;omega
theorem Gp(m:Bool)(ind d:Nat):∀xs,Lo m ind xs d=xs.map (λx=>Tg m ind x d)
  | []=>by simp[Lo]
  | x::xs=>by simp[Lo,Gp m ind d xs]
def H_(m:Bool)(ind d:Nat)(k:Str)(x:Tree):Str:=qS k++([58]++((if m then [32] else [])++Tg m ind x d))
theorem Rq(m:Bool)(ind d:Nat):∀xs ks,(Oj m ind xs ks d).length=xs.length
  | [],ks=>by simp[Oj]
  | x::xs,ks=>by simp[Oj,Rq m ind d xs ks.tail]
theorem M5(m:Bool)(ind d:Nat):∀(xs:List Tree)(ks:List Str)(j:Nat)(h:j<xs.length)(hk:j<ks.length)(h':j<(Oj m ind xs ks d).length),(Oj m ind xs ks d)[j]=H_ m ind d ks[j] xs[j]
  | x::xs,k::ks,0,_,_,_=>by simp[Oj,H_]
  | x :: xs, k :: ks, j + 1, h, hk, h' => by
    simp only[Oj,List.tail_cons,List.getElem_cons_succ];exact M5 m ind d xs ks j (by simpa using h) (by simpa using hk) (by simpa[Oj]using h')
theorem OL(m:Bool)(ind d:Nat){ps:List Str}{j:Nat}(h:j<ps.length):Cl m ind d (decide (j=0)) (ps.drop j)=(if j=0 then [] else [44])++(Xk m ind (d+1)++(ps[j]++Cl m ind d (decide (j+1=0)) (ps.drop (j+1)))):=by
  rw[List.drop_eq_getElem_cons h,Cl];simp
mutual
def GL:Tree->Prop|.node _ t ks xs=>t.length<=17592186044416/\(∀k∈ks,k.length<=17592186044416)/\DG xs
def DG:List Tree->Prop|[]=>True|x::xs=>GL x/\DG xs
end
theorem Wv:∀{xs:List Tree},DG xs->∀x∈xs,GL x
  | [],_,_,h=>absurd h La
  | y :: ys, h, x, hx => by
    rw[DG]at h;rcases oQ.1 hx with rfl|hx
    ·exact h.1
    exact Wv h.2 x hx
def KR(x:Tree):Prop:=∀(m:Bool)(ind d:Nat)(w0:World)(B pb:Nat)(s:Str)(cs:List Value),Bd w0 B pb 134 [.bool m,J (ind:Int)] s->Gl w0->8<=B->Rep (λb=>b∉Wk w0 B pb) w0 (Hb x) cs->GL x->Qd nodeB x=true ->
  ind*(d+Gd x)<=1000000000->d+Gd x<=1000000000->s.length+(Tg m ind x d).length<=140737488355328->Bv 90 #[V pb,.agg cs.toArray,J (d:Int)] (.tuple #[]) w0 B pb 134 [.bool m,J (ind:Int)] (s++Tg m ind x d)
def ItemC(f:Nat)(k:Int)(t:Str)(ks:List Str)(xs:List Tree)(m:Bool)(ind d:Nat)(ps:List Str):Prop:=∀(j:Nat)(hj:j<ps.length)(w0:World)(B pb:Nat)(s:Str)(A B':Option Addr)(c e:Nat),Bd w0 B pb 134 [.bool m,J (ind:Int)] s->Gl w0->8<=B ->
  Rep (λb=>b∉Wk w0 B pb) w0 (Hb (.node k t ks xs)) [J k,I t,.slice A ks.length c,.slice B' xs.length e]->s.length+ps[j].length<=140737488355328 ->
  Bv f #[V pb,.agg #[J k,I t,.slice A ks.length c,.slice B' xs.length e],J (j:Int),J (d:Int)] (.tuple #[]) w0 B pb 134 [.bool m,J (ind:Int)] (s++ps[j])
theorem item_c(k:Int)(t:Str)(ks:List Str)(xs:List Tree)(m:Bool)(ind d:Nat)(j:Nat)(hj:j<xs.length)(w0:World)(B pb:Nat)(s:Str)(A B_:Option Addr)(c e:Nat)(hBd:Bd w0 B pb 134 [.bool m,J (ind:Int)] s)(hG:Gl w0)(h8:8<=B)(hX:Rep (λb=>b∉Wk w0 B pb) w0 (Hb (.node k t ks xs)) [J k,I t,.slice A ks.length c,.slice B_ xs.length e])(hv:∀x∈xs,KR x)(hok:GL (.node k t ks xs))(hn:Qd nodeB (.node k t ks xs)=true)(hd:ind*(d+Xc xs)<=1000000000)(hd2:d+Xc xs<=1000000000)(hl:s.length+(Tg m ind xs[j] d).length<=140737488355328):Bv 138 #[V pb,.agg #[J k,I t,.slice A ks.length c,.slice B_ xs.length e],J (j:Int),J (d:Int)] (.tuple #[]) w0 B pb 134 [.bool m,J (ind:Int)] (s++Tg m ind xs[j] d):=by
 unfold Bv;rw[GL]at hok;refine Ea func138 O ntmps138 Db (I1 _ _ _ _) ?_;have hB:=BW.start hBd;have hF:=FR.start w0 (Wk w0 B pb);refine Da (Je hF O ?_);intro b1 w hb1 hF hE;have nb1:b1≠pb:=by have:=hB.lt;omega
 have hX:=hX.off_ext hB.lt hE;have hB:=hB.ext hE;refine Ca (Ha (Aa (Wf O) (Aa (Ob Ub O) (Tb (Ef zQ O hF.F 0 O O) (Aa (Gb O) ?_)))));obtain⟨A_,c_,B__,e_,heq_,-,-,hK_,hXs_⟩:=hX.tree_inv;simp only[List.cons.injEq,Value.slice.injEq,true_and,and_true]at heq_;obtain⟨⟨rfl,rfl⟩,rfl,rfl⟩:=heq_;obtain⟨ad0,cs0,hA0,hl0,hk0,hx0⟩:=hXs_.tree_elem (i:=j) Ba;have ho0:=hx0.one_;refine Ja (v:=.pointer (some (ad0.add (j*4)))) (Sa (i:=(j:Int)) Ng O hA0 O Ba Ba) (Ja (v:=.agg (List.toArray cs0)) (Xa (l:=cs0) aZ mZ O hl0 hk0) (Aa (Gb O) ?_));refine Ya (hv xs[j] (eQ hj) m ind d _ B pb s _ hB.bd (hG.wrote hF.same h8 hBd.le) h8 hx0 (Wv hok.2.2 _ (eQ hj)) ((Tf hn).2 _ (eQ hj)) (by have h1:=Gh (eQ hj);exact fQ (Nat.mul_le_mul_left ind Ba) hd) (by have h1:=Gh (eQ hj);omega) hl) (Re TK O O O O) ?_;rintro _ w ⟨rfl,hBd2,hE⟩;have hF:=hF.wrote hB hE (by simp[Fj,nb1]);have hX:=hX.off hE;have hB:=hB.wrote hBd2 hE;clear hBd2 hE;refine Ua (Fg (Be (Wi O) ?_));exact⟨O,hB.bd,hF.same⟩
theorem OT(k:Int)(t:Str)(ks:List Str)(xs:List Tree)(m:Bool)(ind d:Nat)(j:Nat)(hj:j<xs.length)(hjk:j<ks.length)(w0:World)(B pb:Nat)(s:Str)(A B_:Option Addr)(c e:Nat)(hBd:Bd w0 B pb 134 [.bool m,J (ind:Int)] s)(hG:Gl w0)(h8:8<=B)(hX:Rep (λb=>b∉Wk w0 B pb) w0 (Hb (.node k t ks xs)) [J k,I t,.slice A ks.length c,.slice B_ xs.length e])(hv:∀x∈xs,KR x)(hok:GL (.node k t ks xs))(hn:Qd nodeB (.node k t ks xs)=true)(hd:ind*(d+Xc xs)<=1000000000)(hd2:d+Xc xs<=1000000000)(hl:s.length+(H_ m ind d ks[j] xs[j]).length<=140737488355328):Bv 139 #[V pb,.agg #[J k,I t,.slice A ks.length c,.slice B_ xs.length e],J (j:Int),J (d:Int)] (.tuple #[]) w0 B pb 134 [.bool m,J (ind:Int)] (s++H_ m ind d ks[j] xs[j]):=by
 unfold Bv;rw[GL]at hok;rw[H_]at hl;simp only[dQ,kQ,List.length_nil]at hl;refine Ea func139 O ntmps139 Db (I1 _ _ _ _) ?_;have hB:=BW.start hBd;have hF:=FR.start w0 (Wk w0 B pb);refine Da (Je hF O ?_);intro b1 w hb1 hF hE;have nb1:b1≠pb:=by have:=hB.lt;omega
 have hX:=hX.off_ext hB.lt hE;have hB:=hB.ext hE;refine Qb (Aa (Wf O) (Aa (Ob Zd O) (Tb (Ef yQ O hF.F 0 O O) (Aa (Gb O) ?_))));obtain⟨A_,c_,B__,e_,heq_,-,-,hK_,hXs_⟩:=hX.tree_inv;simp only[List.cons.injEq,Value.slice.injEq,true_and,and_true]at heq_;obtain⟨⟨rfl,rfl⟩,rfl,rfl⟩:=heq_;obtain⟨ad0,hA0,hk0,hx0⟩:=hK_.str_elem (i:=j) Ba;refine Ja (v:=.pointer (some (ad0.add (j*1)))) (Sa (i:=(j:Int)) Gu O hA0 O Ba Ba) (Ja (v:=I (ks[j])) (Ed iZ O hk0) ?_);refine Ya (N7 _ B pb m ind s hB.bd (hG.wrote hF.same h8 hBd.le) h8 ks[j] (hok.2.1 _ (eQ hjk)) Ba) (Ra WT O O O) ?_;rintro _ w ⟨rfl,hBd2,hE⟩;have hF:=hF.wrote hB hE (by simp[Fj,nb1]);have hX:=hX.off hE;have hB:=hB.wrote hBd2 hE;clear hBd2 hE;refine Qb (Aa (Wf O) (Aa (Ii O) (Aa (Ob Fi O) ?_)));refine Ya (Fh hB.bd 58 Ta Ta (by rw[dQ];omega)) (Ra Pn O O O) ?_;rintro _ w ⟨rfl,hBd2,hE⟩;have hF:=hF.wrote hB hE (by simp[Fj,nb1]);have hX:=hX.off hE;have hB:=hB.wrote hBd2 hE;clear hBd2 hE;refine Ca (Fa (Da (Aa (Wf O) (Aa (Ii O) (Aa (Ob WA O) (Ja (v:=.bool (m)) (Ed eZ O hB.bd.mul) (Ca ?_)))))));refine Ge O O (λhc0=>?_) (λhc0=>?_);refine Ha (Aa (Wf O) (Aa (Ii O) (Aa (Ob Fi O) ?_)));refine Ya (Fh hB.bd 32 Ta Ta (by simp only[dQ,kQ,List.length_nil];(first|rw[if_pos hc0]at hl|rw[if_neg (by simp[hc0])]at hl);simp only[kQ,List.length_nil]at hl;omega)) (Ra Pn rfl rfl rfl) ?_;rintro _ w ⟨rfl,hBd2,hE⟩;have hF:=hF.wrote hB hE (by simp[Fj,nb1]);have hX:=hX.off hE;have hB:=hB.wrote hBd2 hE;clear hBd2 hE;refine Ca (Ha (Aa (Wf O) (Aa (Ob Ub O) (Tb (Ef zQ O hF.F 0 O O) (Aa (Gb O) ?_)))));obtain⟨A_,c_,B__,e_,heq_,-,-,hK_,hXs_⟩:=hX.tree_inv;simp only[List.cons.injEq,Value.slice.injEq,true_and,and_true]at heq_;obtain⟨⟨rfl,rfl⟩,rfl,rfl⟩:=heq_;obtain⟨ad1,cs1,hA1,hl1,hk1,hx1⟩:=hXs_.tree_elem (i:=j) Ba
 have ho1:=hx1.one_;refine Ja (v:=.pointer (some (ad1.add (j*4)))) (Sa (i:=(j:Int)) Ng O hA1 O Ba Ba) (Ja (v:=.agg (List.toArray cs1)) (Xa (l:=cs1) aZ mZ O hl1 hk1) (Aa (Gb O) ?_));refine Ya (hv xs[j] (eQ hj) m ind d _ B pb _ _ hB.bd (hG.wrote hF.same h8 hBd.le) h8 hx1 (Wv hok.2.2 _ (eQ hj)) ((Tf hn).2 _ (eQ hj)) (by have h1:=Gh (eQ hj);exact fQ (Nat.mul_le_mul_left ind Ba) hd) (by have h1:=Gh (eQ hj);omega) (by simp only[dQ,kQ,List.length_nil];(first|rw[if_pos hc0]at hl|rw[if_neg (by simp[hc0])]at hl);simp only[kQ,List.length_nil]at hl;omega)) (Re TK rfl rfl rfl rfl) ?_;rintro _ w ⟨rfl,hBd2,hE⟩;have hF:=hF.wrote hB hE (by simp[Fj,nb1]);have hX:=hX.off hE;have hB:=hB.wrote hBd2 hE;clear hBd2 hE;refine Ua (Fg (Be (Wi O) ?_));exact⟨O,by simpa[H_,hc0]using hB.bd,hF.same⟩;refine Na (Ga (Ha (Aa (Wf O) (Aa (Ob Ub O) (Tb (Ef zQ O hF.F 0 O O) (Aa (Gb O) ?_))))));obtain⟨A_,c_,B__,e_,heq_,-,-,hK_,hXs_⟩:=hX.tree_inv;simp only[List.cons.injEq,Value.slice.injEq,true_and,and_true]at heq_;obtain⟨⟨rfl,rfl⟩,rfl,rfl⟩:=heq_;obtain⟨ad2,cs2,hA2,hl2,hk2,hx2⟩:=hXs_.tree_elem (i:=j) Ba;have ho2:=hx2.one_;refine Ja (v:=.pointer (some (ad2.add (j*4)))) (Sa (i:=(j:Int)) Ng O hA2 O Ba Ba) (Ja (v:=.agg (List.toArray cs2)) (Xa (l:=cs2) aZ mZ O hl2 hk2) (Aa (Gb O) ?_));refine Ya (hv xs[j] (eQ hj) m ind d _ B pb _ _ hB.bd (hG.wrote hF.same h8 hBd.le) h8 hx2 (Wv hok.2.2 _ (eQ hj)) ((Tf hn).2 _ (eQ hj)) (by have h1:=Gh (eQ hj);exact fQ (Nat.mul_le_mul_left ind Ba) hd) (by have h1:=Gh (eQ hj);omega) (by simp only[dQ,kQ,List.length_nil];(first|rw[if_pos hc0]at hl|rw[if_neg (by simp[hc0])]at hl);simp only[kQ,List.length_nil]at hl;omega)) (Re TK rfl rfl rfl rfl) ?_;rintro _ w ⟨rfl,hBd2,hE⟩;have hF:=hF.wrote hB hE (by simp[Fj,nb1]);have hX:=hX.off hE
 have hB:=hB.wrote hBd2 hE;clear hBd2 hE;refine Ua (Fg (Be (Wi O) ?_));exact⟨O,by simpa[H_,hc0]using hB.bd,hF.same⟩
theorem MO(m:Bool)(ind d:Nat)(b:Bool):Cl m ind d b []=[]:=by cases b <;> rfl
theorem DL(f:Nat)(hen:Qa prog f)(k:Int)(t:Str)(ks:List Str)(xs:List Tree)(m:Bool)(ind d:Nat)(bo bc:UInt8)(ps:List Str)(hps:ps.length=xs.length)(hI:ItemC f k t ks xs m ind (d+1) ps)(w0:World)(B pb:Nat)(s:Str)(A B_:Option Addr)(c e:Nat)(hBd:Bd w0 B pb 134 [.bool m,J (ind:Int)] s)(hG:Gl w0)(h8:8<=B)(hX:Rep (λb=>b∉Wk w0 B pb) w0 (Hb (.node k t ks xs)) [J k,I t,.slice A ks.length c,.slice B_ xs.length e])(hd1:ind*(d+1)<=1000000000)(hd2:d+1<=1000000000)(hxl:xs.length<=9223372036854775807)(hlim:s.length+(Bk m ind d bo bc ps).length<=140737488355328):Bv 137 #[V pb,.agg #[J k,I t,.slice A ks.length c,.slice B_ xs.length e],J (d:Int),I [bo,bc],.func (.func f) #[V pb] #[]] (.tuple #[]) w0 B pb 134 [.bool m,J (ind:Int)] (s++Bk m ind d bo bc ps):=by
 unfold Bv;rw[Bk]at hlim;simp only[dQ,kQ,List.length_nil]at hlim;refine Ea func137 O ntmps137 Db (WF _ _ _ _ _) ?_;have hB:=BW.start hBd;have hF:=FR.start w0 (Wk w0 B pb);refine Da (Je hF O ?_);intro b1 w hb1 hF hE;have nb1:b1≠pb:=by have:=hB.lt;omega
 have hX:=hX.off_ext hB.lt hE;have hB:=hB.ext hE;refine Ca (Fa ?_);refine Kd (.of []) (bQ [0,1,2,3,4] (.act 5 .nil)) hF ?_;intro w hF hE;have hX:=hX.off_ext hB.lt hE;have hB:=hB.ext hE;refine⟨λwq=>FR w0 (Wk w0 B pb) _ wq,hF,?_⟩;refine Fb O (Wf O) (Fb O (Ii O) (Fb O (Ob Fi O) (Fb O (Md O) ?_)));refine Bb O (v:=.int .u8 (((bo.toNat:Nat):Int))) (λw hC=>Jf (s:=[bo,bc]) 0 iX O O La) (Uc O (Ho hB.bd bo Ba) (Ra Pn O O O) ?_);rintro _ w ⟨rfl,hBd2,hE⟩;have hF:=hF.wrote hB hE (by simp[Fj,nb1]);have hX:=hX.off hE;have hB:=hB.wrote hBd2 hE;clear hBd2 hE;refine⟨hF,?_⟩;refine Ac (Ga (Fa (Da (Aa (Ob Ub O) (Tb (Ef zQ O hF.F 0 O O) (Aa (Ug yZ O) (Aa (Gb O) (Ca (Va ?_)))))))));refine Sc (λμ σ w=>∃(j:Nat),∃(o:Str),μ=xs.length-j/\(j<=xs.length)/\(o++Cl m ind d (decide (j=0)) (ps.drop j)=s++([bo]++Cl m ind d true ps))/\(BW w0 (Wk w0 B pb) w B pb 134 [.bool m,J (ind:Int)] (o))/\(Rep (λb=>b∉Wk w B pb) w (Hb (.node k t ks xs)) [J k,I t,.slice A ks.length c,.slice B_ xs.length e])/\AllEq σ [(0,V pb),(2,J ((d:Int))),(3,I ([bo,bc])),(4,.func (.func f) #[V pb] #[]),(6,V b1),(19,J ((xs.length:Nat))),(20,J ((j:Int)))]/\FR w0 (Wk w0 B pb) [(b1,.cells #[J k,I t,.slice A ks.length c,.slice B_ xs.length e] 25)] w) _ ⟨0,s++[bo],O,(Nat.zero_le _),La,(hB),(hX),N_,hF⟩ ?_;rintro μ σ w ⟨j,o,rfl,hj,hq,hB,hX,hs,hF⟩;refine Cg.slots hs ?_;clear hs;intro σ;refine Da (Aa (Vl O O) (Ca (Fa ?_)));refine Pb O O (λhc0=>?_) (λhc0=>?_);have hjp:j<ps.length:=by omega
 have hjd:=OL m ind d hjp;have hL:=congrArg List.length hq;rw[hjd]at hL;have hif:(if j=0 then ([]:Str) else [44]).length=if j=0 then 0 else 1:=by split <;> rfl
 simp only[dQ,kQ,List.length_nil,hif]at hL;refine Na (Ga (Fa (Va (Da (Aa (Gb O) (Aa (Kb O) (Ca (Fa (Da (Aa (Gb O) ?_))))))))));refine Aa (Pz O O) (Ca ?_);refine Pb O O (λhc1=>?_) (λhc1=>?_);refine Ha (Aa (Wf O) (Aa (Ii O) (Aa (Ob Fi O) ?_)));refine Ya (Fh hB.bd 44 Ta Ta (by rw[if_neg Ba]at hL;omega)) (Ra Pn O O O) ?_;rintro _ w ⟨rfl,hBd2,hE⟩;have hF:=hF.wrote hB hE (by simp[Fj,nb1]);have hX:=hX.off hE;have hB:=hB.wrote hBd2 hE;clear hBd2 hE;refine Qb (Aa (Wf O) (Aa (Gb O) (Aa (Bo (((d+1:Nat):Int)) O O) ?_)));refine Ya (YG _ B pb m ind _ hB.bd (d+1) hd1 (by (try simp only[dQ,kQ,List.length_nil]);first|(rw[if_neg Ba]at hL;omega)|(rw[if_pos Ba]at hL;omega))) (Ra SG rfl rfl rfl) ?_;rintro _ w ⟨rfl,hBd2,hE⟩;have hF:=hF.wrote hB hE (by simp[Fj,nb1]);have hX:=hX.off hE;have hB:=hB.wrote hBd2 hE;clear hBd2 hE;refine Ca (Ha (Aa (Mr) (Tb (Ie aZ mZ O hF.F 0 O O) (Aa (Gb O) (Aa (Gb O) (Aa (Bo (((d+1:Nat):Int)) O O) ?_))))));refine Ya (hI j hjp _ B pb _ A B_ c e hB.bd (hG.wrote hF.same h8 hBd.le) h8 hX (by (try simp only[dQ,kQ,List.length_nil]);first|(rw[if_neg Ba]at hL;omega)|(rw[if_pos Ba]at hL;omega))) (SE rfl hen rfl rfl rfl rfl) ?_;rintro _ w ⟨rfl,hBd2,hE⟩;have hF:=hF.wrote hB hE (by simp[Fj,nb1]);have hX:=hX.off hE;have hB:=hB.wrote hBd2 hE;clear hBd2 hE;have hB:BW w0 (Wk w0 B pb) w B pb 134 [.bool m,J (ind:Int)] (o++((if j=0 then [] else [44])++(Xk m ind (d+1)++ps[j]))):=by first|(have h0:¬j=0:=Ba;rw[if_neg h0];simpa using hB)|(have h0:j=0:=Ba;rw[if_pos h0];simpa using hB)
 refine Ua (Cb (Ga (Ha (Aa (Ql O O) (Aa (Gb O) (Ua ?_))))));refine Xb ⟨_,?_,j+1,o++((if j=0 then [] else [44])++(Xk m ind (d+1)++ps[j])),O,Ba,(by have h:=hq;rw[hjd]at h;simpa[sQ]using h),(hB),(hX),N_,hF⟩;omega;refine Na (Ga (Da (Aa (Wf O) (Aa (Gb O) (Aa (Bo (((d+1:Nat):Int)) O O) ?_)))));refine Ya (YG _ B pb m ind _ hB.bd (d+1) hd1 (by (try simp only[dQ,kQ,List.length_nil]);first|(rw[if_neg Ba]at hL;omega)|(rw[if_pos Ba]at hL;omega))) (Ra SG rfl rfl rfl) ?_;rintro _ w ⟨rfl,hBd2,hE⟩;have hF:=hF.wrote hB hE (by simp[Fj,nb1]);have hX:=hX.off hE;have hB:=hB.wrote hBd2 hE;clear hBd2 hE;refine Ca (Ha (Aa (Mr) (Tb (Ie aZ mZ O hF.F 0 O O) (Aa (Gb O) (Aa (Gb O) (Aa (Bo (((d+1:Nat):Int)) O O) ?_))))));refine Ya (hI j hjp _ B pb _ A B_ c e hB.bd (hG.wrote hF.same h8 hBd.le) h8 hX (by (try simp only[dQ,kQ,List.length_nil]);first|(rw[if_neg Ba]at hL;omega)|(rw[if_pos Ba]at hL;omega))) (SE rfl hen rfl rfl rfl rfl) ?_;rintro _ w ⟨rfl,hBd2,hE⟩;have hF:=hF.wrote hB hE (by simp[Fj,nb1]);have hX:=hX.off hE;have hB:=hB.wrote hBd2 hE;clear hBd2 hE;have hB:BW w0 (Wk w0 B pb) w B pb 134 [.bool m,J (ind:Int)] (o++((if j=0 then [] else [44])++(Xk m ind (d+1)++ps[j]))):=by first|(have h0:¬j=0:=Ba;rw[if_neg h0];simpa using hB)|(have h0:j=0:=Ba;rw[if_pos h0];simpa using hB)
 refine Ua (Cb (Ga (Ha (Aa (Ql O O) (Aa (Gb O) (Ua ?_))))));refine Xb ⟨_,?_,j+1,o++((if j=0 then [] else [44])++(Xk m ind (d+1)++ps[j])),O,Ba,(by have h:=hq;rw[hjd]at h;simpa[sQ]using h),(hB),(hX),N_,hF⟩;omega;have hq2:o=s++([bo]++Cl m ind d true ps):=by have h:=hq;rw[List.drop_eq_nil_of_le Ba,MO,qQ]at h;exact h
 refine Kc (Ec O ?_);refine Ga (Fa (Da (Aa (Ob Ub O) (Tb (Ef zQ O hF.F 0 O O) (Aa (Ug yZ O) (Aa (Pz O O) (Ca ?_)))))));refine Pb O O (λhc2=>?_) (λhc2=>?_);have hpn:ps≠[]:=by intro hp;rw[hp]at hps;simp at hps;omega
 refine Ha (Aa (Wf O) (Aa (Gb O) ?_));refine Ya (YG _ B pb m ind _ hB.bd d (fQ (Nat.mul_le_mul_left ind Ba) hd1) (by have hp:ps≠[]:=(by intro hp;rw[hp]at hps;simp at hps;omega);rw[if_neg hp]at hlim;rw[hq2];(try simp only[dQ,kQ,List.length_nil]);omega)) (Ra SG rfl rfl rfl) ?_;rintro _ w ⟨rfl,hBd2,hE⟩;have hF:=hF.wrote hB hE (by simp[Fj,nb1]);have hX:=hX.off hE;have hB:=hB.wrote hBd2 hE;clear hBd2 hE;refine Ca (Kd (.of []) (bQ [0,1,2,3,4] (.act 5 .nil)) hF ?_);intro w hF hE;have hX:=hX.off_ext hB.lt hE;have hB:=hB.ext hE;refine⟨λwq=>FR w0 (Wk w0 B pb) _ wq,hF,?_⟩;refine Fb O (Wf O) (Fb O (Ii O) (Fb O (Ob Fi O) (Fb O (Md O) ?_)));refine Bb O (v:=.int .u8 (((bc.toNat:Nat):Int))) (λw hC=>Jf (s:=[bo,bc]) 1 iX O O La) ?_;refine Uc rfl (Ho hB.bd bc (by rw[hq2];(try simp only[dQ,kQ,List.length_nil]);first|(rw[if_neg hpn]at hlim;omega)|omega)) (Ra Pn rfl rfl rfl) ?_;rintro _ w ⟨rfl,hBd2,hE⟩;have hF:=hF.wrote hB hE (by simp[Fj,nb1]);have hX:=hX.off hE;have hB:=hB.wrote hBd2 hE;clear hBd2 hE;refine⟨hF,?_⟩;refine Ac (Fg (Be (Wi O) ?_));refine⟨O,?_,hF.same⟩;have hb:=hB.bd;rw[hq2]at hb;rw[Bk,if_neg hpn];simpa[sQ]using hb;have hpz:ps=[]:=List.eq_nil_of_length_eq_zero Ba;refine Na (Ga ?_);refine Kd (.of []) (bQ [0,1,2,3,4] (.act 5 .nil)) hF ?_;intro w hF hE;have hX:=hX.off_ext hB.lt hE;have hB:=hB.ext hE;refine⟨λwq=>FR w0 (Wk w0 B pb) _ wq,hF,?_⟩;refine Fb O (Wf O) (Fb O (Ii O) (Fb O (Ob Fi O) (Fb O (Md O) ?_)));refine Bb O (v:=.int .u8 (((bc.toNat:Nat):Int))) (λw hC=>Jf (s:=[bo,bc]) 1 iX O O La) ?_;refine Uc rfl (Ho hB.bd bc (by rw[hq2];(try simp only[dQ,kQ,List.length_nil]);first|(rw[if_neg hpn]at hlim;omega)|omega)) (Ra Pn rfl rfl rfl) ?_;rintro _ w ⟨rfl,hBd2,hE⟩;have hF:=hF.wrote hB hE (by simp[Fj,nb1])
 have hX:=hX.off hE;have hB:=hB.wrote hBd2 hE;clear hBd2 hE;refine⟨hF,?_⟩;refine Ac (Fg (Be (Wi O) ?_));refine⟨O,?_,hF.same⟩;have hb:=hB.bd;rw[hq2]at hb;rw[Bk,if_pos hpz];simpa[sQ]using hb
theorem BI(k:Int)(t:Str)(ks:List Str)(xs:List Tree)(ih:∀x∈xs,KR x)(m:Bool)(ind d:Nat)(w0:World)(B pb:Nat)(s:Str)(A B_:Option Addr)(c e:Nat)(hBd:Bd w0 B pb 134 [.bool m,J (ind:Int)] s)(hG:Gl w0)(h8:8<=B)(hX:Rep (λb=>b∉Wk w0 B pb) w0 (Hb (.node k t ks xs)) [J k,I t,.slice A ks.length c,.slice B_ xs.length e])(hok:GL (.node k t ks xs))(hn:Qd nodeB (.node k t ks xs)=true)(hd:ind*(d+Gd (.node k t ks xs))<=1000000000)(hd2:d+Gd (.node k t ks xs)<=1000000000)(hxl:xs.length<=9223372036854775807)(hl:s.length+(Tg m ind (.node k t ks xs) d).length<=140737488355328):Bv 90 #[V pb,.agg #[J k,I t,.slice A ks.length c,.slice B_ xs.length e],J (d:Int)] (.tuple #[]) w0 B pb 134 [.bool m,J (ind:Int)] (s++Tg m ind (.node k t ks xs) d):=by
 unfold Bv;refine Ea func90 O ntmps90 Db (Yj _ _ _) ?_;have hB:=BW.start hBd;have hF:=FR.start w0 (Wk w0 B pb);refine Da (Je hF O ?_);intro b1 w hb1 hF hE;have nb1:b1≠pb:=by have:=hB.lt;omega
 have hX:=hX.off_ext hB.lt hE;have hB:=hB.ext hE;refine Qb (Aa (Ob Se O) (Tb (Yi dZ O hF.F 0 O O) (Ca (Va (Da (Aa (Yh O O) (Aa (Jb O) (Ua ?_))))))));refine Ga (Pb O O (λhc0=>?_) (λhc0=>?_));refine Ha (Aa (Wf O) (Aa (Ii O) (Aa (Ob Fi O) ?_)));have hkk_:k=1:=by omega
 refine Ya (Nj hB.bd [110,117,108,108] (by rw[Tg,if_pos hkk_]at hl;exact hl)) (Ra G1 O O O) ?_;rintro _ w ⟨rfl,hBd2,hE⟩;have hF:=hF.wrote hB hE (by simp[Fj,nb1]);have hX:=hX.off hE;have hB:=hB.wrote hBd2 hE;clear hBd2 hE;refine Ua (Cb ?_);refine Fg (Be (Wi O) ?_);refine⟨O,?_,hF.same⟩;rw[Tg]
 first|(rw[if_pos hkk_];exact hB.bd)|(rw[if_neg Ba,if_pos hkk_];exact hB.bd)|(rw[if_neg Ba,if_neg Ba,if_pos hkk_];exact hB.bd)|(rw[if_neg Ba,if_neg Ba,if_neg Ba,if_pos hkk_];exact hB.bd)|(rw[if_neg Ba,if_neg Ba,if_neg Ba,if_neg Ba];exact hB.bd)
 refine Da (Aa (Yh O O) (Aa (Jb O) (Ca ?_)));refine Pb O O (λhc1=>?_) (λhc1=>?_);refine Ha (Aa (Wf O) (Aa (Ob Oe O) (Tb (Rm iZ O hF.F 0 O O) ?_)));have hkk_:k=4:=by omega
 refine Ya (N7 _ B pb m ind s hB.bd (hG.wrote hF.same h8 hBd.le) h8 t (by rw[GL]at hok;exact hok.1) (by rw[Tg,if_neg Ba,if_pos hkk_]at hl;exact hl)) (Ra WT O O O) ?_;rintro _ w ⟨rfl,hBd2,hE⟩;have hF:=hF.wrote hB hE (by simp[Fj,nb1]);have hX:=hX.off hE;have hB:=hB.wrote hBd2 hE;clear hBd2 hE;refine Ua (Cb ?_);refine Fg (Be (Wi O) ?_);refine⟨O,?_,hF.same⟩;rw[Tg]
 first|(rw[if_pos hkk_];exact hB.bd)|(rw[if_neg Ba,if_pos hkk_];exact hB.bd)|(rw[if_neg Ba,if_neg Ba,if_pos hkk_];exact hB.bd)|(rw[if_neg Ba,if_neg Ba,if_neg Ba,if_pos hkk_];exact hB.bd)|(rw[if_neg Ba,if_neg Ba,if_neg Ba,if_neg Ba];exact hB.bd)
 refine Da (Aa (Yh O O) (Aa (Jb O) (Ca ?_)));refine Pb O O (λhc2=>?_) (λhc2=>?_);refine Ha (Aa (Wf O) (Tb (Ie aZ mZ O hF.F 0 O O) (Aa (Gb O) (Aa (Wf O) (Ja (v:=.func (.func 138) #[V pb] #[]) (Uq O) ?_)))));have hkk_:k=5:=by omega
 refine Ya (DL 138 en_138 k t ks xs m ind d 91 93 (Lo m ind xs (d+1)) (by rw[Gp,rQ]) (λj hj w1 B1 p1 s1 A1 B1_ c1 e1 hb1_ hg1 h81 hx1 hl1=>by have hj2:j<xs.length:=(by rw[Gp,rQ]at hj;exact hj);have hg:(Lo m ind xs (d+1))[j]=Tg m ind xs[j] (d+1):=(by simp only[Gp,List.getElem_map]);rw[hg]at hl1 ⊢;exact item_c k t ks xs m ind (d+1) j hj2 w1 B1 p1 s1 A1 B1_ c1 e1 hb1_ hg1 h81 hx1 ih hok hn (by rw[Gd]at hd;exact fQ (Nat.mul_le_mul_left ind Ba) hd) (by rw[Gd]at hd2;omega) hl1) _ B pb s A B_ c e hB.bd (hG.wrote hF.same h8 hBd.le) h8 hX (by have h1:=hd;rw[Gd]at h1;exact fQ (Nat.mul_le_mul_left ind Ba) h1) (by rw[Gd]at hd2;omega) hxl (by rw[Tg]at hl;simpa[hkk_]using hl)) (Wz RP O O O O O O) ?_;rintro _ w ⟨rfl,hBd2,hE⟩;have hF:=hF.wrote hB hE (by simp[Fj,nb1]);have hX:=hX.off hE;have hB:=hB.wrote hBd2 hE;clear hBd2 hE;refine Ua (Cb ?_);refine Fg (Be (Wi O) ?_);refine⟨O,?_,hF.same⟩;rw[Tg]
 first|(rw[if_pos hkk_];exact hB.bd)|(rw[if_neg Ba,if_pos hkk_];exact hB.bd)|(rw[if_neg Ba,if_neg Ba,if_pos hkk_];exact hB.bd)|(rw[if_neg Ba,if_neg Ba,if_neg Ba,if_pos hkk_];exact hB.bd)|(rw[if_neg Ba,if_neg Ba,if_neg Ba,if_neg Ba];exact hB.bd)
 refine Da (Aa (Yh O O) (Aa (Jb O) (Ca ?_)));refine Pb O O (λhc3=>?_) (λhc3=>?_);refine Ha (Aa (Wf O) (Tb (Ie aZ mZ O hF.F 0 O O) (Aa (Gb O) (Aa (Wf O) (Ja (v:=.func (.func 139) #[V pb] #[]) (Uq O) ?_)))));have hkk_:k=6:=by omega
 have hkl:ks.length=xs.length:=(Wt (hkk_▸(Tf hn).1)).2;refine Ya (DL 139 en_139 k t ks xs m ind d 123 125 (Oj m ind xs ks (d+1)) (by rw[Rq]) (λj hj w1 B1 p1 s1 A1 B1_ c1 e1 hb1_ hg1 h81 hx1 hl1=>by have hj2:j<xs.length:=(by rw[Rq]at hj;exact hj);have hg:=M5 m ind (d+1) xs ks j hj2 Ba hj;rw[hg]at hl1 ⊢;exact OT k t ks xs m ind (d+1) j hj2 Ba w1 B1 p1 s1 A1 B1_ c1 e1 hb1_ hg1 h81 hx1 ih hok hn (by rw[Gd]at hd;exact fQ (Nat.mul_le_mul_left ind Ba) hd) (by rw[Gd]at hd2;omega) hl1) _ B pb s A B_ c e hB.bd (hG.wrote hF.same h8 hBd.le) h8 hX (by have h1:=hd;rw[Gd]at h1;exact fQ (Nat.mul_le_mul_left ind Ba) h1) (by rw[Gd]at hd2;omega) hxl (by rw[Tg]at hl;simpa[hkk_]using hl)) (Wz RP O O O O O O) ?_;rintro _ w ⟨rfl,hBd2,hE⟩;have hF:=hF.wrote hB hE (by simp[Fj,nb1]);have hX:=hX.off hE;have hB:=hB.wrote hBd2 hE;clear hBd2 hE;refine Ua (Cb ?_);refine Fg (Be (Wi O) ?_);refine⟨O,?_,hF.same⟩;rw[Tg]
 first|(rw[if_pos hkk_];exact hB.bd)|(rw[if_neg Ba,if_pos hkk_];exact hB.bd)|(rw[if_neg Ba,if_neg Ba,if_pos hkk_];exact hB.bd)|(rw[if_neg Ba,if_neg Ba,if_neg Ba,if_pos hkk_];exact hB.bd)|(rw[if_neg Ba,if_neg Ba,if_neg Ba,if_neg Ba];exact hB.bd)
 refine Kd (.of []) (bQ [0,1,2,3,4] (.act 5 .nil)) hF ?_;intro w hF hE;have hX:=hX.off_ext hB.lt hE;have hB:=hB.ext hE;refine⟨λwq=>FR w0 (Wk w0 B pb) _ wq,hF,?_⟩;refine Fb O (Wf O) (Fb O (Ii O) (Fb O (Ob Fi O) (Fb O (Ob Oe O) (Sf O (Rm iZ O C0 0 O O) ?_))));refine Uc O (Nj hB.bd t (by rw[Tg,if_neg Ba,if_neg Ba,if_neg Ba,if_neg Ba]at hl;exact hl)) (Ra G1 O O O) ?_;rintro _ w ⟨rfl,hBd2,hE⟩;have hF:=hF.wrote hB hE (by simp[Fj,nb1]);have hX:=hX.off hE;have hB:=hB.wrote hBd2 hE;clear hBd2 hE;refine⟨hF,?_⟩;refine Ac (Cb ?_);refine Fg (Be (Wi O) ?_);refine⟨O,?_,hF.same⟩;rw[Tg]
 first|(rw[if_pos hkk_];exact hB.bd)|(rw[if_neg Ba,if_pos hkk_];exact hB.bd)|(rw[if_neg Ba,if_neg Ba,if_pos hkk_];exact hB.bd)|(rw[if_neg Ba,if_neg Ba,if_neg Ba,if_pos hkk_];exact hB.bd)|(rw[if_neg Ba,if_neg Ba,if_neg Ba,if_neg Ba];exact hB.bd)
theorem WV(x:Tree):KR x:=Tree.ind (Q:=KR) (λk t ks xs ih m ind d w0 B pb s cs hBd hG h8 hX hok hn hd hd2 hl=>by
  obtain⟨A,c,B_,e,rfl,-,-,-,hXs⟩:=hX.tree_inv;have h1:=hXs.slice_len;exact BI k t ks xs ih m ind d w0 B pb s A B_ c e hBd hG h8 hX hok hn hd hd2 Ba hl) x
theorem TG{t:Str}(h:Sk t=true):t≠[]:=by
  rintro rfl
  revert h
  decide
theorem RY(m:Bool)(ind:Nat)(x:Tree)(d:Nat)(h:If x=true):Tg m ind x d≠[]:=by
  obtain⟨k,t,ks,xs⟩:=x;unfold If at h;rw[Bool.and_eq_true]at h;have h1:=(Tf h.2).1;unfold rnodeB at h1;rw[Bool.and_eq_true,decide_eq_true_eq]at h1;obtain⟨h7,h1⟩:=h1;have h7':k≠7:=h7;rw[Tg];split
  ·simp
  split
  ·rename_i h4
   subst h4;simp[nodeB]at h1;rw[qS,if_pos h1.2];simp[Cs]
  split
  ·simp[Bk]
  split
  ·simp[Bk]
  rename_i g1 g4 g5 g6
  simp only[nodeB,if_neg g5,if_neg g6,if_neg g1,if_neg g4,if_neg h7']at h1;split at h1
  ·cases h1
  split at h1
  ·rw[Bool.or_eq_true, decide_eq_true_eq, decide_eq_true_eq]at h1
   rcases h1 with rfl|rfl <;> simp
  split at h1
  ·exact TG h1
  cases h1
theorem AN{x:Tree}(h:If x=true):Qd nodeB x=true:=by
  unfold If at h;rw[Bool.and_eq_true]at h;refine Tree.ind (Q:=λx=>Qd rnodeB x=true->Qd nodeB x=true) (λk t ks xs ih h=>?_) x h.2;rw[Qd,Bool.and_eq_true]at h ⊢;have h1:=h.1;unfold rnodeB at h1;rw[Bool.and_eq_true]at h1;refine⟨h1.2,?_⟩;have key:∀ys:List Tree,(∀y∈ys,y∈xs)->Vp rnodeB ys=true->Vp nodeB ys=true:=by
    intro ys
    induction ys with
    | nil=>intro _ _;rfl
    | cons y ys ihy =>
      intro hm hs;rw[Vp,Bool.and_eq_true]at hs ⊢;exact⟨ih y (hm y La) hs.1,ihy (λz hz=>hm z (by simp[hz])) hs.2⟩
  exact key xs (λ_ h=>h) h.2
theorem Zy{x:Tree}(h:If x=true):Gd x<=32:=by
  unfold If Xq at h;simp only[Bool.and_eq_true,decide_eq_true_eq]at h;exact h.1.2
theorem PN(x:Tree)(S:Nat->Prop)(w0:World)(cs:List Value)(rx:Rep S w0 (Hb x) cs)(hG:Gl w0)(hk:Co x)(hq:GL x)(hsz:Mb x<=1000000000)(hlim:If x=true->(Tg false 0 x 0).length<=140737488355328):Calls prog 54 #[.agg cs.toArray] w0 (Pc λv w'=>v=(if If x=true then .tuple #[I (Tg false 0 x 0),J 0] else .tuple #[I [],J 1])/\Same [] w0 w'):=by
 have hl:cs.length=4:=rx.length.trans (Nc x);have ho:=rx.one_;refine Ea func54 O ntmps54 Db (Rb _) ?_;have hF:=FR.start w0 [];refine Da (Hm (v:=.agg (List.toArray cs)) (cs:=(List.toArray cs)) hF O O ?_);rintro b1 w hb1 hF -;refine Aa (Rf O) (Aa (Kb O) (Ca (Fa (Da (Ja (v:=.agg (List.toArray cs)) (Xa (l:=cs) aZ mZ O hl (hF.cellsAll 0 O)) ?_)))));refine Oa hF (E0 x Ba _ _ _ (hF.rep rx) hk (hG.ext hF.same)) (Ma LJ O O) ?_;intro w hF;refine Aa (Nh O) (Ca ?_);refine Ge O O (λhc0=>?_) (λhc0=>?_);refine Da (Aa (Rf O) (Aa (Kb O) (Ca ?_)));refine Ab (Za (Ka (Vc (v:=I []) (x:=J 1) O O O) ?_));exact⟨by rw[if_neg (by simpa using hc0)],hF.same⟩;refine Na (Ga (Da ?_));refine Jc (cs:=#[.pointer none,aQ,.bool false,J 0]) hF zeroValue134 O ?_;rintro b2 w hb2 hF -;refine Qb (Ja (v:=.agg (List.toArray cs)) (Xa (l:=cs) aZ mZ O hl (hF.cellsAll 1 O)) ?_);have hB:BW w0 [] w b2 b2 134 [.bool false,J ((0:Nat):Int)] []:=BW.own ⟨.inr ⟨rfl,_,_,rfl⟩,gQ _,_,_,hF.heap (i:=0) rfl,World.ownsRow_nil _ _ _ _,.inl rfl⟩ (hF.ge (i:=0) rfl) hF.same.size;have nb1:b1≠b2:=MJ hF.desc (i:=1) (j:=0) rfl rfl Ta;have hge:=hF.ge (i:=0) rfl;have hF:FR w0 [] [(b1,.cells cs.toArray 25)] w:=hF.drop 1;have hXo:Rep (λb=>b∉Wk w b2 b2) w (Hb x) cs:=(rx.old.same hF.same La).weaken λb hb _ hm=>by have h1:=hb.2;rcases Xf.1 hm with rfl|⟨-,h2,-⟩ <;> omega
 refine Ya (WV x false 0 0 _ b2 b2 [] cs hB.bd (hG.ext hF.same) (by have:=hG.size;omega) hXo hq (AN (by simpa using hc0)) Ba (by have:=Zy (x:=x) (by simpa using hc0);omega) (by simpa using hlim (by simpa using hc0))) (Re TK O O O O) ?_;rintro _ w ⟨rfl,hBd2,hE⟩;have hF:=hF.wrote hB hE (by simp[Fj,nb1]);have hB:=hB.wrote hBd2 hE;clear hBd2 hE;refine Qb (Aa (Ob Fi O) ?_);refine Ya (E4 hB.bd (by simpa using RY false 0 x 0 (by simpa using hc0))) (Ma WK O O) ?_;rintro _ w ⟨rfl,hE⟩;have hF:=hF.wrote hB hE (by simp[Fj,nb1]);refine Aa (Rf O) (Aa (Kb O) (Ca ?_));refine Ab (Za (Ka (Vc (v:=I ([]++Tg false 0 x 0)) (x:=J 0) O O O) ?_));exact⟨by rw[if_pos (by simpa using hc0)];rfl,hF.same⟩
end Go.Scarf
