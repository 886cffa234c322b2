/- A part of the proof. -/
import Derived.Lib.AppendStr
import Derived.Lib.Builder
import Derived.Lib.UnsafeStr
import Derived.Lib.RuneBytes
import Derived.Test.YtgkmigdopohcnaaGreatDoorW19
import Derived.Laws.BytesString
import Derived.Lib.TrimU
set_option linter.all false
set_option maxHeartbeats 8000000
set_option maxRecDepth 10000
namespace Go.Scarf
open Go.RowKit Go.Proofs Go.Proofs.Tryz
section
variable {P:Program}{w w' w0:World}{Ds E:List Nat}{bs_:List (Nat × Obj)}
def Rk:Obj->Bool
  | .cells _ e _=>e==5
  | _=>false
def St(w:World)(b:Nat):Bool:=match w.heap[b]? with|some o=>Rk o|none=>false
def Wk(w:World)(B pb:Nat):List Nat:=pb::(List.range w.heap.size).filter λb=>decide (B<=b)&&St w b
theorem Yg{B pb x:Nat}:x∈Wk w B pb↔x=pb\/(x<w.heap.size/\B<=x/\St w x=true):=by simp[Wk]
theorem Fu{b:Nat}{o:Obj}(h:w.heap[b]? = some o):St w b=Rk o:=by simp[St,h]
def Shp(T:Nat)(rest:List Value):Prop:=(T=132/\rest=[])\/(T=134/\∃m i,rest=[.bool m,J i])
theorem Shp.ne{T:Nat}{rest:List Value}(h:Shp T rest):(T==5)=false:=by rcases h with ⟨rfl,-⟩|⟨rfl,-⟩ <;> rfl
structure Bd (w:World) (B pb T:Nat) (rest:List Value) (s:Str):Prop where
  shp:Shp T rest
  le:B<=pb
  ex:∃ap v,w.heap[pb]? = some (.cells (ap::v::rest).toArray T)/\w.ownsRow B 5 1 v s.length (Lib.byteCells s)/\(ap=.pointer none\/ap=V pb)
theorem Bd.lt{B pb T:Nat}{rest:List Value}{s:Str}(h:Bd w B pb T rest s):pb<w.heap.size:=by
  obtain⟨ap,v,hh,-⟩:=h.ex;exact Wb hh
theorem Bd.base{B pb T:Nat}{rest:List Value}{s:Str}(h:Bd w B pb T rest s):B<=w.heap.size:=fQ h.le (Nat.le_of_lt h.lt)
theorem Fo{B n g:Nat}{v:Value}{xs:List Value}(h:w.ownsRow B 5 1 v n xs)(hg:v.ownBlock=some g):g<w.heap.size/\B<=g/\St w g=true:=by
  rcases h.2 with ⟨rfl,-⟩|⟨g',cap,cur,rfl,h1,h2,-⟩
  ·cases hg
  cases hg;exact⟨Wb h2,h1,by rw[Fu h2];rfl⟩
theorem LC{B n g pb:Nat}{v:Value}{xs:List Value}(h:w.ownsRow B 5 1 v n xs)(hg:v.ownBlock=some g):g∈Wk w B pb:=Yg.2 (.inr (Fo h hg))
theorem Xs{B n g pb:Nat}{v:Value}{xs:List Value}{o:Obj}(h:w.ownsRow B 5 1 v n xs)(hg:v.ownBlock=some g)(hh:w.heap[pb]? = some o)(ho:Rk o=false):g≠pb:=by
  rintro rfl;have h1:=(Fo h hg).2.2;rw[Fu hh,ho]at h1;cases h1
theorem Kj{B n:Nat}{v:Value}{xs:List Value}(h:w.ownsRow B 5 1 v n xs)(hs:Same E w w')(he:∀g,v.ownBlock=some g->g∉E):w'.ownsRow B 5 1 v n xs:=by
  refine⟨h.1,?_⟩;rcases h.2 with h2|⟨g,cap,cur,rfl,h1,h2,h3⟩
  ·exact .inl h2
  exact .inr ⟨g,cap,cur,O,h1,(hs.block g (Wb h2) (he g O)).trans h2,h3⟩
theorem Wh{B n:Nat}{v:Value}{xs:List Value}(h:w.ownsRow B 5 1 v n xs):∃A c,v=.slice A n c:=by
  rcases h.2 with ⟨rfl,rfl⟩|⟨g,cap,cur,rfl,-⟩
  ·exact⟨_,_,O⟩
  exact⟨_,_,O⟩
theorem Wk.step{B pb x:Nat}(hs:Same (Wk w B pb) w w')(hx:x∈Wk w' B pb):x∈Wk w B pb\/w.heap.size<=x:=by
  by_cases h:x<w.heap.size
  ·by_cases hm : x ∈ Wk w B pb
   ·exact .inl hm
   rcases Yg.1 hx with rfl|⟨h1, h2, h3⟩
   ·exact .inl (Yg.2 (.inl O))
   refine absurd (Yg.2 (.inr ⟨h, h2, ?_⟩)) hm;rw[St,<-hs.block x h hm];exact h3
  exact .inr Aa
theorem FR.grown{g:Option Nat}(h:FR w0 Ds bs_ w)(hg:w.grownBy w' g)(hr:∀b,g=some b->(b<w0.heap.size->b∈Ds)/\∀p∈bs_,p.1≠b):FR w0 Ds bs_ w':=by
  have hs:Same g.toList w w':=⟨hg.os,hg.tape,hg.output,hg.size,λb hb hn=>hg.block b hb (λe=>hn (by simp[<-e]))⟩;exact h.touch hs (λb hb=>hr b (by simpa using hb))
theorem Oo(s t:Str):Lib.byteCells (s++t)=Lib.byteCells s++Lib.byteCells t:=Lib.byteCells_append s t
end
section
variable {P:Program}{w:World}{ρ:Operand->Value}{dst:Option Nat}{ty:TypeId}{pos:String}{aft:Array Edge}{g:Option (Nat × Bool)}
theorem AN{t t' te:Nat}{x y:Operand}(ht:P.underlying t=some (.pointer te))(hx:ρ x=.pointer none)(hy:ρ y=.pointer none) :
    (execOp ρ ⟨dst,.binOp .eql t x y t',ty,pos,aft,g⟩).run P w=.ok (.value (.bool true)) w:=by
  have h:∀d:Nat,(Op.equalIn (d+1) t (.pointer none) (.pointer none)).run P w=.ok true w:=λd=>by
    simp[Op.equalIn,run_underlying ht]
  have hg:(eqGuard .eql t x y (.pointer none) (.pointer none)).run P w=.ok () w:=by unfold eqGuard;split <;> simp
  simp only[execOp,hx,hy,Sem.run_bind,hg,Result.andThen_ok,binOp];simp[Op.equal,Op.maxDepth,h 9999]
theorem OM{t t' te:Nat}{x y:Operand}{a:Addr}(ht:P.underlying t=some (.pointer te))(hx:ρ x=.pointer (some a))(hy:ρ y=.pointer none) :
    (execOp ρ ⟨dst,.binOp .eql t x y t',ty,pos,aft,g⟩).run P w=.ok (.value (.bool false)) w:=by
  have h:∀d:Nat,(Op.equalIn (d+1) t (.pointer (some a)) (.pointer none)).run P w=.ok false w:=λd=>by
    simp[Op.equalIn,run_underlying ht]
  have hg:(eqGuard .eql t x y (.pointer (some a)) (.pointer none)).run P w=.ok () w:=by unfold eqGuard;split <;> simp
  simp only[execOp,hx,hy,Sem.run_bind,hg,Result.andThen_ok,binOp];simp[Op.equal,Op.maxDepth,h 9999]
theorem RZ{t t' te:Nat}{x y:Operand}{a:Addr}{j:TypeInfo}(ht:P.underlying t=some (.pointer te))(hte:P.info? te=some j)(hx:ρ x=.pointer (some a))(hy:ρ y=.pointer (some a)) :
    (execOp ρ ⟨dst,.binOp .neq t x y t',ty,pos,aft,g⟩).run P w=.ok (.value (.bool false)) w:=by
  have h:=Lib.run_neq_ptr_same w a ht hte;have hg:(eqGuard .neq t x y (.pointer (some a)) (.pointer (some a))).run P w=.ok () w:=by unfold eqGuard;split <;> simp
  simp only[execOp,hx,hy,Sem.run_bind,hg,Result.andThen_ok,h,Sem.run_pure]
theorem H4{t t':Nat}{x:Operand}{v:Value}(hx:ρ x=v)(h:(convert t t' v).run P w=.ok v w):(execOp ρ ⟨dst,.convert t t' x,ty,pos,aft,g⟩).run P w=.ok (.value v) w:=by
  simp[execOp,hx,h]
theorem MX {f:FuncId} {fn:Func} {e:Array Value->Sem Value} {x1:Operand} {ats:Array TypeId} {v1 v:Value} (hf:P.funcs[f]? = some fn) (hname:(fn.name == "runtime.NumGoroutine")=false)
    (hb:fn.body.isNone=true) (hn:Extern.findNext fn=none) (he:Extern.find fn=some e) (h0:ρ (.func f)=.func (.func f) #[] #[]) (h1:ρ x1=v1) (hr:(e #[v1]).run P w=.ok v w) :
    (execOp ρ ⟨dst,.call ⟨.value (.func f),#[x1],ats⟩,ty,pos,aft,g⟩).run P w=.ok (.value v) w:=by
  simp[execOp,resolve,Deferred.ofValue,h0,h1,invoke,run_callFunc_extern hf hname hb hn he,hr]
theorem x_usd{x:Operand}{ats:Array TypeId}{a:Addr}{n c:Nat}(hx:ρ x=.slice (some a) n c)(hc:c≠0):(execOp ρ ⟨dst,.call ⟨.builtin .unsafeSliceData,#[x],ats⟩,ty,pos,aft,g⟩).run P w=.ok (.value (.pointer (some a))) w:=by
  simp[execOp,resolve,invoke,builtin,hx,Lib.run_unsafeSliceData_row w ats ty a n c hc]
theorem LW{x y:Operand}{t1 t2:Nat}{u v r:Value}{w':World}(hx:ρ x=u)(hy:ρ y=v)(h:(Builtin.unsafeString_ #[t1,t2] ty #[u,v]).run P w=.ok r w'):(execOp ρ ⟨dst,.call ⟨.builtin .unsafeString,#[x,y],#[t1,t2]⟩,ty,pos,aft,g⟩).run P w=.ok (.value r) w':=by
  simp[execOp,resolve,invoke,builtin,hx,hy,h]
theorem ZR{x y:Operand}{t1 t2:TypeId}{u v:Value}{r:Value}{w':World}(hx:ρ x=u)(hy:ρ y=v)(h:(Builtin.append_ #[t1,t2] ty #[u,v]).run P w=.ok r w') :
    (execOp ρ ⟨dst,.call ⟨.builtin .append,#[x,y],#[t1,t2]⟩,ty,pos,aft,g⟩).run P w=.ok (.value r) w':=by
  simp[execOp,resolve,invoke,builtin,hx,hy,h]
end
section
variable {P:Program}{R:Exit->Act->World->Prop}{n:Nat}{kt:Kt}{s:Nat->Value}{w:World}{ops rest:List Oper}
variable {d:Nat}{ty:TypeId}{pos:String}{aft:Array Edge}{g:Option (Nat × Bool)}
variable {w0:World}{Ds:List Nat}{bs_:List (Nat × Obj)}
theorem LY{x y:Operand}{t B len c2 k:Nat}{v:Value}{xs news:List Value}{a:Addr}(hE:Elems P t 5 1 1)
    (hF:FR w0 Ds bs_ w) (hO:w.ownsRow B 5 1 v len xs) (hB:B<=w.heap.size) (hx:ev n s x=v) (hy:ev n s y=.slice (some a) k c2)
    (hl:news.length=k*1) (hnews:∀j u,news[j]? = some u->w.cell? (a.add j)=some u) (h1:∀u∈news,u.oneCell'=true) (hb:len+k<=140737488355328)
    (hr:∀b,v.ownBlock=some b->(b<w0.heap.size->b∈Ds)/\∀p∈bs_,p.1≠b)
    (h:∀v' w',w'.ownsRow B 5 1 v' (len+k) (xs++news)->FR w0 Ds bs_ w'->w.heap.size<=w'.heap.size->Og P R n ops kt rest (Af s d v') w')
    (hw:Fb ops n s ⟨some d,.call ⟨.builtin .append,#[x,y],#[t,t]⟩,ty,pos,aft,g⟩=true:=by rfl):Og P R n ops kt (⟨some d,.call ⟨.builtin .append,#[x,y],#[t,t]⟩,ty,pos,aft,g⟩::rest) s w:=by
  obtain⟨i,z,hi,hz,h2,h3,h4⟩:=hE.info;obtain⟨v',w',hr',hO',hg,-⟩:=run_append_own (P:=P) w B t ty 5 i z 1 1 hE.ht hi hz h2 h3 h4 Ab v len xs hO a k c2 news hl hnews h1 (by unfold maxLen;omega) Aa hB;exact Ka (Fv hx hy hr') (h v' w' hO' (hF.grown hg hr) hg.size) hw
theorem EV{x y:Operand}{t u B len:Nat}{v:Value}{xs:List Value}{str:Str}(hE:Elems P t 5 1 1)(hz0:(P.info? 5).map (·.zero)=some (some (.int .u8 0)))(hu:P.underlying u=some .string)
    (hF:FR w0 Ds bs_ w) (hO:w.ownsRow B 5 1 v len xs) (hB:B<=w.heap.size) (hx:ev n s x=v) (hy:ev n s y=I str) (hb:len+str.length<=140737488355328)
    (hr:∀b,v.ownBlock=some b->(b<w0.heap.size->b∈Ds)/\∀p∈bs_,p.1≠b)
    (h:∀v' w',w'.ownsRow B 5 1 v' (len+str.length) (xs++Lib.byteCells str)->FR w0 Ds bs_ w'->w.heap.size<=w'.heap.size->Og P R n ops kt rest (Af s d v') w')
    (hw:Fb ops n s ⟨some d,.call ⟨.builtin .append,#[x,y],#[t,u]⟩,ty,pos,aft,g⟩=true:=by rfl):Og P R n ops kt (⟨some d,.call ⟨.builtin .append,#[x,y],#[t,u]⟩,ty,pos,aft,g⟩::rest) s w:=by
  obtain⟨i,z,hi,hz,h2,h3,h4⟩:=hE.info;rw[hi]at hz0;have hz1:i.zero=some (.int .u8 0):=by simpa using hz0
  have e:(bs str).size=str.length:=Eo str;obtain⟨v',w',hr',hO',hg,-⟩:=Lib.run_append_own_string (P:=P) w B t u ty 5 i hE.ht hu hi hz1 h2 h3 v len xs hO (bs str) (by rw[e];unfold maxLen;omega) (by rw[e];omega) hB;rw[e]at hO';exact Ka (ZR hx hy hr') (h v' w' (by simpa[Lib.strCells_eq,Gn,bs]using hO') (hF.grown hg hr) hg.size) hw
end
theorem FY:liesAt prog prog.depth 132 (2/prog.cellsOf 132) 0 132 1=true:=by kernel_rfl
theorem lies_prn:liesAt prog prog.depth 134 (4/prog.cellsOf 134) 0 132 1=true:=by kernel_rfl
theorem Ez:(prog.info? 132).map (·.size)=some 2:=by kernel_rfl
theorem KB(w0:World)(pb:Nat)(v:Value)(hh:w0.heap[pb]? = some (.cells #[.pointer none,v] 132)):Calls prog 176 #[V pb] w0 (Dd λv_ w'=>v_=.tuple #[]/\Same [pb] w0 w'/\w'.heap[pb]? = some (.cells #[V pb,v] 132)):=by
 obtain⟨j,hj,hjs⟩:=Option.map_eq_some_iff.1 Ez;have hne:pb<w0.heap.size:=Wb hh;refine Ia func176 O ntmps176 Eb (Yb _) ?_;have hF:FR w0 [pb] [(pb,.cells #[.pointer none,v] 132)] w0:=FR.open_ (by simpa using hh) Ma;refine Ea (Ba (Xg O) (Ba (Ij O) (Ba (Ob Tn O) (Zb (W8 isAgg129 O hF.F 0 O O) (Ka (v:=.bool true) (AN uZ O O) (Da (Ad O (Ha (Ba (Xg O) (Ba (Xg O) ?_))))))))));refine Ka (v:=V pb) (H4 O (Lib.run_to_unsafe _ ⟨pb,0,none⟩ uZ underlying251 hj (by rw[hjs];decide) (e:=132) (cells:=2) (by simp[World.shape?,hF.heap (i:=0) O]) (Nat.zero_lt_succ _))) ?_;refine Ka (v:=V pb) (MX func210 Ub Ub Ub (e:=Extern.AbiNoEscape.same) Ub O O (Lib.run_noEscape _ _)) (Ka (v:=V pb) (H4 O (Lib.run_from_unsafe _ ⟨pb,0,none⟩ underlying251 uZ hj (e:=132) (cells:=2) (by simp[World.shape?,hF.heap (i:=0) O]) FY)) ?_);refine Ba (Ij O) (Ba (Ob Tn O) ?_);refine Ml (.pointer _) hF sizeOf129 O O Zg Zg ?_;rintro w hF -;refine Ta (Dh (Ze (Bk O) ?_));exact⟨O,hF.same,hF.heap (i:=0) O⟩
theorem BC(w0:World)(pb:Nat)(v:Value)(m:Bool)(i:Int)(hh:w0.heap[pb]? = some (.cells #[.pointer none,v,.bool (m),J i] 134)):Calls prog 176 #[V pb] w0 (Dd λv_ w'=>v_=.tuple #[]/\Same [pb] w0 w'/\w'.heap[pb]? = some (.cells #[V pb,v,.bool (m),J i] 134)):=by
 obtain⟨j,hj,hjs⟩:=Option.map_eq_some_iff.1 Ez;have hne:pb<w0.heap.size:=Wb hh;refine Ia func176 O ntmps176 Eb (Yb _) ?_;have hF:FR w0 [pb] [(pb,.cells #[.pointer none,v,.bool (m),J i] 134)] w0:=FR.open_ (by simpa using hh) Ma;refine Ea (Ba (Xg O) (Ba (Ij O) (Ba (Ob Tn O) (Zb (W8 isAgg129 O hF.F 0 O O) (Ka (v:=.bool true) (AN uZ O O) (Da (Ad O (Ha (Ba (Xg O) (Ba (Xg O) ?_))))))))));refine Ka (v:=V pb) (H4 O (Lib.run_to_unsafe _ ⟨pb,0,none⟩ uZ underlying251 hj (by rw[hjs];decide) (e:=134) (cells:=4) (by simp[World.shape?,hF.heap (i:=0) O]) (Nat.zero_lt_succ _))) ?_;refine Ka (v:=V pb) (MX func210 Ub Ub Ub (e:=Extern.AbiNoEscape.same) Ub O O (Lib.run_noEscape _ _)) (Ka (v:=V pb) (H4 O (Lib.run_from_unsafe _ ⟨pb,0,none⟩ underlying251 uZ hj (e:=134) (cells:=4) (by simp[World.shape?,hF.heap (i:=0) O]) lies_prn)) ?_);refine Ba (Ij O) (Ba (Ob Tn O) ?_);refine Ml (.pointer _) hF sizeOf129 O O Zg Zg ?_;rintro w hF -;refine Ta (Dh (Ze (Bk O) ?_));exact⟨O,hF.same,hF.heap (i:=0) O⟩
theorem XB(w0:World)(pb:Nat)(v:Value)(hh:w0.heap[pb]? = some (.cells #[V pb,v] 132)):Calls prog 176 #[V pb] w0 (Dd λv_ w'=>v_=.tuple #[]/\Same [pb] w0 w'/\w'.heap[pb]? = some (.cells #[V pb,v] 132)):=by
 obtain⟨j,hj,hjs⟩:=Option.map_eq_some_iff.1 Ez;have hne:pb<w0.heap.size:=Wb hh;refine Ia func176 O ntmps176 Eb (Yb _) ?_;have hF:FR w0 [pb] [(pb,.cells #[V pb,v] 132)] w0:=FR.open_ (by simpa using hh) Ma;refine Ea (Ba (Xg O) (Ba (Ij O) (Ba (Ob Tn O) (Zb (W8 isAgg129 O hF.F 0 O O) (Ka (v:=.bool false) (OM uZ O O) (Da (De O (Ea (Ba (Xg O) (Ba (Ij O) ?_))))))))));refine Ba (Ob Tn O) (Zb (W8 isAgg129 O hF.F 0 O O) (Ba (Xg O) (Ka (v:=.bool false) (RZ uZ hj O O) (Da (De O (La ?_))))));refine Dh (Ze (Bk O) ?_);exact⟨O,hF.same,hF.heap (i:=0) O⟩
theorem BD(w0:World)(pb:Nat)(v:Value)(m:Bool)(i:Int)(hh:w0.heap[pb]? = some (.cells #[V pb,v,.bool (m),J i] 134)):Calls prog 176 #[V pb] w0 (Dd λv_ w'=>v_=.tuple #[]/\Same [pb] w0 w'/\w'.heap[pb]? = some (.cells #[V pb,v,.bool (m),J i] 134)):=by
 obtain⟨j,hj,hjs⟩:=Option.map_eq_some_iff.1 Ez;have hne:pb<w0.heap.size:=Wb hh;refine Ia func176 O ntmps176 Eb (Yb _) ?_;have hF:FR w0 [pb] [(pb,.cells #[V pb,v,.bool (m),J i] 134)] w0:=FR.open_ (by simpa using hh) Ma;refine Ea (Ba (Xg O) (Ba (Ij O) (Ba (Ob Tn O) (Zb (W8 isAgg129 O hF.F 0 O O) (Ka (v:=.bool false) (OM uZ O O) (Da (De O (Ea (Ba (Xg O) (Ba (Ij O) ?_))))))))));refine Ba (Ob Tn O) (Zb (W8 isAgg129 O hF.F 0 O O) (Ba (Xg O) (Ka (v:=.bool false) (RZ uZ hj O O) (Da (De O (La ?_))))));refine Dh (Ze (Bk O) ?_);exact⟨O,hF.same,hF.heap (i:=0) O⟩
theorem Wl{w0:World}{B pb T:Nat}{rest:List Value}{s:Str}(h:Bd w0 B pb T rest s) :
    ∃v, w0.ownsRow B 5 1 v s.length (Lib.byteCells s) /\ (∀g, v.ownBlock = some g -> g ∈ Wk w0 B pb /\ g ≠ pb) /\
      Calls prog 176 #[V pb] w0 (Dd λu w'=>u=.tuple #[]/\Same [pb] w0 w'/\w'.heap[pb]? = some (.cells (V pb::v::rest).toArray T)/\w'.ownsRow B 5 1 v s.length (Lib.byteCells s)):=by
  obtain⟨hs,hle,ap,v,hh,hO,ha⟩:=h;have hne:∀g,v.ownBlock=some g->g≠pb:=λg hg=>Xs hO hg hh (by exact hs.ne);refine⟨v,hO,λg hg=>⟨LC hO hg,hne g hg⟩,?_⟩;have fin:∀{u:Value}{w':World},(u=.tuple #[]/\Same [pb] w0 w'/\w'.heap[pb]? = some (.cells (V pb::v::rest).toArray T))->(u=.tuple #[]/\Same [pb] w0 w'/\w'.heap[pb]? = some (.cells (V pb::v::rest).toArray T)/\w'.ownsRow B 5 1 v s.length (Lib.byteCells s)) :=
    λ⟨h1,h2,h3⟩=>⟨h1,h2,h3,Kj hO h2 (λg hg=>by simpa using hne g hg)⟩
  rcases hs with ⟨rfl,rfl⟩|⟨rfl,m,i,rfl⟩ <;> rcases ha with rfl|rfl
  ·exact El (KB w0 pb v hh) λ_ _=>fin
  ·exact El (XB w0 pb v hh) λ_ _=>fin
  ·exact El (BC w0 pb v m i hh) λ_ _=>fin
  exact El (BD w0 pb v m i hh) λ_ _=>fin
theorem HA:(prog.info? 5).map (·.zero)=some (some (.int .u8 0)):=by kernel_rfl
theorem FR.addD{w0 w:World}{Ds:List Nat}{bs_:List (Nat × Obj)}{b:Nat}{o:Obj}(h:FR w0 Ds bs_ w)(hh:w.heap[b]? = some o)(hd:w0.heap.size<=b\/b∈Ds)(hn:∀p∈bs_,p.1≠b):FR w0 Ds ((b,o)::bs_) w :=
  ⟨h.same,λp hp=>by
    rcases oQ.1 hp with rfl|hp
    ·exact⟨hh,hd⟩
    exact h.own p hp,List.pairwise_cons.2 ⟨λq hq=>hn q hq,h.desc⟩⟩
def Kh(r:Int):Str:=(Lib.encodeRuneZ r).map λx=>UInt8.ofNat x.toNat
theorem Yh(r:Int):1<=(Kh r).length/\(Kh r).length<=4:=by rw[Kh,rQ];exact Lib.encodeRuneZ_length r
theorem Zi(r:Int):Lib.byteCells (Kh r)=Lib.runeCells r:=by
  rw[Kh,Lib.byteCells,Lib.runeCells,List.map_map];refine List.map_congr_left λx hx=>?_;have:=Lib.encodeRuneZ_byte r x hx;simp only[Function.comp_apply,Value.int.injEq,true_and,UInt8.toNat_ofNat'];omega
theorem Yy{w:World}{B n:Nat}{v:Value}{xs:List Value}{r:Int}(hO:w.ownsRow B 5 1 v n xs)(h0:-2147483648<=r)(h1:r<=2147483647)(hn:n+4<=140737488355328)(hB:B<=w.heap.size) :
    Calls prog 246 #[v,.int .i32 r] w (Dd λv' w'=>w'.ownsRow B 5 1 v' (n+(Kh r).length) (xs++Lib.byteCells (Kh r))/\∃o,(w.alloc o).grownBy w' v.ownBlock):=by
  refine (utf8_AppendRune_plain B v n xs r h0 h1 w hO hn hB).mono λe w' ⟨v',he,h2,h3⟩=>⟨v',he,?_,h3⟩;have e1:(Kh r).length=(Lib.runeCells r).length:=by rw[<-Zi,Lib.byteCells_length]
  rw[e1,Zi];exact h2
def Hy(f:Nat)(args:Array Value)(u:Value)(w0:World)(B pb T:Nat)(rest:List Value)(s:Str):Prop :=
  Calls prog f args w0 (Dd λv w'=>v=u/\Bd w' B pb T rest s/\Same (Wk w0 B pb) w0 w')
theorem SD(w0:World)(B pb:Nat)(s:Str)(hB:Bd w0 B pb 132 [] s)(c:UInt8)(hl:s.length+1<=140737488355328):Hy 178 #[V pb,.int .u8 ((c.toNat:Nat):Int)] .nilIface w0 B pb 132 [] (s++[c]):=by
 unfold Hy;refine Ia func178 O ntmps178 Eb (Pc _ _) ?_;obtain⟨v,hO0,hv,hC⟩:=Wl hB;have hle:=hB.le;have hBw:=hB.base;have hlt:=hB.lt;have hws:=gQ w0.heap.size;have hvl:∀g,v.ownBlock=some g->g<w0.heap.size:=λg hg=>(Fo hO0 hg).1;obtain⟨A1,c1,rfl⟩:=Wh hO0;have hF:=FR.start w0 (Wk w0 B pb);refine Ea (Ba (T0) (Rb (Ba (Xg O) ?_)));refine Lb hC (Na C2 O O) ?_;rintro _ w ⟨rfl,hE,hh,hO⟩;have hws:=fQ hws hE.size;have hBw:=fQ hBw hE.size;have hF:FR w0 (Wk w0 B pb) [(pb,.cells #[V pb,.slice A1 s.length c1] 132)] w:=(hF.touch hE (λb hb=>by obtain rfl:=pQ.1 hb;exact⟨λ_=>Yg.2 (.inl rfl),by simp⟩)).addD hh (.inr (Yg.2 (.inl rfl))) Ma;clear hE hh;refine Rb (Ba (Xg O) (Ba (Xg O) (Ba (Ij O) (Ba (Ob Ef O) (Zb (Xe tQ O hF.F 0 O O) (Ba (Za O) ?_))))));refine Rl 1 hF (Nb (cs:=#[.int .u8 ((c.toNat:Nat))]) vZ sizeOf5 zeroValue5 Ab Ab Ub) ?_;intro b1 w hb1 hF hE;have nb1:w0.heap.size<=b1:=by rw[hb1];exact hws
 have hws:=fQ hws hE.size;have hBw:=fQ hBw hE.size;have hO:=Kj hO hE Ma;refine LY (news:=[.int .u8 ((c.toNat:Nat):Int)]) XA hF hO hBw rfl rfl rfl (Vd (hF.cellsAll 0 rfl)) (by simp[Value.oneCell']) Aa (λb hb=>⟨λ_=>(hv b hb).1,by have h1:=(hv b hb).2;have h2:=hvl b hb;intro p hp;simp only[oQ,List.not_mem_nil,or_false]at hp;rcases hp with rfl|rfl <;> grind⟩) ?_;clear hF hO;intro v2 w hO hF hsz;have hws:=fQ hws hsz;have hBw:=fQ hBw hsz;have hne2:∀g,v2.ownBlock=some g->g≠pb:=λg hg=>Xs hO hg (hF.heap (i:=1) rfl) rfl;obtain⟨A2,c2,rfl⟩:=Wh hO;clear hsz;refine Ba (Ij O) (Ba (Ob Ef O) ?_);refine Ml (.slice _ _ _) hF sizeOf130 O O Js Js ?_;intro w hF hE;have hws:=fQ hws hE.size;have hBw:=fQ hBw hE.size;have hO:=Kj hO hE (λg hg=>by simpa using hne2 g hg);refine Rb (Ba (T0) (Da ?_));refine Gc (v:=.nilIface) O O ?_;exact⟨O,⟨.inl ⟨O,O⟩,hle,_,_,hF.heap (i:=1) O,by simpa[Oo,Lib.byteCells,Zi]using hO,.inr O⟩,hF.same⟩
theorem N8(w0:World)(B pb:Nat)(s:Str)(hB:Bd w0 B pb 132 [] s)(t:Str)(hl:s.length+t.length<=140737488355328):Hy 135 #[V pb,I t] (.tuple #[J ((t.length:Nat):Int),.nilIface]) w0 B pb 132 [] (s++t):=by
 unfold Hy;refine Ia func135 O ntmps135 Eb (Pc _ _) ?_;obtain⟨v,hO0,hv,hC⟩:=Wl hB;have hle:=hB.le;have hBw:=hB.base;have hlt:=hB.lt;have hws:=gQ w0.heap.size;have hvl:∀g,v.ownBlock=some g->g<w0.heap.size:=λg hg=>(Fo hO0 hg).1;obtain⟨A1,c1,rfl⟩:=Wh hO0;have hF:=FR.start w0 (Wk w0 B pb);refine Ea (Ba (Gb O) (Ba (T0) (Rb (Ba (Xg O) ?_))));refine Lb hC (Na C2 O O) ?_;rintro _ w ⟨rfl,hE,hh,hO⟩;have hws:=fQ hws hE.size;have hBw:=fQ hBw hE.size;have hF:FR w0 (Wk w0 B pb) [(pb,.cells #[V pb,.slice A1 s.length c1] 132)] w:=(hF.touch hE (λb hb=>by obtain rfl:=pQ.1 hb;exact⟨λ_=>Yg.2 (.inl rfl),by simp⟩)).addD hh (.inr (Yg.2 (.inl rfl))) Ma;clear hE hh;refine Rb (Ba (Xg O) (Ba (Xg O) (Ba (Ij O) (Ba (Ob Ef O) (Zb (Xe tQ O hF.F 0 O O) (Ba (Bc O) ?_))))));refine EV (str:=t) XA HA jX hF hO hBw rfl rfl Aa (λb hb=>⟨λ_=>(hv b hb).1,by have h1:=(hv b hb).2;have h2:=hvl b hb;intro p hp;simp only[oQ,List.not_mem_nil,or_false]at hp;rcases hp with rfl <;> grind⟩) ?_;clear hF hO;intro v2 w hO hF hsz;have hws:=fQ hws hsz;have hBw:=fQ hBw hsz;have hne2:∀g,v2.ownBlock=some g->g≠pb:=λg hg=>Xs hO hg (hF.heap (i:=0) rfl) rfl;obtain⟨A2,c2,rfl⟩:=Wh hO;clear hsz;refine Ba (Ij O) (Ba (Ob Ef O) ?_);refine Ml (.slice _ _ _) hF sizeOf130 O O Zg Js ?_;intro w hF hE;have hws:=fQ hws hE.size;have hBw:=fQ hBw hE.size;have hO:=Kj hO hE (λg hg=>by simpa using hne2 g hg);refine Rb (Ba (Bc O) (Ba (Fj jX O) (Ba (Gb O) (Ba (T0) (Da ?_)))));refine Va (Ua (Ja (Ic (v:=J ((((t):Str).length:Int))) (x:=.nilIface) O O O) ?_));exact⟨O,⟨.inl ⟨O,O⟩,hle,_,_,hF.heap (i:=0) O,by simpa[Oo,Lib.byteCells,Zi]using hO,.inr O⟩,hF.same⟩
theorem IH(w0:World)(B pb:Nat)(s:Str)(hB:Bd w0 B pb 132 [] s)(r:Int)(hr0:-2147483648<=r)(hr1:r<=2147483647)(hl:s.length+4<=140737488355328):Hy 212 #[V pb,.int .i32 r] (.tuple #[J (((Kh r).length:Nat):Int),.nilIface]) w0 B pb 132 [] (s++Kh r):=by
 unfold Hy;have hrl:=Yh r;refine Ia func212 O ntmps212 Eb (Pc _ _) ?_;obtain⟨v,hO0,hv,hC⟩:=Wl hB;have hle:=hB.le;have hBw:=hB.base;have hlt:=hB.lt;have hws:=gQ w0.heap.size;have hvl:∀g,v.ownBlock=some g->g<w0.heap.size:=λg hg=>(Fo hO0 hg).1;obtain⟨A1,c1,rfl⟩:=Wh hO0;have hF:=FR.start w0 (Wk w0 B pb);refine Ea (Ba (Gb O) (Ba (T0) (Rb (Ba (Xg O) ?_))));refine Lb hC (Na C2 O O) ?_;rintro _ w ⟨rfl,hE,hh,hO⟩;have hws:=fQ hws hE.size;have hBw:=fQ hBw hE.size;have hF:FR w0 (Wk w0 B pb) [(pb,.cells #[V pb,.slice A1 s.length c1] 132)] w:=(hF.touch hE (λb hb=>by obtain rfl:=pQ.1 hb;exact⟨λ_=>Yg.2 (.inl rfl),by simp⟩)).addD hh (.inr (Yg.2 (.inl rfl))) Ma;clear hE hh;refine Rb (Ba (Xg O) (Ba (Ij O) (Ba (Ob Ef O) (Zb (Xe tQ O hF.F 0 O O) (Ba (Ch vZ O) (Ba (Gb O) (Rb ?_)))))));refine Ba (Xg O) (Ba (Xg O) (Ba (Ij O) (Ba (Ob Ef O) (Zb (Xe tQ O hF.F 0 O O) (Ba (Za O) ?_)))));refine Lb (Yy hO hr0 hr1 Aa hBw) (Xa HW O O O) ?_;rintro v2 w2 ⟨hO2,o,hg⟩;have hF:=(hF.ext (Same.alloc _ o)).grown hg (λb hb=>⟨λ_=>(hv b hb).1,by have h1:=(hv b hb).2;have h2:=hvl b hb;intro p hp;simp only[oQ,List.not_mem_nil,or_false]at hp;rcases hp with rfl <;> grind⟩);have hsz:=fQ (Same.alloc _ o).size hg.size;clear hO hg;revert hsz hF hO2;generalize w2=w;intro hO hF hsz;have hws:=fQ hws hsz;have hBw:=fQ hBw hsz;have hne2:∀g,v2.ownBlock=some g->g≠pb:=λg hg=>Xs hO hg (hF.heap (i:=0) rfl) rfl;obtain⟨A2,c2,rfl⟩:=Wh hO;clear hsz;refine Ba (Ij O) (Ba (Ob Ef O) ?_);refine Ml (.slice _ _ _) hF sizeOf130 O O Zg Js ?_;intro w hF hE;have hws:=fQ hws hE.size;have hBw:=fQ hBw hE.size;have hO:=Kj hO hE (λg hg=>by simpa using hne2 g hg);refine Rb (Ba (Xg O) (Ba (Ij O) (Ba (Ob Ef O) (Zb (Xe tQ O hF.F 0 O O) (Ba (Ch vZ O) (Ba (Za O) (Ba (XQ (((Kh r).length:Nat)) O O) (Ba (Gb O) (Ba (T0) (Ta ?_))))))))))
 refine Fa (Va (Ua (Ja (Ic (v:=J (((Kh r).length:Nat))) (x:=.nilIface) O O O) ?_)));exact⟨O,⟨.inl ⟨O,O⟩,hle,_,_,hF.heap (i:=0) O,by simpa[Oo,Lib.byteCells,Zi]using hO,.inr O⟩,hF.same⟩
theorem RE(w0:World)(B pb:Nat)(m:Bool)(i:Int)(s:Str)(hB:Bd w0 B pb 134 [.bool (m),J i] s)(c:UInt8)(hl:s.length+1<=140737488355328):Hy 178 #[V pb,.int .u8 ((c.toNat:Nat):Int)] .nilIface w0 B pb 134 [.bool (m),J i] (s++[c]):=by
 unfold Hy;refine Ia func178 O ntmps178 Eb (Pc _ _) ?_;obtain⟨v,hO0,hv,hC⟩:=Wl hB;have hle:=hB.le;have hBw:=hB.base;have hlt:=hB.lt;have hws:=gQ w0.heap.size;have hvl:∀g,v.ownBlock=some g->g<w0.heap.size:=λg hg=>(Fo hO0 hg).1;obtain⟨A1,c1,rfl⟩:=Wh hO0;have hF:=FR.start w0 (Wk w0 B pb);refine Ea (Ba (T0) (Rb (Ba (Xg O) ?_)));refine Lb hC (Na C2 O O) ?_;rintro _ w ⟨rfl,hE,hh,hO⟩;have hws:=fQ hws hE.size;have hBw:=fQ hBw hE.size;have hF:FR w0 (Wk w0 B pb) [(pb,.cells #[V pb,.slice A1 s.length c1,.bool (m),J i] 134)] w:=(hF.touch hE (λb hb=>by obtain rfl:=pQ.1 hb;exact⟨λ_=>Yg.2 (.inl rfl),by simp⟩)).addD hh (.inr (Yg.2 (.inl rfl))) Ma;clear hE hh;refine Rb (Ba (Xg O) (Ba (Xg O) (Ba (Ij O) (Ba (Ob Ef O) (Zb (Xe tQ O hF.F 0 O O) (Ba (Za O) ?_))))));refine Rl 1 hF (Nb (cs:=#[.int .u8 ((c.toNat:Nat))]) vZ sizeOf5 zeroValue5 Ab Ab Ub) ?_;intro b1 w hb1 hF hE;have nb1:w0.heap.size<=b1:=by rw[hb1];exact hws
 have hws:=fQ hws hE.size;have hBw:=fQ hBw hE.size;have hO:=Kj hO hE Ma;refine LY (news:=[.int .u8 ((c.toNat:Nat):Int)]) XA hF hO hBw rfl rfl rfl (Vd (hF.cellsAll 0 rfl)) (by simp[Value.oneCell']) Aa (λb hb=>⟨λ_=>(hv b hb).1,by have h1:=(hv b hb).2;have h2:=hvl b hb;intro p hp;simp only[oQ,List.not_mem_nil,or_false]at hp;rcases hp with rfl|rfl <;> grind⟩) ?_;clear hF hO;intro v2 w hO hF hsz;have hws:=fQ hws hsz;have hBw:=fQ hBw hsz;have hne2:∀g,v2.ownBlock=some g->g≠pb:=λg hg=>Xs hO hg (hF.heap (i:=1) rfl) rfl;obtain⟨A2,c2,rfl⟩:=Wh hO;clear hsz;refine Ba (Ij O) (Ba (Ob Ef O) ?_);refine Ml (.slice _ _ _) hF sizeOf130 O O Js Js ?_;intro w hF hE;have hws:=fQ hws hE.size;have hBw:=fQ hBw hE.size;have hO:=Kj hO hE (λg hg=>by simpa using hne2 g hg);refine Rb (Ba (T0) (Da ?_));refine Gc (v:=.nilIface) O O ?_;exact⟨O,⟨.inr ⟨O,m,i,O⟩,hle,_,_,hF.heap (i:=1) O,by simpa[Oo,Lib.byteCells,Zi]using hO,.inr O⟩,hF.same⟩
theorem P8(w0:World)(B pb:Nat)(m:Bool)(i:Int)(s:Str)(hB:Bd w0 B pb 134 [.bool (m),J i] s)(t:Str)(hl:s.length+t.length<=140737488355328):Hy 135 #[V pb,I t] (.tuple #[J ((t.length:Nat):Int),.nilIface]) w0 B pb 134 [.bool (m),J i] (s++t):=by
 unfold Hy;refine Ia func135 O ntmps135 Eb (Pc _ _) ?_;obtain⟨v,hO0,hv,hC⟩:=Wl hB;have hle:=hB.le;have hBw:=hB.base;have hlt:=hB.lt;have hws:=gQ w0.heap.size;have hvl:∀g,v.ownBlock=some g->g<w0.heap.size:=λg hg=>(Fo hO0 hg).1;obtain⟨A1,c1,rfl⟩:=Wh hO0;have hF:=FR.start w0 (Wk w0 B pb);refine Ea (Ba (Gb O) (Ba (T0) (Rb (Ba (Xg O) ?_))));refine Lb hC (Na C2 O O) ?_;rintro _ w ⟨rfl,hE,hh,hO⟩;have hws:=fQ hws hE.size;have hBw:=fQ hBw hE.size;have hF:FR w0 (Wk w0 B pb) [(pb,.cells #[V pb,.slice A1 s.length c1,.bool (m),J i] 134)] w:=(hF.touch hE (λb hb=>by obtain rfl:=pQ.1 hb;exact⟨λ_=>Yg.2 (.inl rfl),by simp⟩)).addD hh (.inr (Yg.2 (.inl rfl))) Ma;clear hE hh;refine Rb (Ba (Xg O) (Ba (Xg O) (Ba (Ij O) (Ba (Ob Ef O) (Zb (Xe tQ O hF.F 0 O O) (Ba (Bc O) ?_))))));refine EV (str:=t) XA HA jX hF hO hBw rfl rfl Aa (λb hb=>⟨λ_=>(hv b hb).1,by have h1:=(hv b hb).2;have h2:=hvl b hb;intro p hp;simp only[oQ,List.not_mem_nil,or_false]at hp;rcases hp with rfl <;> grind⟩) ?_;clear hF hO;intro v2 w hO hF hsz;have hws:=fQ hws hsz;have hBw:=fQ hBw hsz;have hne2:∀g,v2.ownBlock=some g->g≠pb:=λg hg=>Xs hO hg (hF.heap (i:=0) rfl) rfl;obtain⟨A2,c2,rfl⟩:=Wh hO;clear hsz;refine Ba (Ij O) (Ba (Ob Ef O) ?_);refine Ml (.slice _ _ _) hF sizeOf130 O O Zg Js ?_;intro w hF hE;have hws:=fQ hws hE.size;have hBw:=fQ hBw hE.size;have hO:=Kj hO hE (λg hg=>by simpa using hne2 g hg);refine Rb (Ba (Bc O) (Ba (Fj jX O) (Ba (Gb O) (Ba (T0) (Da ?_)))));refine Va (Ua (Ja (Ic (v:=J ((((t):Str).length:Int))) (x:=.nilIface) O O O) ?_));exact⟨O,⟨.inr ⟨O,m,i,O⟩,hle,_,_,hF.heap (i:=0) O,by simpa[Oo,Lib.byteCells,Zi]using hO,.inr O⟩,hF.same⟩
theorem CF(w0:World)(B pb:Nat)(m:Bool)(i:Int)(s:Str)(hB:Bd w0 B pb 134 [.bool (m),J i] s)(r:Int)(hr0:-2147483648<=r)(hr1:r<=2147483647)(hl:s.length+4<=140737488355328):Hy 212 #[V pb,.int .i32 r] (.tuple #[J (((Kh r).length:Nat):Int),.nilIface]) w0 B pb 134 [.bool (m),J i] (s++Kh r):=by
 unfold Hy;have hrl:=Yh r;refine Ia func212 O ntmps212 Eb (Pc _ _) ?_;obtain⟨v,hO0,hv,hC⟩:=Wl hB;have hle:=hB.le;have hBw:=hB.base;have hlt:=hB.lt;have hws:=gQ w0.heap.size;have hvl:∀g,v.ownBlock=some g->g<w0.heap.size:=λg hg=>(Fo hO0 hg).1;obtain⟨A1,c1,rfl⟩:=Wh hO0;have hF:=FR.start w0 (Wk w0 B pb);refine Ea (Ba (Gb O) (Ba (T0) (Rb (Ba (Xg O) ?_))));refine Lb hC (Na C2 O O) ?_;rintro _ w ⟨rfl,hE,hh,hO⟩;have hws:=fQ hws hE.size;have hBw:=fQ hBw hE.size;have hF:FR w0 (Wk w0 B pb) [(pb,.cells #[V pb,.slice A1 s.length c1,.bool (m),J i] 134)] w:=(hF.touch hE (λb hb=>by obtain rfl:=pQ.1 hb;exact⟨λ_=>Yg.2 (.inl rfl),by simp⟩)).addD hh (.inr (Yg.2 (.inl rfl))) Ma;clear hE hh;refine Rb (Ba (Xg O) (Ba (Ij O) (Ba (Ob Ef O) (Zb (Xe tQ O hF.F 0 O O) (Ba (Ch vZ O) (Ba (Gb O) (Rb ?_)))))));refine Ba (Xg O) (Ba (Xg O) (Ba (Ij O) (Ba (Ob Ef O) (Zb (Xe tQ O hF.F 0 O O) (Ba (Za O) ?_)))));refine Lb (Yy hO hr0 hr1 Aa hBw) (Xa HW O O O) ?_;rintro v2 w2 ⟨hO2,o,hg⟩;have hF:=(hF.ext (Same.alloc _ o)).grown hg (λb hb=>⟨λ_=>(hv b hb).1,by have h1:=(hv b hb).2;have h2:=hvl b hb;intro p hp;simp only[oQ,List.not_mem_nil,or_false]at hp;rcases hp with rfl <;> grind⟩);have hsz:=fQ (Same.alloc _ o).size hg.size;clear hO hg;revert hsz hF hO2;generalize w2=w;intro hO hF hsz;have hws:=fQ hws hsz;have hBw:=fQ hBw hsz;have hne2:∀g,v2.ownBlock=some g->g≠pb:=λg hg=>Xs hO hg (hF.heap (i:=0) rfl) rfl;obtain⟨A2,c2,rfl⟩:=Wh hO;clear hsz;refine Ba (Ij O) (Ba (Ob Ef O) ?_);refine Ml (.slice _ _ _) hF sizeOf130 O O Zg Js ?_;intro w hF hE;have hws:=fQ hws hE.size;have hBw:=fQ hBw hE.size;have hO:=Kj hO hE (λg hg=>by simpa using hne2 g hg);refine Rb (Ba (Xg O) (Ba (Ij O) (Ba (Ob Ef O) (Zb (Xe tQ O hF.F 0 O O) (Ba (Ch vZ O) (Ba (Za O) (Ba (XQ (((Kh r).length:Nat)) O O) (Ba (Gb O) (Ba (T0) (Ta ?_))))))))))
 refine Fa (Va (Ua (Ja (Ic (v:=J (((Kh r).length:Nat))) (x:=.nilIface) O O O) ?_)));exact⟨O,⟨.inr ⟨O,m,i,O⟩,hle,_,_,hF.heap (i:=0) O,by simpa[Oo,Lib.byteCells,Zi]using hO,.inr O⟩,hF.same⟩
theorem Q7:prog.cellsOf 5=1:=by kernel_rfl
theorem Same.freeze(w:World)(a:Addr)(n:Nat):Same [a.block] w (w.freeze a n):=by
  have h:=Lib.below_freeze (B:=a.block) (Below.refl a.block w) (p:=a) (gQ _) n;refine⟨h.os,h.tape,h.output,h.size,λb hb hn=>?_⟩;have hn':b≠a.block:=by simpa using hn
  unfold World.freeze;split
  ·rfl
  simp[Array.getElem?_modify,hn'.symm]
theorem string_a(w0:World)(B pb:Nat)(s:Str)(hB:Bd w0 B pb 132 [] s)(h0:s≠[]):Calls prog 91 #[V pb] w0 (Dd λv w'=>v=I s/\Same (Wk w0 B pb) w0 w'):=by
  refine Ia func91 O ntmps91 Eb (Yb _) ?_;obtain⟨-,hle,ap,v,hh,hO,-⟩:=hB;have hsl:s.length≠0:=by simpa using h0
  obtain⟨g,c1,cur,rfl,hbg,hg,hnc,hcm,hcs,htake⟩:∃g cap cur,v=W g s.length cap/\B<=g/\w0.heap[g]? = some (.cells cur 5 (0,0))/\s.length<=cap/\cap<=maxLen/\cur.size=cap*1/\cur.toList.take (s.length*1)=Lib.byteCells s:=by
    rcases hO.2 with ⟨_,hz⟩|⟨g,cap,cur,hv,r⟩
    ·exact absurd hz hsl
    exact⟨g,cap,cur,hv,r⟩
  have hgm:g∈Wk w0 B pb:=LC hO rfl;have hgn:g≠pb:=Xs hO rfl hh (by rfl);have hF:FR w0 (Wk w0 B pb) [(pb,.cells #[ap,W g s.length c1] 132)] w0:=(FR.start w0 (Wk w0 B pb)).addD hh (.inr (Yg.2 (.inl rfl))) Ma;refine Ga (Ha ?_);refine Ba (Fd O) (Ta ?_);refine Fa (Ga ?_);refine Ke (.of []) (bQ [0,1,2,3,5,6,7,8,9] (.act 4 (.act 10 (.free 11 .nil)))) hF ?_;intro w hF hE;have hg:=(hE.block g (Wb hg) Ma).trans hg;have hO:=Kj hO hE Ma;refine⟨λwq=>FR w0 (Wk w0 B pb) _ wq,hF,?_⟩;refine Jb O (Xg O) (Jb O (Ij O) ?_);refine Jb O (Ob Ef O) (Fg O (Xe tQ O C0 0 O O) ?_);refine Jb O (Xg O) (Jb O (Ij O) ?_);refine Jb O (Ob Ef O) (Fg O (Xe tQ O C0 0 O O) ?_);refine Jb O (Ch vZ O) (Cz O (x_usd O Aa) hF ?_);have hu:(Builtin.unsafeString_ #[184,3] 9 #[V g,J s.length]).run prog w=.ok (I s) (w.freeze ⟨g,0,none⟩ s.length):=Lib.run_unsafeString_row w 184 3 9 5 underlying184 Q7 g cur.size (by simp[World.shape?,hg]) s h0 Aa (by simp only[maxLen]at hcm;omega) (λj x hx=>hO.cells (g:=g) rfl j (.int .u8 x.toNat) (by simp[Lib.byteCells,hx]));have hEf:FR w0 (Wk w0 B pb) _ (w.freeze ⟨g,0,none⟩ s.length):=hF.touch (Same.freeze w ⟨g,0,none⟩ s.length) (λb hb=>by obtain rfl:=pQ.1 hb;exact⟨λ_=>hgm,by simpa using hgn.symm⟩);refine Cz O (LW O O hu) hEf ?_;have hF:=hEf;refine Jb O (Fd O) (Hc ?_);refine Fa (Gc (v:=I s) O O ?_);exact⟨O,hF.same⟩
theorem EU(w0:World)(B pb:Nat)(m:Bool)(i:Int)(s:Str)(hB:Bd w0 B pb 134 [.bool (m),J i] s)(h0:s≠[]):Calls prog 91 #[V pb] w0 (Dd λv w'=>v=I s/\Same (Wk w0 B pb) w0 w'):=by
  refine Ia func91 O ntmps91 Eb (Yb _) ?_;obtain⟨-,hle,ap,v,hh,hO,-⟩:=hB;have hsl:s.length≠0:=by simpa using h0
  obtain⟨g,c1,cur,rfl,hbg,hg,hnc,hcm,hcs,htake⟩:∃g cap cur,v=W g s.length cap/\B<=g/\w0.heap[g]? = some (.cells cur 5 (0,0))/\s.length<=cap/\cap<=maxLen/\cur.size=cap*1/\cur.toList.take (s.length*1)=Lib.byteCells s:=by
    rcases hO.2 with ⟨_,hz⟩|⟨g,cap,cur,hv,r⟩
    ·exact absurd hz hsl
    exact⟨g,cap,cur,hv,r⟩
  have hgm:g∈Wk w0 B pb:=LC hO rfl;have hgn:g≠pb:=Xs hO rfl hh (by rfl);have hF:FR w0 (Wk w0 B pb) [(pb,.cells #[ap,W g s.length c1,.bool (m),J i] 134)] w0:=(FR.start w0 (Wk w0 B pb)).addD hh (.inr (Yg.2 (.inl rfl))) Ma;refine Ga (Ha ?_);refine Ba (Fd O) (Ta ?_);refine Fa (Ga ?_);refine Ke (.of []) (bQ [0,1,2,3,5,6,7,8,9] (.act 4 (.act 10 (.free 11 .nil)))) hF ?_;intro w hF hE;have hg:=(hE.block g (Wb hg) Ma).trans hg;have hO:=Kj hO hE Ma;refine⟨λwq=>FR w0 (Wk w0 B pb) _ wq,hF,?_⟩;refine Jb O (Xg O) (Jb O (Ij O) ?_);refine Jb O (Ob Ef O) (Fg O (Xe tQ O C0 0 O O) ?_);refine Jb O (Xg O) (Jb O (Ij O) ?_);refine Jb O (Ob Ef O) (Fg O (Xe tQ O C0 0 O O) ?_);refine Jb O (Ch vZ O) (Cz O (x_usd O Aa) hF ?_);have hu:(Builtin.unsafeString_ #[184,3] 9 #[V g,J s.length]).run prog w=.ok (I s) (w.freeze ⟨g,0,none⟩ s.length):=Lib.run_unsafeString_row w 184 3 9 5 underlying184 Q7 g cur.size (by simp[World.shape?,hg]) s h0 Aa (by simp only[maxLen]at hcm;omega) (λj x hx=>hO.cells (g:=g) rfl j (.int .u8 x.toNat) (by simp[Lib.byteCells,hx]));have hEf:FR w0 (Wk w0 B pb) _ (w.freeze ⟨g,0,none⟩ s.length):=hF.touch (Same.freeze w ⟨g,0,none⟩ s.length) (λb hb=>by obtain rfl:=pQ.1 hb;exact⟨λ_=>hgm,by simpa using hgn.symm⟩);refine Cz O (LW O O hu) hEf ?_;have hF:=hEf;refine Jb O (Fd O) (Hc ?_);refine Fa (Gc (v:=I s) O O ?_);exact⟨O,hF.same⟩
theorem Bq{w0:World}{B pb T:Nat}{rest:List Value}{s:Str}(hB:Bd w0 B pb T rest s)(c:UInt8)(hl:s.length+1<=140737488355328):Hy 178 #[V pb,.int .u8 ((c.toNat:Nat):Int)] .nilIface w0 B pb T rest (s++[c]):=by
  rcases hB.shp with ⟨rfl,rfl⟩|⟨rfl,m,i,rfl⟩
  ·exact SD w0 B pb s hB c hl
  exact RE w0 B pb m i s hB c hl
theorem Bl{w0:World}{B pb T:Nat}{rest:List Value}{s:Str}(hB:Bd w0 B pb T rest s)(t:Str)(hl:s.length+t.length<=140737488355328):Hy 135 #[V pb,I t] (.tuple #[J ((t.length:Nat):Int),.nilIface]) w0 B pb T rest (s++t):=by
  rcases hB.shp with ⟨rfl,rfl⟩|⟨rfl,m,i,rfl⟩
  ·exact N8 w0 B pb s hB t hl
  exact P8 w0 B pb m i s hB t hl
theorem C3{w0:World}{B pb T:Nat}{rest:List Value}{s:Str}(hB:Bd w0 B pb T rest s)(r:Int)(h0:-2147483648<=r)(h1:r<=2147483647)(hl:s.length+4<=140737488355328):Hy 212 #[V pb,.int .i32 r] (.tuple #[J (((Kh r).length:Nat):Int),.nilIface]) w0 B pb T rest (s++Kh r):=by
  rcases hB.shp with ⟨rfl,rfl⟩|⟨rfl,m,i,rfl⟩
  ·exact IH w0 B pb s hB r h0 h1 hl
  exact CF w0 B pb m i s hB r h0 h1 hl
theorem Y4{w0:World}{B pb T:Nat}{rest:List Value}{s:Str}(hB:Bd w0 B pb T rest s)(h0:s≠[]):Calls prog 91 #[V pb] w0 (Dd λv w'=>v=I s/\Same (Wk w0 B pb) w0 w'):=by
  rcases hB.shp with ⟨rfl,rfl⟩|⟨rfl,m,i,rfl⟩
  ·exact string_a w0 B pb s hB h0
  exact EU w0 B pb m i s hB h0
structure BW (w0:World) (Ds:List Nat) (w:World) (B pb T:Nat) (rest:List Value) (s:Str):Prop where
  bd:Bd w B pb T rest s
  sub:∀x∈Wk w B pb,x<w0.heap.size->x∈Ds
  ge:w0.heap.size<=w.heap.size
section
variable {w0 w w':World}{Ds E:List Nat}{bs_:List (Nat × Obj)}{B pb T:Nat}{rest:List Value}{s t:Str}
theorem BW.start(h:Bd w0 B pb T rest s):BW w0 (Wk w0 B pb) w0 B pb T rest s:=⟨h,λx hx _=>hx,gQ _⟩
theorem BW.own(h:Bd w B pb T rest s)(hb:w0.heap.size<=B)(hg:w0.heap.size<=w.heap.size):BW w0 Ds w B pb T rest s :=
  ⟨h,λx hx hl=>by
    have:=h.le;rcases Yg.1 hx with rfl|⟨-,h2,-⟩ <;> omega,hg⟩
theorem BW.lt(h:BW w0 Ds w B pb T rest s):pb<w.heap.size:=h.bd.lt
theorem BW.wrote(h:BW w0 Ds w B pb T rest s)(hb:Bd w' B pb T rest t)(hs:Same (Wk w B pb) w w'):BW w0 Ds w' B pb T rest t :=
  ⟨hb,λx hx hl=>by
    rcases Wk.step hs hx with h1|h1
    ·exact h.sub x h1 hl
    have:=h.ge;omega,fQ h.ge hs.size⟩
theorem FR.wrote(hF:FR w0 Ds bs_ w)(h:BW w0 Ds w B pb T rest s)(hs:Same (Wk w B pb) w w')(hb:∀p∈bs_,Rk p.2=false/\p.1≠pb):FR w0 Ds bs_ w' :=
  hF.touch hs λx hx=>⟨h.sub x hx,λp hp e=>by
    have h1:=hb p hp;rcases Yg.1 hx with h2|⟨-,-,h3⟩
    ·exact h1.2 (e.trans h2)
    rw[<-e,Fu (hF.memHeap hp),h1.1]at h3;cases h3⟩
theorem Bd.same(h:Bd w B pb T rest s)(hs:Same E w w')(hp:pb∉E)(he:∀x∈E,St w x=false):Bd w' B pb T rest s:=by
  obtain⟨h1,h2,ap,v,h3,h4,h5⟩:=h;refine⟨h1,h2,ap,v,(hs.block pb (Wb h3) hp).trans h3,Kj h4 hs (λg hg hm=>?_),h5⟩;have:=(Fo h4 hg).2.2;rw[he g hm]at this;cases this
theorem Bd.ext(h:Bd w B pb T rest s)(hs:Same [] w w'):Bd w' B pb T rest s:=h.same hs Ma Ma
theorem BW.step(h:BW w0 Ds w B pb T rest s)(hs:Same E w w')(hp:pb∉E)(he:∀x∈E,St w x=false)(he':∀x∈E,St w' x=false):BW w0 Ds w' B pb T rest s :=
  ⟨h.bd.same hs hp he,λx hx hl=>by
    refine h.sub x (Yg.2 ?_) hl;have hl2:=Nat.lt_of_lt_of_le hl h.ge;rcases Yg.1 hx with rfl|⟨-,h2,h3⟩
    ·exact .inl O
    refine .inr ⟨hl2, h2, ?_⟩;have hn:x∉E:=λhm=>by rw[he' x hm]at h3;cases h3
    rw[St,<-hs.block x hl2 hn];exact h3,fQ h.ge hs.size⟩
theorem BW.ext(h:BW w0 Ds w B pb T rest s)(hs:Same [] w w'):BW w0 Ds w' B pb T rest s:=h.step hs Ma Ma Ma
theorem Rep.off{d:D}{cs:List Value}(h:Rep (λx=>x∉Wk w B pb) w d cs)(hs:Same (Wk w B pb) w w'):Rep (λx=>x∉Wk w' B pb) w' d cs :=
  ((h.old).same hs (λb hb hn=>hn.1 hb)).weaken λx hx _ hm=>by
    rcases Wk.step hs hm with h1|h1
    ·exact hx.1 h1
    have:=hx.2;omega
theorem Rep.off_ext{d:D}{cs:List Value}(h:Rep (λx=>x∉Wk w B pb) w d cs)(hp:pb<w.heap.size)(hs:Same [] w w'):Rep (λx=>x∉Wk w' B pb) w' d cs:=h.off (hs.mono Ma)
end
section
variable {P:Program}{w:World}{ρ:Operand->Value}{dst:Option Nat}{ty:TypeId}{pos:String}{aft:Array Edge}{g:Option (Nat × Bool)}
theorem TY{t t':TypeId}{x y:Operand}{k:IntKind}{a b c:Int}(hx:ρ x=.int k a)(hy:ρ y=.int k b)(h:bits .and k a b=c) :
    (execOp ρ ⟨dst,.binOp .and t x y t',ty,pos,aft,g⟩).run P w=.ok (.value (.int k c)) w:=by
  simp[execOp,hx,hy,He,binOp,intBits_and,h]
theorem YV{t t':TypeId}{x y:Operand}{k k2:IntKind}{a c:Int}(m:Nat)(hx:ρ x=.int k a)(hy:ρ y=.int k2 m)(hm:m<=k.bits)(h:a.fdiv (2 ^ m)=c) :
    (execOp ρ ⟨dst,.binOp .shr t x y t',ty,pos,aft,g⟩).run P w=.ok (.value (.int k c)) w:=by
  have hg:(eqGuard .shr t x y (.int k a) (.int k2 m)).run P w=.ok () w:=by unfold eqGuard;simp
  have h0:¬((m:Int)<0):=by omega
  simp[execOp,hx,hy,hg,binOp,Op.shift,h0,Nat.min_eq_left hm,h]
theorem Xx{t e N:Nat}{x y:Operand}{kk:IntKind}{b:Nat}(i:Nat)(ht:P.underlying t=some (.array N e))(hs:∀w,(sizeOf e).run P w=.ok 1 w)(hx:ρ x=V b)(hy:ρ y=.int kk (i:Int))(h1:i<N) :
    (execOp ρ ⟨dst,.indexAddr t x y,ty,pos,aft,g⟩).run P w=.ok (.value (.pointer (some ⟨b,i,none⟩))) w:=by
  have h2:(0:Int)<=(i:Int)/\(i:Int)<(N:Int):=by omega
  have e1:(⟨b,0,none⟩:Addr).add i=⟨b,i,none⟩:=by rw[Bh,Nat.zero_add]
  simp[execOp,hx,hy,Instr.indexAt,run_underlying ht,Instr.sureAddr,asIntOf,h2,hs,e1];intro hh;omega
theorem BK{t e N:Nat}{x y:Operand}{kk:IntKind}{b:Nat}(i:Nat)(ht:P.underlying t=some (.array N e))(hs:∀w,(sizeOf e).run P w=.ok 1 w)(hx:ρ x=V b)(hy:ρ y=.int kk (i:Int))(h1:i<N) :
    (execOp ρ ⟨dst,.slice t x (some y) none none,ty,pos,aft,g⟩).run P w=.ok (.value (.slice (some ⟨b,i,none⟩) (N-i) (N-i))) w:=by
  have h0:¬N=i:=by omega
  have e1:(⟨b,0,none⟩:Addr).add i=⟨b,i,none⟩:=by rw[Bh,Nat.zero_add]
  have e2:(0:Int)<=(i:Int)/\(i:Int)<=(N:Int):=by omega
  simp[execOp,hx,hy,Instr.sliceAt,run_underlying ht,Instr.sureAddr,Instr.sliceBounds,run_sliceBound,hs,e1,h0,e2]
theorem x_convBs{t t' e:Nat}{x:Operand}{a:Addr}{n c:Nat}(s:Str)(ht:P.underlying t=some (.slice e))(he:P.underlying e=some (.int .u8))(hd:P.underlying t'=some .string)(hx:ρ x=.slice (some a) n c)(hn:s.length=n)
    (h:∀j (hj:j<s.length),w.cell? (a.add j)=some (.int .u8 (s[j].toNat:Int))) :
    (execOp ρ ⟨dst,.convert t t' x,ty,pos,aft,g⟩).run P w=.ok (.value (I s)) w:=by
  have hl:=Rq (P:=P) a w ((s.map λu=>(u.toNat:Int)).map (Value.int .u8)) (m:=n) (by simp[hn]) (λj hj=>by simp at hj ⊢;exact h j hj);have hb:=run_bytesToString w a n c (s.map λu=>(u.toNat:Int)) hl;have e1:∀(l:Str)(acc:ByteArray),(l.map λu=>(u.toNat:Int)).foldl (λr n=>r.push (UInt8.ofNat n.toNat)) acc=⟨acc.data++l.toArray⟩:=by
    intro l
    induction l with
    | nil=>intro acc;simp
    | cons u l ih=>intro acc;rw[List.map_cons,List.foldl_cons,ih];simp[ByteArray.push]
  rw[e1]at hb;simp[execOp,hx,run_convert_bytes_string w t t' e _ _ _ ht he hd,hb]
end
def LK:List Value:=List.replicate 65 (.int .u8 0)
def B0:Str:=[48,49,50,51,52,53,54,55,56,57,97,98,99,100,101,102,103,104,105,106,107,108,109,110,111,112,113,114,115,116,117,118,119,120,121,122]
def dg(k:Nat):UInt8:=B0.getD k 0
def Tm(r:Nat):Str:=if r<16 then [dg r] else [dg (r/16),dg (r%16)]
theorem M3{k:Nat}(h:k<B0.length):B0[k]=dg k:=by simp[dg,h]
theorem wrap64:∀r<32,IntKind.u64.wrap ((r:Nat):Int)=r:=by decide
theorem and15:∀u<32,bits .and .u64 ((u:Nat):Int) 15=((u%16:Nat):Int):=by decide
theorem tz64_c(w0:World)(hG:Gl w0):Calls prog 256 #[.int .u64 16] w0 (Dd λv w'=>v=J 4/\Same [] w0 w'):=by
 obtain⟨e,fz,hbr⟩:=hG.bru;refine Ia func256 O ntmps256 Eb (Yb _) ?_;have hF:=FR.start w0 [];refine Ea (Ba (Gb O) (Da (Ga (Ea (Ba (Za O) (Ka (v:=.bool false) (Yf (Ut O O) Ab) (Da (De O (La ?_)))))))));refine Fa (Ea (Ba (Za O) (Ba (Za O) (Ka (v:=.int .u64 18446744073709551600) (L3 O Ab) (Ka (v:=.int .u64 16) (TY O O Ab) (Ka (v:=.int .u64 4573923408821661840) (F3 O O Ab) (Ka (v:=.int .u64 15) (YV 58 O O Ab Ab) (Ka (v:=.pointer (some (⟨5,15,none⟩))) (Xx 15 underlying297 sizeOf5 O O Ab) ?_))))))));refine Ka (v:=.int .u8 4) (Qd isAgg5 O (by rw[Uc (hF.heap0 hbr)];rfl)) ?_;refine Ka (v:=J 4) (Zc fX bX O Ab) (Ba (Gb O) (Da ?_));refine Gc (v:=J 4) O O ?_;exact⟨O,hF.same⟩
theorem tz_c(w0:World)(hG:Gl w0):Calls prog 229 #[.int .u64 16] w0 (Dd λv w'=>v=J 4/\Same [] w0 w'):=by
 refine Ia func229 O ntmps229 Eb (Yb _) ?_;have hF:=FR.start w0 [];refine Ea (Ba (Gb O) (Da (Ga (Sn O (Ea (Ba (Za O) ?_))))));refine Oa hF (tz64_c _ (hG.ext hF.same)) (Na en_256 O O) ?_;intro w hF;refine Ba (Gb O) (Da ?_);refine Gc (v:=J 4) O O ?_;exact⟨O,hF.same⟩
theorem pow2_c(w0:World):Calls prog 228 #[J 16] w0 (Dd λv w'=>v=.bool true/\Same [] w0 w'):=by
 refine Ia func228 O ntmps228 Eb (Yb _) ?_;have hF:=FR.start w0 [];refine Ea (Ba (Db O) (Rb (Ba (Za O) (Ba (Za O) (Ka (v:=J 15) (E0 O O Ab) (Ka (v:=J 0) (TY O O Ab) (Ka (v:=.bool true) (Lj (Ut O O) Ab) (Ba (Db O) (Ta ?_)))))))));refine Fa (Gc (v:=.bool true) O O ?_);exact⟨O,hF.same⟩
theorem TC(w0:World)(hG:Gl w0)(r:Nat)(hr:r<32):Calls prog 190 #[aQ,.int .u64 (r:Int),J 16,.bool false,.bool false] w0 (Dd λv w'=>v=.tuple #[aQ,I (Tm r)]/\Same [] w0 w'):=by
  refine Ia func190 O ntmps190 Eb (MJ _ _ _ _ _) ?_;have hF:=FR.start w0 [];refine Ga (Ha ?_);refine Ba (Lr O) (Ba (Fd O) ?_);refine Ta (Fa ?_);refine Ga (Ga ?_);refine Ha (Ba (Za O) ?_);refine Ka (v:=.bool false) (Yf (LI O O) Ab) (Ba (Vb O) ?_);refine Ba (Za O) (Ka (v:=.bool false) (Yf (Ut O O) Ab) ?_);refine Ba (Kb O O) (Ba (Vb O) ?_);refine Ba (Za O) (Ka (v:=.bool false) (Yf (B9 O O) Ab) ?_);refine Ba (Kb O O) (Ta ?_);refine Fa (De O ?_);refine La (Fa ?_);refine Ga (Ha ?_);refine Wc (cs:=(List.toArray LK)) hF zeroValue264 Ub ?_;intro b1 w hb1 hF hE;refine Ta (Fa ?_);refine Ga (Ha ?_);refine Ba (Gb O) (Ta ?_);refine Fa (Ga ?_);refine Ga (Ha ?_);refine Ba (Vb O) (Ta ?_);refine Fa (De O ?_);refine La (Fa ?_);refine Ga (Ga ?_);refine Ha (Ba (Za O) ?_);refine Oa hF (pow2_c _) (Na en_228 O O) ?_;intro w hF;refine Ta (Fa ?_);refine Ad O (Ga ?_);refine Ha (Ba (Za O) ?_);refine Ka (v:=.int .u64 16) (Zc bX underlying161 O Ab) (Oa hF (tz_c _ (hG.ext hF.same)) (Na en_229 O O) ?_);intro w hF;refine Ka (v:=.int .u64 4) (Zc bX underlying161 O Ab) (Ba (Gb O) ?_);refine Ta (Fa ?_);refine Ga (Ha ?_);refine Ba (Za O) (Ka (v:=.int .u64 16) (Zc bX underlying229 O Ab) ?_);refine Ba (Gb O) (Ta ?_);refine Fa (Ga ?_);refine Ha (Ba (Za O) ?_);refine Ka (v:=.int .u64 16) (Zc bX underlying161 O Ab) (Ka (v:=.int .u64 15) (E0 O O Ab) ?_);refine Ba (Gb O) (Ta ?_);refine Fa (Ga ?_);refine Qa (Jc (λμ σ w=>∃(u:Nat),∃(i:Nat),∃(cs:List Value),μ=2*u/\((u=r/\i=65/\cs=LK)\/(16<=r/\u=r/16/\i=64/\cs=LK.set 64 (.int .u8 ((dg (r%16)).toNat:Int))))/\AllEq σ [(0,aQ),(1,.int .u64 ((u:Int))),(3,.bool false),(4,.bool false),(10,aQ),(11,I []),(12,V b1),(13,J ((i:Int))),(14,.int .u64 4),(15,.int .u64 16),(16,.int .u64 15)]/\FR w0 [] [(b1,.cells (List.toArray cs) 264)] w) _ ⟨r,65,LK,O,(.inl ⟨O,O,O⟩),⟨O,O,O,O,O,O,O,O,O,O,O,trivial⟩,hF⟩ ?_)
  rintro μ σ w ⟨u,i,cs,rfl,hI,hs,hF⟩;refine Cg.slots hs ?_;clear hs;intro σ;have hcl:cs.length=65:=by rcases hI with ⟨-,-,rfl⟩|⟨-,-,-,rfl⟩ <;> simp[LK]
  have hu32:u<32:=by omega
  refine Ga (Ga ?_);refine Ha (Ba (Za O) ?_);refine Ba (Za O) (Ba (Nw O O) ?_);refine Ta (Fa ?_);refine Ib O O (λhc3=>?_) (λhc3=>?_)
  ·
   refine La (Fa ?_);refine Qa (Ga ?_);refine Ha (Ba (Za O) ?_);refine Ba (XQ (((64:Nat):Int)) O O) (Ba (Gb O) ?_);refine Ta (Fa ?_);refine Ga (Ha ?_);refine Ba (Za O) (Ba (Za O) ?_);refine Ba (Za O) (Ka (v:=.int .u64 (((u%16:Nat):Int))) (TY O O (and15 u Aa)) ?_);refine Ka (v:=.int .u8 (((dg (u%16)).toNat:Int))) (by rw[<-M3 (show u%16<B0.length by show u%16<36;omega)];exact Oc (u%16) jX O O _) ?_;refine Ka (v:=.pointer (some ⟨b1,64,none⟩)) (Xx 64 underlying264 sizeOf5 O O Ab) ?_;refine Ci 0 (l:=[.int .u8 (((dg (u%16)).toNat:Nat):Int)]) (cs':=(List.toArray (cs.set 64 (.int .u8 (((dg (u%16)).toNat:Nat):Int))))) hF sizeOf5 O (v:=.int .u8 (((dg (u%16)).toNat:Nat):Int)) O O Ot O (by simp[hcl] <;> omega) (by simp[putA]) ?_;intro w hF hE;have hF:FR w0 [] [(b1,.cells (List.toArray (cs.set 64 (.int .u8 (((dg (u%16)).toNat:Nat):Int)))) 264)] w:=hF;refine Ta (Fa ?_);refine Ha (Ba (Za O) ?_);refine Ba (Za O) ?_;refine Ka (v:=.int .u64 (((u/16:Nat):Int))) (YV 4 O O Ab (by rw[Int.fdiv_eq_ediv_of_nonneg _ Ab];omega)) ?_;refine Ba (Gb O) (Ta ?_);refine Bb ?_;refine Hb ⟨_,?_,u/16,64,cs.set 64 (.int .u8 (((dg (u%16)).toNat:Nat):Int)),rfl,(.inr (by rcases hI with ⟨rfl,rfl,rfl⟩|⟨h16,rfl,rfl,rfl⟩ <;> first|omega|exact⟨by omega,rfl,rfl,rfl⟩)),⟨rfl,rfl,rfl,rfl,rfl,rfl,rfl,rfl,rfl,rfl,rfl,trivial⟩,hF⟩;omega
  refine Ec (Ac O ?_);refine Fa (Ga ?_);refine Ha (Ba (Za O) ?_);refine Ba (XQ (((i-1:Nat):Int)) O O) (Ba (Gb O) ?_);refine Ta (Fa ?_);refine Ha (Ba (Za O) ?_);refine Ba (Za O) ?_;refine Ka (v:=.int .u8 (((dg u).toNat:Int))) (by rw[<-M3 (show u<B0.length by show u<36;omega)];exact Oc u jX O O _) ?_;refine Ka (v:=.pointer (some ⟨b1,(i-1),none⟩)) (Xx (i-1) underlying264 sizeOf5 O O Aa) ?_;refine Ci 0 (l:=[.int .u8 (((dg (u)).toNat:Nat):Int)]) (cs':=(List.toArray (cs.set (i-1) (.int .u8 (((dg (u)).toNat:Nat):Int))))) hF sizeOf5 O (v:=.int .u8 (((dg (u)).toNat:Nat):Int)) O O Ot O (by simp[hcl] <;> omega) (by simp[putA]) ?_;intro w hF hE;have hF:FR w0 [] [(b1,.cells (List.toArray (cs.set (i-1) (.int .u8 (((dg (u)).toNat:Nat):Int)))) 264)] w:=hF;refine Ta (Fa ?_);refine Ga (Ga ?_);refine Ha (Ba (Vb O) ?_);refine Ta (Fa ?_);refine De O (La ?_);refine Fa (Ga ?_);refine Ga (Ha ?_);refine Ba (Vb O) (Ta ?_);refine Fa (De O ?_);refine La (Fa ?_);refine Ga (Ha ?_);refine Ba (Za O) (Ka (v:=.slice (some ⟨b1,i-1,none⟩) (65-(i-1)) (65-(i-1))) (BK (i-1) underlying264 sizeOf5 O O Aa) ?_);have hfin:(Tm r).length=65-(i-1)/\∀j (hj:j<(Tm r).length),w.cell? ((⟨b1,i-1,none⟩:Addr).add j)=some (.int .u8 ((Tm r)[j].toNat:Int)):=by
    have hh:=hF.heap (i:=0) rfl;rcases hI with ⟨rfl,rfl,rfl⟩|⟨h16,rfl,rfl,rfl⟩
    ·have h1 : Tm u = [dg u] := by rw[Tm, if_pos Aa]
     refine⟨by rw[h1];rfl,λj hj=>?_⟩;have hj0:j=0:=by rw[h1]at hj;simpa using hj
     subst hj0;rw[Bh,Uc hh];simp[h1,LK]
    have h1 : Tm r = [dg (r/16), dg (r%16)] := by rw[Tm, if_neg Aa]
    refine⟨by rw[h1];rfl,λj hj=>?_⟩;have hj2:j=0\/j=1:=by rw[h1]at hj;simp at hj;omega
    rw[Bh,Uc hh];rcases hj2 with rfl|rfl <;> simp[h1,LK]
  refine Ka (v:=I (Tm r)) (x_convBs (Tm r) vZ fX jX O hfin.1 hfin.2) (Ba (Fd O) ?_);refine Ta (Fa ?_);refine Va (Ua (Ja (Ic (v:=.slice _ _ _) (x:=I (Tm r)) O O O) ?_));exact⟨O,hF.same⟩
theorem fmtInt_c(w0:World)(hG:Gl w0)(r:Nat)(hr:r<32):Calls prog 157 #[J (r:Int),J 16] w0 (Dd λv w'=>v=I (Tm r)/\Same [] w0 w'):=by
 refine Ia func157 O ntmps157 Eb (Pc _ _) ?_;have hF:=FR.start w0 [];refine Ea (Ba (Fd O) (Da (Ga (Ea (Ba (Za O) (Ka (v:=.bool false) (Yf (Ut O O) Ab) (Da (De O (La ?_)))))))));refine Fa (Ea (Ba (Za O) (Ka (v:=.int .u64 ((r:Int))) (Zc underlying2 underlying229 O (wrap64 r hr)) (Ba (Za O) (Ba (Za O) (Ka (v:=.bool false) (Yf (LI O O) Aa) ?_))))));refine Oa hF (TC _ (hG.ext hF.same) r hr) (G4 en_190 O O O O O O) ?_;intro w hF;refine Ba (Qk O) (Ba (yxl O O) (Ba (Iy O O) (Ba (Lr O) (Ba (Fd O) (Rb (Ba (Bc O) (Ba (Fd O) (Da ?_))))))));refine Gc (v:=I (Tm r)) O O ?_;exact⟨O,hF.same⟩
theorem hex_c(w0:World)(hG:Gl w0)(r:Nat)(hr:r<32):Calls prog 213 #[J (r:Int),J 16] w0 (Dd λv w'=>v=I (Tm r)/\Same [] w0 w'):=by
 refine Ia func213 O ntmps213 Eb (Pc _ _) ?_;have hF:=FR.start w0 [];refine Ea (Ba (Fd O) (Rb (Ba (Za O) (Ba (Za O) ?_))));refine Oa hF (fmtInt_c _ (hG.ext hF.same) r hr) (Xa en_157 O O O) ?_;intro w hF;refine Ba (Fd O) (Da ?_);refine Gc (v:=I (Tm r)) O O ?_;exact⟨O,hF.same⟩
def Bg(r:Int):Int:=if r=34 then 34 else if r=92 then 92 else if r=8 then 98 else if r=12 then 102 else if r=10 then 110 else if r=13 then 114 else if r=9 then 116 else 0
theorem letter_c(w0:World)(r:Int):Calls prog 211 #[.int .i32 r] w0 (Dd λv w'=>v=.int .u8 (Bg r)/\Same [] w0 w'):=by
 refine Ia func211 O ntmps211 Eb (Yb _) ?_;have hF:=FR.start w0 [];refine Ea (Ba (Gb O) (Da (Ga (Ea (Ba (Za O) (Da (Qa (Ga (Ga ?_)))))))));refine Ha (Ba (Qf O O) (Ba (Db O) (Da ?_)));refine Ib O O (λhc0=>?_) (λhc0=>?_);refine La (Fa (Ad O (Ea (Ba (Za O) ?_))));refine Ka (v:=.int .u8 (Bg r)) (Zc xZ fX rfl (by rcases (by first|exact .inl (by assumption)|exact .inr (by assumption):r=34\/r=92)with rfl|rfl <;> decide)) ?_;refine Ba (Gb O) (Da ?_);refine Gc (v:=.int .u8 (Bg r)) O O ?_;refine⟨?_,hF.same⟩;simp_all[Bg];refine Ha (Ba (Qf O O) (Ba (Db O) (Da ?_)));refine Ib O O (λhc1=>?_) (λhc1=>?_);refine Ea (Ba (Za O) ?_);refine Ka (v:=.int .u8 (Bg r)) (Zc xZ fX rfl (by rcases (by first|exact .inl (by assumption)|exact .inr (by assumption):r=34\/r=92)with rfl|rfl <;> decide)) ?_;refine Ba (Gb O) (Da ?_);refine Gc (v:=.int .u8 (Bg r)) O O ?_;refine⟨?_,hF.same⟩;simp_all[Bg];refine Ea (Ba (Qf O O) (Ba (Db O) (Da ?_)));refine Ib O O (λhc2=>?_) (λhc2=>?_);refine Ea (Ba (Gb O) (Da ?_));refine Gc (v:=.int .u8 98) O O ?_;refine⟨?_,hF.same⟩;simp_all[Bg];refine Ea (Ba (Qf O O) (Ba (Db O) (Da ?_)));refine Ib O O (λhc3=>?_) (λhc3=>?_);refine Ea (Ba (Gb O) (Da ?_));refine Gc (v:=.int .u8 102) O O ?_;refine⟨?_,hF.same⟩;simp_all[Bg];refine Ea (Ba (Qf O O) (Ba (Db O) (Da ?_)));refine Ib O O (λhc4=>?_) (λhc4=>?_);refine Ea (Ba (Gb O) (Da ?_));refine Gc (v:=.int .u8 110) O O ?_;refine⟨?_,hF.same⟩;simp_all[Bg];refine Ea (Ba (Qf O O) (Ba (Db O) (Da ?_)));refine Ib O O (λhc5=>?_) (λhc5=>?_);refine Ea (Ba (Gb O) (Da ?_));refine Gc (v:=.int .u8 114) O O ?_;refine⟨?_,hF.same⟩;simp_all[Bg];refine Ea (Ba (Qf O O) (Ba (Db O) (Da ?_)));refine Ib O O (λhc6=>?_) (λhc6=>?_);refine Ea (Ba (Gb O) (Da ?_));refine Gc (v:=.int .u8 116) O O ?_;refine⟨?_,hF.same⟩;simp_all[Bg]
 refine La (Bb (Fa (Ea (Ba (Gb O) (Da ?_)))));refine Gc (v:=.int .u8 0) O O ?_;refine⟨?_,hF.same⟩;simp_all[Bg]
def Yu(r:Nat):Str:=if Bg r≠0 then [92,UInt8.ofNat (Bg r).toNat] else if 32<=r then Kh r else [92,117]++Lib.repeatL [48] (4-(Tm r).length)++Tm r
def U3:Nat->Str->Nat->Str
  | 0,_,_=>[]
  | f+1,s,p=>if p<s.length then Yu (Utf8.decode (bs s) p).1++U3 f s (p+(Utf8.decode (bs s) p).2) else []
theorem FO:∀(f g:Nat)(s:Str)(p:Nat),s.length-p<=f->s.length-p<=g->U3 f s p=U3 g s p
  | 0,0,_,_,_,_=>rfl
  | 0,g+1,s,p,h,_=>by rw[U3,U3,if_neg Aa]
  | f+1,0,s,p,_,h=>by rw[U3,U3,if_neg Aa]
  | f + 1, g + 1, s, p, h1, h2 => by
    rw[U3,U3];split
    ·have h3 := Wf s p
     rw[FO f g s _ Aa Aa]
    rfl
def Hu(s:Str)(p:Nat):Str:=U3 (s.length-p) s p
theorem Dp{s:Str}{p:Nat}(h:p<s.length):Hu s p=Yu (Utf8.decode (bs s) p).1++Hu s (p+(Utf8.decode (bs s) p).2):=by
  have h3:=Wf s p;obtain⟨f,hf⟩:∃f,s.length-p=f+1:=⟨s.length-p-1,by omega⟩;rw[Hu,hf,U3,if_pos h,Hu,FO f (s.length-(p+(Utf8.decode (bs s) p).2)) s _ Aa Aa]
theorem U1{s:Str}{p:Nat}(h:¬p<s.length):Hu s p=[]:=by
  have e:s.length-p=0:=by omega
  rw[Hu,e,U3]
def Dy(s:Str):Str:=[34]++Hu s 0++[34]
theorem Ax(r:Int):0<=Bg r/\Bg r<256:=by
  unfold Bg
  repeat' split
  all_goals omega
theorem Pn(r:Nat):1<=(Tm r).length/\(Tm r).length<=2:=by unfold Tm;split <;> simp
theorem Ts(n:Nat):(Lib.repeatL [48] n).length=n:=by
  induction n with
  | zero=>rfl
  | succ n ih=>simp[Lib.repeatL,ih];try omega
theorem Cq(r:Nat):(Yu r).length<=6:=by
  unfold Yu;have h1:=Yh r;have h2:=Pn r
  repeat' split
  ·simp
  ·omega
  simp[Ts];omega
theorem Fi{w0:World}{B pb T:Nat}{rest:List Value}{s:Str}(hB:Bd w0 B pb T rest s)(z:Int)(h0:0<=z)(h1:z<256)(hl:s.length+1<=140737488355328):Hy 178 #[V pb,.int .u8 z] .nilIface w0 B pb T rest (s++[UInt8.ofNat z.toNat]):=by
  have h:=Bq hB (UInt8.ofNat z.toNat) hl;have e:(((UInt8.ofNat z.toNat).toNat:Nat):Int)=z:=by simp only[UInt8.toNat_ofNat'];omega
  rwa [e]at h
theorem quote_c(w0:World)(hG:Gl w0)(s:Str)(hl:s.length<=17592186044416):Calls prog 177 #[I s] w0 (Dd λv w'=>v=(if Lib.validD s=true then .tuple #[I (Dy s),J 0] else .tuple #[I [],J 2])/\Same [] w0 w'):=by
 refine Ia func177 O ntmps177 Eb (Yb _) ?_;have hF:=FR.start w0 [];refine Ea (Ba (Fd O) (Ba (Gb O) (Da (Ga (Ea (Ba (Bc O) ?_))))));refine Lb (HC s Aa _ (hG.ext hF.same)) (Na en_60 O O) ?_;rintro _ w ⟨n0,rfl,hE⟩;have hF:=hF.ext hE;refine Ba (Qk O) (Ba (Tj O O) (Ba (Ao O O) (Ba (Gb O) (Ba (Db O) (Rb (Ba (Vb O) (Ba (Si O) (Da ?_))))))));refine Le O O (λhc0=>?_) (λhc0=>?_);refine Ea (Ba (Fd O) (Ba (Gb O) (Da ?_)));refine Va (Ua (Ja (Ic (v:=I []) (x:=J 2) O O O) ?_));exact⟨by rw[if_neg (by simpa using hc0)],hF.same⟩;refine La (Fa (Ea ?_));refine Wc (cs:=#[.pointer none,aQ]) hF zeroValue132 O ?_;rintro b1 w hb1 hF -;refine Rb ?_;have hBn:BW w0 [] w b1 b1 132 [] []:=BW.own ⟨.inl ⟨rfl,rfl⟩,gQ _,_,_,hF.heap (i:=0) rfl,World.ownsRow_nil _ _ _ _,.inl rfl⟩ (hF.ge (i:=0) rfl) hF.same.size;have hB:=hBn;have hF:=hF.drop 1;have hF:FR w0 [] [] w:=hF;have ho:(0:Nat)<=0/\([]:Str).length<=0:=by simp
 refine Lb (Fi hB.bd (34) Aa Aa Ma) (Xa Qp O O O) ?_;rintro _ w ⟨rfl,hBd,hE⟩;have hF:=hF.wrote hB hE Ma;have hB:=hB.wrote hBd hE;clear hBd hE;refine Da (Ga (Ea (Ba (Bc O) ?_)));refine Uz (str:=s) hF jX O ?_;intro b2 w hb2 hF hE;have nb2:b2≠b1:=by have:=hB.lt;omega
 have hB:=hB.ext hE;refine Da (Qa ?_);refine Jc (λμ σ w=>∃(q:Nat),∃(o:Str),μ=s.length-q/\(o++Hu s q=[34]++Hu s 0)/\(o.length<=1+6*q/\o.length<=1+6*s.length)/\(BW w0 [] w b1 b1 132 [] o)/\AllEq σ [(6,V b1),(20,V b2)]/\FR w0 [] [(b2,.stringIter (bs s) (q))] w) _ ⟨0,[34],O,(O),Ma,(hB),J4,hF⟩ ?_;rintro μ σ w ⟨q,o,rfl,hq,ho,hB,hs,hF⟩;refine Cg.slots hs ?_;clear hs;intro σ;have hr2:St w b2=false:=by rw[Fu (hF.heap (i:=0) rfl)];rfl
 refine Ea ?_;by_cases hn0:(q)<(s:Str).length;refine E4 0 (p:=q) (str:=s) hF O O hn0 ?_;intro w hF hE;have hB:=hB.step hE (by simpa using nb2.symm) (by simpa using hr2) (by simp[Fu (hF.heap (i:=0) rfl),Rk]);refine Ba (Ao O O) (Da (Ga (Ad O (La (Fa (Qa (Ea (Ba (Tj O O) (Ba (Gb O) (Da ?_))))))))));refine Ga (Ea (Ba (Za O) ?_));refine Lb (letter_c _ (((Utf8.decode (bs s) q).1:Nat):Int)) (Na en_211 O O) ?_;rintro _ w ⟨rfl,hE⟩;have hF:=hF.ext hE;have hB:=hB.ext hE;refine Ba (Gb O) (Rb (Ba (Za O) (Ba (Vk O O) (Da ?_))));refine Ib O O (λhc2=>?_) (λhc2=>?_);refine Ea ?_;refine Lb (Fi hB.bd (92) Aa Aa (by have h1:=ho.1;have h2:=ho.2;simp;omega)) (Xa Qp O O O) ?_;rintro _ w ⟨rfl,hBd,hE⟩;have hF:=hF.wrote hB hE (by simp[Rk,nb2]);have hB:=hB.wrote hBd hE;clear hBd hE;refine Rb (Ba (Za O) ?_);refine Lb (Fi hB.bd (Bg (((Utf8.decode (bs s) q).1:Nat):Int)) (Ax _).1 (Ax _).2 (by have h1:=ho.1;have h2:=ho.2;simp;omega)) (Xa Qp O O O) ?_;rintro _ w ⟨rfl,hBd,hE⟩;have hF:=hF.wrote hB hE (by simp[Rk,nb2]);have hB:=hB.wrote hBd hE;have e1:o++[UInt8.ofNat (92:Int).toNat]++[UInt8.ofNat (Bg (((Utf8.decode (bs s) q).1:Nat):Int)).toNat]=o++Yu (Utf8.decode (bs s) q).1:=by rw[Yu,if_pos (by simpa using hc2)];simp
 rw[e1]at hB;clear hBd hE;refine Da (Ec (Ac O ?_));have h1:=Wf s q;refine Hb ⟨_,?_,q+(Utf8.decode (bs s) q).2,o++Yu (Utf8.decode (bs s) q).1,O,(by rw[sQ,<-Dp Aa];exact hq),(by have h1:=Wf s q;have h2:=Cq (Utf8.decode (bs s) q).1;rw[dQ];omega),(hB),J4,hF⟩;omega;refine La (Fa (Ga (Ea (Ba (Za O) (Ba (Nw O O) (Da ?_))))));refine Ib O O (λhc3=>?_) (λhc3=>?_);refine Ea (Ba (Za O) ?_);refine Lb (C3 hB.bd (((Utf8.decode (bs s) q).1:Nat):Int) Aa (by have:=Lib.rune_le (bs s) q;omega) (by have h1:=ho.1;have h2:=ho.2;simp;omega)) (Xa HV O O O) ?_;rintro _ w ⟨rfl,hBd,hE⟩;have hF:=hF.wrote hB hE (by simp[Rk,nb2]);have hB:=hB.wrote hBd hE;have e1:o++Kh (((Utf8.decode (bs s) q).1:Nat):Int)=o++Yu (Utf8.decode (bs s) q).1:=by rw[Yu,if_neg (by simpa using hc2),if_pos Aa]
 rw[e1]at hB;clear hBd hE;refine Da (Ec (Ac O ?_));have h1:=Wf s q;refine Hb ⟨_,?_,q+(Utf8.decode (bs s) q).2,o++Yu (Utf8.decode (bs s) q).1,O,(by rw[sQ,<-Dp Aa];exact hq),(by have h1:=Wf s q;have h2:=Cq (Utf8.decode (bs s) q).1;rw[dQ];omega),(hB),J4,hF⟩;omega;refine La (Fa (Ea (Ba (Za O) (Ka (v:=J ((((Utf8.decode (bs s) q).1:Nat):Int))) (Zc xZ underlying2 O (Rh Aa Aa)) ?_))));refine Lb (hex_c _ (hG.ext hF.same) (Utf8.decode (bs s) q).1 Aa) (Xa en_213 O O O) ?_;rintro _ w ⟨rfl,hE⟩;have hF:=hF.ext hE;have hB:=hB.ext hE;refine Ba (Fd O) (Da (Ha (Ba (Bc O) (Ba (Fj jX O) (Ka (v:=J (((4-(Tm (Utf8.decode (bs s) q).1).length:Nat):Int))) (E0 O O (have:=Pn (Utf8.decode (bs s) q).1;Vf Aa Aa Aa)) ?_)))));refine Lb (JA ((4-(Tm (Utf8.decode (bs s) q).1).length:Nat):Int) Aa Aa _) (Xa EJ O O O) ?_;rintro _ w ⟨rfl,hE⟩;have hF:=hF.ext hE;have hB:=hB.ext hE;refine Ka (v:=I (([92,117])++(Lib.repeatL [48] (4-(Tm (Utf8.decode (bs s) q).1).length)))) (Em O O (by have:=Pn (Utf8.decode (bs s) q).1;simp[Ts];omega)) ?_;refine Ba (Bc O) ?_;refine Ka (v:=I ((([92,117])++(Lib.repeatL [48] (4-(Tm (Utf8.decode (bs s) q).1).length)))++(Tm (Utf8.decode (bs s) q).1))) (Em O O (by have:=Pn (Utf8.decode (bs s) q).1;simp[Ts];omega)) ?_;refine Lb (Bl hB.bd _ (by have:=Pn (Utf8.decode (bs s) q).1;have h1:=ho.1;have h2:=ho.2;simp[Ts];omega)) (Xa Y6 O O O) ?_;rintro _ w ⟨rfl,hBd,hE⟩;have hF:=hF.wrote hB hE (by simp[Rk,nb2]);have hB:=hB.wrote hBd hE;have e1:o++((([92,117])++(Lib.repeatL [48] (4-(Tm (Utf8.decode (bs s) q).1).length)))++(Tm (Utf8.decode (bs s) q).1))=o++Yu (Utf8.decode (bs s) q).1:=by rw[Yu,if_neg (by simpa using hc2),if_neg Aa]
 rw[e1]at hB;clear hBd hE;refine Ta (Bb ?_);have h1:=Wf s q;refine Hb ⟨_,?_,q+(Utf8.decode (bs s) q).2,o++Yu (Utf8.decode (bs s) q).1,O,(by rw[sQ,<-Dp Aa];exact hq),(by have h1:=Wf s q;have h2:=Cq (Utf8.decode (bs s) q).1;rw[dQ];omega),(hB),J4,hF⟩;omega;refine Qs 0 (p:=q) (str:=s) hF O O hn0 (Ba (Ao O O) (Da (Ga (De O ?_))));refine Ec (Ac O ?_);refine Fa (Ea ?_);refine Lb (Fi hB.bd (34) Aa Aa (by have h1:=ho.1;have h2:=ho.2;simp;omega)) (Xa Qp O O O) ?_;rintro _ w ⟨rfl,hBd,hE⟩;have hF:=hF.wrote hB hE (by simp[Rk,nb2]);have hB:=hB.wrote hBd hE;clear hBd hE;refine Rb (Lb (Y4 hB.bd Ma) (Na MO O O) ?_);rintro _ w ⟨rfl,hE⟩;have hF:=hF.wrote hB hE (by simp[Rk,nb2]);refine Ba (Fd O) (Ba (Gb O) (Da ?_));refine Va (Ua (Ja (Ic (v:=I (o++[34])) (x:=J 0) O O O) ?_));refine⟨?_,hF.same⟩;rw[if_pos (by simpa using hc0),Dy,<-hq,U1 Aa,qQ]
def Vj(m:Bool)(ind d:Nat):Str:=if m then [10]++Lib.repeatL [32] (ind*d) else []
def qS(t:Str):Str:=if Lib.validD t=true then Dy t else []
theorem Av(c:UInt8)(n:Nat):(Lib.repeatL [c] n).length=n:=by
  induction n with
  | zero=>rfl
  | succ n ih=>simp[Lib.repeatL,ih];try omega
theorem Vy(m:Bool)(ind d:Nat):(Vj m ind d).length<=1+ind*d:=by unfold Vj;split <;> simp[Av] <;> omega
theorem UB(s:Str)(p:Nat):(Hu s p).length<=6*(s.length-p):=by
  induction h:s.length-p using Nat.strongRecOn generalizing p with
  | ind n ih =>
    by_cases hp:p<s.length
    ·rw[Dp hp, dQ]
     have h1:=Cq (Utf8.decode (bs s) p).1;have h2:=Wf s p;have h3:=ih (s.length-(p+(Utf8.decode (bs s) p).2)) Aa (p+(Utf8.decode (bs s) p).2) rfl;omega
    rw[U1 hp];simp
theorem C_(s:Str):(qS s).length<=6*s.length+2:=by
  unfold qS;split
  ·have := UB s 0
   simp[Dy];omega
  simp
theorem repeat_c(t:Str)(c:Nat)(h1:c<=9223372036854775807)(h2:t.length*c<=140737488355328)(w:World):Calls prog 197 #[I t,J (c:Int)] w (Dd λv w'=>v=I (Lib.repeatL t c)/\Same [] w w'):=by
  have h:=strings_Repeat (bs t) c w h1 (by rw[Eo];exact h2);exact Cw h
theorem FZ(t:Str)(hl:t.length<=17592186044416)(w0:World)(hG:Gl w0):Calls prog 177 #[I t] w0 (Dd λv w'=>v=.tuple #[I (qS t),J (if Lib.validD t=true then 0 else 2)]/\Same [] w0 w'):=by
  refine El (quote_c w0 hG t hl) λv w' ⟨h1,h2⟩=>⟨?_,h2⟩;rw[h1,qS];split <;> rfl
theorem Bd.mul{w:World}{B pb T:Nat}{m:Bool}{ind:Int}{s:Str}(h:Bd w B pb T [.bool m,J ind] s):w.cell? ⟨pb,2,none⟩=some (.bool m):=by
  obtain⟨ap,v,hh,-⟩:=h.ex;rw[Uc hh];rfl
theorem Bd.ind{w:World}{B pb T:Nat}{m:Bool}{ind:Int}{s:Str}(h:Bd w B pb T [.bool m,J ind] s):w.cell? ⟨pb,3,none⟩=some (J ind):=by
  obtain⟨ap,v,hh,-⟩:=h.ex;rw[Uc hh];rfl
theorem Gl.wrote{w0 w:World}{B pb:Nat}(h:Gl w0)(hs:Same (Wk w0 B pb) w0 w)(hb:8<=B)(hp:B<=pb):Gl w:=h.same hs λx hx=>by
  rcases Yg.1 hx with rfl|⟨-,h1,-⟩ <;> omega
theorem CJ(w0:World)(B pb:Nat)(m:Bool)(ind:Nat)(s:Str)(hBd:Bd w0 B pb 134 [.bool m,J (ind:Int)] s)(d:Nat)(hd:ind*d<=1000000000)(hl:s.length+(Vj m ind d).length<=140737488355328):Hy 179 #[V pb,J (d:Int)] (.tuple #[]) w0 B pb 134 [.bool m,J (ind:Int)] (s++Vj m ind d):=by
 unfold Hy;refine Ia func179 O ntmps179 Eb (Pc _ _) ?_;have hB:=BW.start hBd;have hF:=FR.start w0 (Wk w0 B pb);refine Ea (Ba (Xg O) (Ba (Ij O) (Ba (Ob YE O) (Ka (v:=.bool (m)) (Qd fZ O hB.bd.mul) (Da ?_)))));refine Le O O (λhc0=>?_) (λhc0=>?_);rw[Vj,if_pos hc0]at hl;simp only[dQ,kQ,List.length_nil,Av]at hl;refine Ea (Ba (Xg O) (Ba (Ij O) (Ba (Ob Hj O) ?_)));refine Lb (Fi hB.bd 10 Ab Ab Aa) (Xa Qp O O O) ?_;rintro _ w ⟨rfl,hBd,hE⟩;have hF:=hF.wrote hB hE Ma;have hB:=hB.wrote hBd hE;clear hBd hE;refine Da (Ke (.of []) (bQ [0,1,2,3,4,5,6,7,8] (.act 9 (.act 10 .nil))) hF ?_);intro w hF hE;have hB:=hB.ext hE;refine⟨λwq=>FR w0 (Wk w0 B pb) _ wq/\∃s',Bd wq B pb 134 [.bool m,J (ind:Int)] s',⟨hF,⟨_,hB.bd⟩⟩,?_⟩;refine Jb O (Xg O) (Jb O (Ij O) (Jb O (Ob Hj O) (Jb O (Xg O) (Jb O (Ij O) (Jb O (Ob fa_134_2 O) ?_)))));refine Cb rfl (v:=J ((ind:Int))) (λw hC=>Qd eZ rfl (by obtain⟨-,s_,hs_⟩:=hC;exact hs_.ind)) ?_;refine Jb O (Za O) (Cb O (v:=J (((ind*d:Nat):Int))) (λw hC=>F3 O O (Vf (by rw[Int.natCast_mul]) Aa Aa)) ?_);refine Pd O (repeat_c [32] (ind*d) Aa (by simp;omega) _) (Xa EJ O O O) ?_;rintro _ w ⟨rfl,hE⟩;have hF:=hF.ext hE;have hB:=hB.ext hE;refine⟨⟨hF,⟨_,hB.bd⟩⟩,?_⟩;refine Pd O (Bl hB.bd (Lib.repeatL [32] (ind*d)) (by simp[Av];omega)) (Xa Y6 O O O) ?_;rintro _ w ⟨rfl,hBd,hE⟩;have hF:=hF.wrote hB hE Ma;have hB:=hB.wrote hBd hE;clear hBd hE;refine⟨⟨hF,⟨_,hB.bd⟩⟩,?_⟩;refine Hc (Dh (Ze (Bk O) ?_));exact⟨O,by simpa[Vj,hc0]using hB.bd,hF.same⟩;refine La (Dh (Ze (Bk O) ?_));exact⟨O,by simpa[Vj,hc0]using hB.bd,hF.same⟩
theorem Q9(w0:World)(B pb:Nat)(m:Bool)(ind:Nat)(s:Str)(hBd:Bd w0 B pb 134 [.bool m,J (ind:Int)] s)(hG:Gl w0)(h8:8<=B)(t:Str)(ht:t.length<=17592186044416)(hl:s.length+(qS t).length<=140737488355328):Hy 136 #[V pb,I t] (.tuple #[]) w0 B pb 134 [.bool m,J (ind:Int)] (s++qS t):=by
 unfold Hy;refine Ia func136 O ntmps136 Eb (Pc _ _) ?_;have hB:=BW.start hBd;have hF:=FR.start w0 (Wk w0 B pb);refine Ea (Ba (Bc O) ?_);refine Lb (FZ t ht _ ((hG.wrote hF.same h8 hBd.le))) (Na en_177 O O) ?_;rintro _ w ⟨rfl,hE⟩;have hF:=hF.ext hE;have hB:=hB.ext hE;refine Ba (Qk O) (Ba (Iy O O) (Ba (Tj O O) (Ba (Fd O) (Ba (Gb O) (Da (Ha (Ba (Xg O) (Ba (Ij O) (Ba (Ob Hj O) (Ba (Bc O) ?_))))))))));refine Lb (Bl hB.bd (qS t) Aa) (Xa Y6 O O O) ?_;rintro _ w ⟨rfl,hBd,hE⟩;have hF:=hF.wrote hB hE Ma;have hB:=hB.wrote hBd hE;clear hBd hE;refine Ta (Dh (Ze (Bk O) ?_));exact⟨O,hB.bd,hF.same⟩
def Ig(m:Bool)(ind d:Nat):Bool->List Str->Str
  | _,[]=>[]
  | first,p::ps=>(if first then [] else [44])++(Vj m ind (d+1)++(p++Ig m ind d false ps))
def Ym(m:Bool)(ind d:Nat)(o c:UInt8)(ps:List Str):Str:=[o]++(Ig m ind d true ps++((if ps=[] then [] else Vj m ind d)++[c]))
mutual
def Mg(m:Bool)(ind:Nat):Tree->Nat->Str
  | .node k t ks xs,d=>if k=1 then [110,117,108,108] else if k=4 then qS t else if k=5 then Ym m ind d 91 93 (Il m ind xs (d+1)) else if k=6 then Ym m ind d 123 125 (Jj m ind xs ks (d+1)) else t
def Il(m:Bool)(ind:Nat):List Tree->Nat->List Str
  | [],_=>[]
  | x::xs,d=>Mg m ind x d::Il m ind xs d
def Jj(m:Bool)(ind:Nat):List Tree->List Str->Nat->List Str
  | [],_,_=>[]
  | x::xs,ks,d=>(qS (ks.headD [])++([58]++((if m then [32] else [])++Mg m ind x d)))::Jj m ind xs ks.tail d
end
theorem Gh:∀{xs:List Tree}{x:Tree},x∈xs->Cd x<=Jd xs
  | y :: ys, x, h => by
    rw[Jd];rcases oQ.1 h with rfl|h
    ·omega
    have:=Gh h;omega
theorem Ny(m:Bool)(ind d:Nat):∀xs,Il m ind xs d=xs.map (λx=>Mg m ind x d)
  | []=>by simp[Il]
  | x::xs=>by simp[Il,Ny m ind d xs]
def UK(m:Bool)(ind d:Nat)(k:Str)(x:Tree):Str:=qS k++([58]++((if m then [32] else [])++Mg m ind x d))
theorem Ks(m:Bool)(ind d:Nat):∀xs ks,(Jj m ind xs ks d).length=xs.length
  | [],ks=>by simp[Jj]
  | x::xs,ks=>by simp[Jj,Ks m ind d xs ks.tail]
theorem W_(m:Bool)(ind d:Nat):∀(xs:List Tree)(ks:List Str)(j:Nat)(h:j<xs.length)(hk:j<ks.length)(h':j<(Jj m ind xs ks d).length),(Jj m ind xs ks d)[j]=UK m ind d ks[j] xs[j]
  | x::xs,k::ks,0,_,_,_=>by simp[Jj,UK]
  | x :: xs, k :: ks, j + 1, h, hk, h' => by
    simp only[Jj,List.tail_cons,List.getElem_cons_succ];exact W_ m ind d xs ks j (by simpa using h) (by simpa using hk) (by simpa[Jj]using h')
theorem CS(m:Bool)(ind d:Nat){ps:List Str}{j:Nat}(h:j<ps.length):Ig m ind d (decide (j=0)) (ps.drop j)=(if j=0 then [] else [44])++(Vj m ind (d+1)++(ps[j]++Ig m ind d (decide (j+1=0)) (ps.drop (j+1)))):=by
  rw[List.drop_eq_getElem_cons h,Ig];simp
mutual
def KO:Tree->Prop|.node _ t ks xs=>t.length<=17592186044416/\(∀k∈ks,k.length<=17592186044416)/\CL xs
def CL:List Tree->Prop|[]=>True|x::xs=>KO x/\CL xs
end
theorem Wy:∀{xs:List Tree},CL xs->∀x∈xs,KO x
  | [],_,_,h=>absurd h Ma
  | y :: ys, h, x, hx => by
    rw[CL]at h;rcases oQ.1 hx with rfl|hx
    ·exact h.1
    exact Wy h.2 x hx
def PU(x:Tree):Prop:=∀(m:Bool)(ind d:Nat)(w0:World)(B pb:Nat)(s:Str)(cs:List Value),Bd w0 B pb 134 [.bool m,J (ind:Int)] s->Gl w0->8<=B->Rep (λb=>b∉Wk w0 B pb) w0 (Pb x) cs->KO x->Xc nodeB x=true ->
  ind*(d+Cd x)<=1000000000->d+Cd x<=1000000000->s.length+(Mg m ind x d).length<=140737488355328->Hy 90 #[V pb,.agg cs.toArray,J (d:Int)] (.tuple #[]) w0 B pb 134 [.bool m,J (ind:Int)] (s++Mg m ind x d)
def ItemC(f:Nat)(k:Int)(t:Str)(ks:List Str)(xs:List Tree)(m:Bool)(ind d:Nat)(ps:List Str):Prop:=∀(j:Nat)(hj:j<ps.length)(w0:World)(B pb:Nat)(s:Str)(A B':Option Addr)(c e:Nat),Bd w0 B pb 134 [.bool m,J (ind:Int)] s->Gl w0->8<=B ->
  Rep (λb=>b∉Wk w0 B pb) w0 (Pb (.node k t ks xs)) [J k,I t,.slice A ks.length c,.slice B' xs.length e]->s.length+ps[j].length<=140737488355328 ->
  Hy f #[V pb,.agg #[J k,I t,.slice A ks.length c,.slice B' xs.length e],J (j:Int),J (d:Int)] (.tuple #[]) w0 B pb 134 [.bool m,J (ind:Int)] (s++ps[j])
theorem item_c(k:Int)(t:Str)(ks:List Str)(xs:List Tree)(m:Bool)(ind d:Nat)(j:Nat)(hj:j<xs.length)(w0:World)(B pb:Nat)(s:Str)(A B_:Option Addr)(c e:Nat)(hBd:Bd w0 B pb 134 [.bool m,J (ind:Int)] s)(hG:Gl w0)(h8:8<=B)(hX:Rep (λb=>b∉Wk w0 B pb) w0 (Pb (.node k t ks xs)) [J k,I t,.slice A ks.length c,.slice B_ xs.length e])(hv:∀x∈xs,PU x)(hok:KO (.node k t ks xs))(hn:Xc nodeB (.node k t ks xs)=true)(hd:ind*(d+Jd xs)<=1000000000)(hd2:d+Jd xs<=1000000000)(hl:s.length+(Mg m ind xs[j] d).length<=140737488355328):Hy 138 #[V pb,.agg #[J k,I t,.slice A ks.length c,.slice B_ xs.length e],J (j:Int),J (d:Int)] (.tuple #[]) w0 B pb 134 [.bool m,J (ind:Int)] (s++Mg m ind xs[j] d):=by
 unfold Hy;rw[KO]at hok;refine Ia func138 O ntmps138 Eb (NC _ _ _ _) ?_;have hB:=BW.start hBd;have hF:=FR.start w0 (Wk w0 B pb);refine Ea (Oe hF O ?_);intro b1 w hb1 hF hE;have nb1:b1≠pb:=by have:=hB.lt;omega
 have hX:=hX.off_ext hB.lt hE;have hB:=hB.ext hE;refine Da (Ha (Ba (Xg O) (Ba (Ob Xb O) (Zb (Xe zQ O hF.F 0 O O) (Ba (Za O) ?_)))));obtain⟨A_,c_,B__,e_,heq_,-,-,hK_,hXs_⟩:=hX.tree_inv;simp only[List.cons.injEq,Value.slice.injEq,true_and,and_true]at heq_;obtain⟨⟨rfl,rfl⟩,rfl,rfl⟩:=heq_;obtain⟨ad0,cs0,hA0,hl0,hk0,hx0⟩:=hXs_.tree_elem (i:=j) Aa;have ho0:=hx0.one_;refine Ka (v:=.pointer (some (ad0.add (j*4)))) (Sa (i:=(j:Int)) Hg O hA0 O Aa Aa) (Ka (v:=.agg (List.toArray cs0)) (Wa (l:=cs0) aZ nZ O hl0 hk0) (Ba (Za O) ?_));refine Lb (hv xs[j] (eQ hj) m ind d _ B pb s _ hB.bd (hG.wrote hF.same h8 hBd.le) h8 hx0 (Wy hok.2.2 _ (eQ hj)) ((Ee hn).2 _ (eQ hj)) (by have h1:=Gh (eQ hj);exact fQ (Nat.mul_le_mul_left ind Aa) hd) (by have h1:=Gh (eQ hj);omega) hl) (Rf UP O O O O) ?_;rintro _ w ⟨rfl,hBd2,hE⟩;have hF:=hF.wrote hB hE (by simp[Rk,nb1]);have hX:=hX.off hE;have hB:=hB.wrote hBd2 hE;clear hBd2 hE;refine Ta (Dh (Ze (Bk O) ?_));exact⟨O,hB.bd,hF.same⟩
theorem FX(k:Int)(t:Str)(ks:List Str)(xs:List Tree)(m:Bool)(ind d:Nat)(j:Nat)(hj:j<xs.length)(hjk:j<ks.length)(w0:World)(B pb:Nat)(s:Str)(A B_:Option Addr)(c e:Nat)(hBd:Bd w0 B pb 134 [.bool m,J (ind:Int)] s)(hG:Gl w0)(h8:8<=B)(hX:Rep (λb=>b∉Wk w0 B pb) w0 (Pb (.node k t ks xs)) [J k,I t,.slice A ks.length c,.slice B_ xs.length e])(hv:∀x∈xs,PU x)(hok:KO (.node k t ks xs))(hn:Xc nodeB (.node k t ks xs)=true)(hd:ind*(d+Jd xs)<=1000000000)(hd2:d+Jd xs<=1000000000)(hl:s.length+(UK m ind d ks[j] xs[j]).length<=140737488355328):Hy 139 #[V pb,.agg #[J k,I t,.slice A ks.length c,.slice B_ xs.length e],J (j:Int),J (d:Int)] (.tuple #[]) w0 B pb 134 [.bool m,J (ind:Int)] (s++UK m ind d ks[j] xs[j]):=by
 unfold Hy;rw[KO]at hok;rw[UK]at hl;simp only[dQ,kQ,List.length_nil]at hl;refine Ia func139 O ntmps139 Eb (NC _ _ _ _) ?_;have hB:=BW.start hBd;have hF:=FR.start w0 (Wk w0 B pb);refine Ea (Oe hF O ?_);intro b1 w hb1 hF hE;have nb1:b1≠pb:=by have:=hB.lt;omega
 have hX:=hX.off_ext hB.lt hE;have hB:=hB.ext hE;refine Rb (Ba (Xg O) (Ba (Ob Td O) (Zb (Xe yQ O hF.F 0 O O) (Ba (Za O) ?_))));obtain⟨A_,c_,B__,e_,heq_,-,-,hK_,hXs_⟩:=hX.tree_inv;simp only[List.cons.injEq,Value.slice.injEq,true_and,and_true]at heq_;obtain⟨⟨rfl,rfl⟩,rfl,rfl⟩:=heq_;obtain⟨ad0,hA0,hk0,hx0⟩:=hK_.str_elem (i:=j) Aa;refine Ka (v:=.pointer (some (ad0.add (j*1)))) (Sa (i:=(j:Int)) Ip O hA0 O Aa Aa) (Ka (v:=I (ks[j])) (Qd jZ O hk0) ?_);refine Lb (Q9 _ B pb m ind s hB.bd (hG.wrote hF.same h8 hBd.le) h8 ks[j] (hok.2.1 _ (eQ hjk)) Aa) (Xa WX O O O) ?_;rintro _ w ⟨rfl,hBd2,hE⟩;have hF:=hF.wrote hB hE (by simp[Rk,nb1]);have hX:=hX.off hE;have hB:=hB.wrote hBd2 hE;clear hBd2 hE;refine Rb (Ba (Xg O) (Ba (Ij O) (Ba (Ob Hj O) ?_)));refine Lb (Fi hB.bd 58 Ab Ab (by rw[dQ];omega)) (Xa Qp O O O) ?_;rintro _ w ⟨rfl,hBd2,hE⟩;have hF:=hF.wrote hB hE (by simp[Rk,nb1]);have hX:=hX.off hE;have hB:=hB.wrote hBd2 hE;clear hBd2 hE;refine Da (Ga (Ea (Ba (Xg O) (Ba (Ij O) (Ba (Ob YE O) (Ka (v:=.bool (m)) (Qd fZ O hB.bd.mul) (Da ?_)))))));refine Le O O (λhc0=>?_) (λhc0=>?_);refine Ha (Ba (Xg O) (Ba (Ij O) (Ba (Ob Hj O) ?_)));refine Lb (Fi hB.bd 32 Ab Ab (by simp only[dQ,kQ,List.length_nil];(first|rw[if_pos hc0]at hl|rw[if_neg (by simp[hc0])]at hl);simp only[kQ,List.length_nil]at hl;omega)) (Xa Qp rfl rfl rfl) ?_;rintro _ w ⟨rfl,hBd2,hE⟩;have hF:=hF.wrote hB hE (by simp[Rk,nb1]);have hX:=hX.off hE;have hB:=hB.wrote hBd2 hE;clear hBd2 hE;refine Da (Ha (Ba (Xg O) (Ba (Ob Xb O) (Zb (Xe zQ O hF.F 0 O O) (Ba (Za O) ?_)))));obtain⟨A_,c_,B__,e_,heq_,-,-,hK_,hXs_⟩:=hX.tree_inv;simp only[List.cons.injEq,Value.slice.injEq,true_and,and_true]at heq_;obtain⟨⟨rfl,rfl⟩,rfl,rfl⟩:=heq_;obtain⟨ad1,cs1,hA1,hl1,hk1,hx1⟩:=hXs_.tree_elem (i:=j) Aa
 have ho1:=hx1.one_;refine Ka (v:=.pointer (some (ad1.add (j*4)))) (Sa (i:=(j:Int)) Hg O hA1 O Aa Aa) (Ka (v:=.agg (List.toArray cs1)) (Wa (l:=cs1) aZ nZ O hl1 hk1) (Ba (Za O) ?_));refine Lb (hv xs[j] (eQ hj) m ind d _ B pb _ _ hB.bd (hG.wrote hF.same h8 hBd.le) h8 hx1 (Wy hok.2.2 _ (eQ hj)) ((Ee hn).2 _ (eQ hj)) (by have h1:=Gh (eQ hj);exact fQ (Nat.mul_le_mul_left ind Aa) hd) (by have h1:=Gh (eQ hj);omega) (by simp only[dQ,kQ,List.length_nil];(first|rw[if_pos hc0]at hl|rw[if_neg (by simp[hc0])]at hl);simp only[kQ,List.length_nil]at hl;omega)) (Rf UP rfl rfl rfl rfl) ?_;rintro _ w ⟨rfl,hBd2,hE⟩;have hF:=hF.wrote hB hE (by simp[Rk,nb1]);have hX:=hX.off hE;have hB:=hB.wrote hBd2 hE;clear hBd2 hE;refine Ta (Dh (Ze (Bk O) ?_));exact⟨O,by simpa[UK,hc0]using hB.bd,hF.same⟩;refine La (Fa (Ha (Ba (Xg O) (Ba (Ob Xb O) (Zb (Xe zQ O hF.F 0 O O) (Ba (Za O) ?_))))));obtain⟨A_,c_,B__,e_,heq_,-,-,hK_,hXs_⟩:=hX.tree_inv;simp only[List.cons.injEq,Value.slice.injEq,true_and,and_true]at heq_;obtain⟨⟨rfl,rfl⟩,rfl,rfl⟩:=heq_;obtain⟨ad2,cs2,hA2,hl2,hk2,hx2⟩:=hXs_.tree_elem (i:=j) Aa;have ho2:=hx2.one_;refine Ka (v:=.pointer (some (ad2.add (j*4)))) (Sa (i:=(j:Int)) Hg O hA2 O Aa Aa) (Ka (v:=.agg (List.toArray cs2)) (Wa (l:=cs2) aZ nZ O hl2 hk2) (Ba (Za O) ?_));refine Lb (hv xs[j] (eQ hj) m ind d _ B pb _ _ hB.bd (hG.wrote hF.same h8 hBd.le) h8 hx2 (Wy hok.2.2 _ (eQ hj)) ((Ee hn).2 _ (eQ hj)) (by have h1:=Gh (eQ hj);exact fQ (Nat.mul_le_mul_left ind Aa) hd) (by have h1:=Gh (eQ hj);omega) (by simp only[dQ,kQ,List.length_nil];(first|rw[if_pos hc0]at hl|rw[if_neg (by simp[hc0])]at hl);simp only[kQ,List.length_nil]at hl;omega)) (Rf UP rfl rfl rfl rfl) ?_;rintro _ w ⟨rfl,hBd2,hE⟩;have hF:=hF.wrote hB hE (by simp[Rk,nb1]);have hX:=hX.off hE
 have hB:=hB.wrote hBd2 hE;clear hBd2 hE;refine Ta (Dh (Ze (Bk O) ?_));exact⟨O,by simpa[UK,hc0]using hB.bd,hF.same⟩
theorem MQ(m:Bool)(ind d:Nat)(b:Bool):Ig m ind d b []=[]:=by cases b <;> rfl
theorem CO(f:Nat)(hen:Ra prog f)(k:Int)(t:Str)(ks:List Str)(xs:List Tree)(m:Bool)(ind d:Nat)(bo bc:UInt8)(ps:List Str)(hps:ps.length=xs.length)(hI:ItemC f k t ks xs m ind (d+1) ps)(w0:World)(B pb:Nat)(s:Str)(A B_:Option Addr)(c e:Nat)(hBd:Bd w0 B pb 134 [.bool m,J (ind:Int)] s)(hG:Gl w0)(h8:8<=B)(hX:Rep (λb=>b∉Wk w0 B pb) w0 (Pb (.node k t ks xs)) [J k,I t,.slice A ks.length c,.slice B_ xs.length e])(hd1:ind*(d+1)<=1000000000)(hd2:d+1<=1000000000)(hxl:xs.length<=9223372036854775807)(hlim:s.length+(Ym m ind d bo bc ps).length<=140737488355328):Hy 137 #[V pb,.agg #[J k,I t,.slice A ks.length c,.slice B_ xs.length e],J (d:Int),I [bo,bc],.func (.func f) #[V pb] #[]] (.tuple #[]) w0 B pb 134 [.bool m,J (ind:Int)] (s++Ym m ind d bo bc ps):=by
 unfold Hy;rw[Ym]at hlim;simp only[dQ,kQ,List.length_nil]at hlim;refine Ia func137 O ntmps137 Eb (MJ _ _ _ _ _) ?_;have hB:=BW.start hBd;have hF:=FR.start w0 (Wk w0 B pb);refine Ea (Oe hF O ?_);intro b1 w hb1 hF hE;have nb1:b1≠pb:=by have:=hB.lt;omega
 have hX:=hX.off_ext hB.lt hE;have hB:=hB.ext hE;refine Da (Ga ?_);refine Ke (.of []) (bQ [0,1,2,3,4] (.act 5 .nil)) hF ?_;intro w hF hE;have hX:=hX.off_ext hB.lt hE;have hB:=hB.ext hE;refine⟨λwq=>FR w0 (Wk w0 B pb) _ wq,hF,?_⟩;refine Jb O (Xg O) (Jb O (Ij O) (Jb O (Ob Hj O) (Jb O (Bc O) ?_)));refine Cb O (v:=.int .u8 (((bo.toNat:Nat):Int))) (λw hC=>Oc (s:=[bo,bc]) 0 jX O O Ma) (Pd O (Bq hB.bd bo Aa) (Xa Qp O O O) ?_);rintro _ w ⟨rfl,hBd2,hE⟩;have hF:=hF.wrote hB hE (by simp[Rk,nb1]);have hX:=hX.off hE;have hB:=hB.wrote hBd2 hE;clear hBd2 hE;refine⟨hF,?_⟩;refine Hc (Fa (Ga (Ea (Ba (Ob Xb O) (Zb (Xe zQ O hF.F 0 O O) (Ba (Ch zZ O) (Ba (Za O) (Da (Qa ?_)))))))));refine Jc (λμ σ w=>∃(j:Nat),∃(o:Str),μ=xs.length-j/\(j<=xs.length)/\(o++Ig m ind d (decide (j=0)) (ps.drop j)=s++([bo]++Ig m ind d true ps))/\(BW w0 (Wk w0 B pb) w B pb 134 [.bool m,J (ind:Int)] (o))/\(Rep (λb=>b∉Wk w B pb) w (Pb (.node k t ks xs)) [J k,I t,.slice A ks.length c,.slice B_ xs.length e])/\AllEq σ [(0,V pb),(2,J ((d:Int))),(3,I ([bo,bc])),(4,.func (.func f) #[V pb] #[]),(6,V b1),(19,J ((xs.length:Nat))),(20,J ((j:Int)))]/\FR w0 (Wk w0 B pb) [(b1,.cells #[J k,I t,.slice A ks.length c,.slice B_ xs.length e] 25)] w) _ ⟨0,s++[bo],O,(Nat.zero_le _),Ma,(hB),(hX),M4,hF⟩ ?_;rintro μ σ w ⟨j,o,rfl,hj,hq,hB,hX,hs,hF⟩;refine Cg.slots hs ?_;clear hs;intro σ;refine Ea (Ba (Di O O) (Da (Ga ?_)));refine Ib O O (λhc0=>?_) (λhc0=>?_);have hjp:j<ps.length:=by omega
 have hjd:=CS m ind d hjp;have hL:=congrArg List.length hq;rw[hjd]at hL;have hif:(if j=0 then ([]:Str) else [44]).length=if j=0 then 0 else 1:=by split <;> rfl
 simp only[dQ,kQ,List.length_nil,hif]at hL;refine La (Fa (Ga (Qa (Ea (Ba (Za O) (Ba (Gb O) (Da (Ga (Ea (Ba (Za O) ?_))))))))));refine Ba (Ho O O) (Da ?_);refine Ib O O (λhc1=>?_) (λhc1=>?_);refine Ha (Ba (Xg O) (Ba (Ij O) (Ba (Ob Hj O) ?_)));refine Lb (Fi hB.bd 44 Ab Ab (by rw[if_neg Aa]at hL;omega)) (Xa Qp O O O) ?_;rintro _ w ⟨rfl,hBd2,hE⟩;have hF:=hF.wrote hB hE (by simp[Rk,nb1]);have hX:=hX.off hE;have hB:=hB.wrote hBd2 hE;clear hBd2 hE;refine Rb (Ba (Xg O) (Ba (Za O) (Ba (Ek (((d+1:Nat):Int)) O O) ?_)));refine Lb (CJ _ B pb m ind _ hB.bd (d+1) hd1 (by (try simp only[dQ,kQ,List.length_nil]);first|(rw[if_neg Aa]at hL;omega)|(rw[if_pos Aa]at hL;omega))) (Xa FM rfl rfl rfl) ?_;rintro _ w ⟨rfl,hBd2,hE⟩;have hF:=hF.wrote hB hE (by simp[Rk,nb1]);have hX:=hX.off hE;have hB:=hB.wrote hBd2 hE;clear hBd2 hE;refine Da (Ha (Ba (Nt) (Zb (Of aZ nZ O hF.F 0 O O) (Ba (Za O) (Ba (Za O) (Ba (Ek (((d+1:Nat):Int)) O O) ?_))))));refine Lb (hI j hjp _ B pb _ A B_ c e hB.bd (hG.wrote hF.same h8 hBd.le) h8 hX (by (try simp only[dQ,kQ,List.length_nil]);first|(rw[if_neg Aa]at hL;omega)|(rw[if_pos Aa]at hL;omega))) (MI rfl hen rfl rfl rfl rfl) ?_;rintro _ w ⟨rfl,hBd2,hE⟩;have hF:=hF.wrote hB hE (by simp[Rk,nb1]);have hX:=hX.off hE;have hB:=hB.wrote hBd2 hE;clear hBd2 hE;have hB:BW w0 (Wk w0 B pb) w B pb 134 [.bool m,J (ind:Int)] (o++((if j=0 then [] else [44])++(Vj m ind (d+1)++ps[j]))):=by first|(have h0:¬j=0:=Aa;rw[if_neg h0];simpa using hB)|(have h0:j=0:=Aa;rw[if_pos h0];simpa using hB)
 refine Ta (Bb (Fa (Ha (Ba (Nl O O) (Ba (Za O) (Ta ?_))))));refine Hb ⟨_,?_,j+1,o++((if j=0 then [] else [44])++(Vj m ind (d+1)++ps[j])),O,Aa,(by have h:=hq;rw[hjd]at h;simpa[sQ]using h),(hB),(hX),M4,hF⟩;omega;refine La (Fa (Ea (Ba (Xg O) (Ba (Za O) (Ba (Ek (((d+1:Nat):Int)) O O) ?_)))));refine Lb (CJ _ B pb m ind _ hB.bd (d+1) hd1 (by (try simp only[dQ,kQ,List.length_nil]);first|(rw[if_neg Aa]at hL;omega)|(rw[if_pos Aa]at hL;omega))) (Xa FM rfl rfl rfl) ?_;rintro _ w ⟨rfl,hBd2,hE⟩;have hF:=hF.wrote hB hE (by simp[Rk,nb1]);have hX:=hX.off hE;have hB:=hB.wrote hBd2 hE;clear hBd2 hE;refine Da (Ha (Ba (Nt) (Zb (Of aZ nZ O hF.F 0 O O) (Ba (Za O) (Ba (Za O) (Ba (Ek (((d+1:Nat):Int)) O O) ?_))))));refine Lb (hI j hjp _ B pb _ A B_ c e hB.bd (hG.wrote hF.same h8 hBd.le) h8 hX (by (try simp only[dQ,kQ,List.length_nil]);first|(rw[if_neg Aa]at hL;omega)|(rw[if_pos Aa]at hL;omega))) (MI rfl hen rfl rfl rfl rfl) ?_;rintro _ w ⟨rfl,hBd2,hE⟩;have hF:=hF.wrote hB hE (by simp[Rk,nb1]);have hX:=hX.off hE;have hB:=hB.wrote hBd2 hE;clear hBd2 hE;have hB:BW w0 (Wk w0 B pb) w B pb 134 [.bool m,J (ind:Int)] (o++((if j=0 then [] else [44])++(Vj m ind (d+1)++ps[j]))):=by first|(have h0:¬j=0:=Aa;rw[if_neg h0];simpa using hB)|(have h0:j=0:=Aa;rw[if_pos h0];simpa using hB)
 refine Ta (Bb (Fa (Ha (Ba (Nl O O) (Ba (Za O) (Ta ?_))))));refine Hb ⟨_,?_,j+1,o++((if j=0 then [] else [44])++(Vj m ind (d+1)++ps[j])),O,Aa,(by have h:=hq;rw[hjd]at h;simpa[sQ]using h),(hB),(hX),M4,hF⟩;omega;have hq2:o=s++([bo]++Ig m ind d true ps):=by have h:=hq;rw[List.drop_eq_nil_of_le Aa,MQ,qQ]at h;exact h
 refine Ec (Ac O ?_);refine Fa (Ga (Ea (Ba (Ob Xb O) (Zb (Xe zQ O hF.F 0 O O) (Ba (Ch zZ O) (Ba (Ho O O) (Da ?_)))))));refine Ib O O (λhc2=>?_) (λhc2=>?_);have hpn:ps≠[]:=by intro hp;rw[hp]at hps;simp at hps;omega
 refine Ha (Ba (Xg O) (Ba (Za O) ?_));refine Lb (CJ _ B pb m ind _ hB.bd d (fQ (Nat.mul_le_mul_left ind Aa) hd1) (by have hp:ps≠[]:=(by intro hp;rw[hp]at hps;simp at hps;omega);rw[if_neg hp]at hlim;rw[hq2];(try simp only[dQ,kQ,List.length_nil]);omega)) (Xa FM rfl rfl rfl) ?_;rintro _ w ⟨rfl,hBd2,hE⟩;have hF:=hF.wrote hB hE (by simp[Rk,nb1]);have hX:=hX.off hE;have hB:=hB.wrote hBd2 hE;clear hBd2 hE;refine Da (Ke (.of []) (bQ [0,1,2,3,4] (.act 5 .nil)) hF ?_);intro w hF hE;have hX:=hX.off_ext hB.lt hE;have hB:=hB.ext hE;refine⟨λwq=>FR w0 (Wk w0 B pb) _ wq,hF,?_⟩;refine Jb O (Xg O) (Jb O (Ij O) (Jb O (Ob Hj O) (Jb O (Bc O) ?_)));refine Cb O (v:=.int .u8 (((bc.toNat:Nat):Int))) (λw hC=>Oc (s:=[bo,bc]) 1 jX O O Ma) ?_;refine Pd rfl (Bq hB.bd bc (by rw[hq2];(try simp only[dQ,kQ,List.length_nil]);first|(rw[if_neg hpn]at hlim;omega)|omega)) (Xa Qp rfl rfl rfl) ?_;rintro _ w ⟨rfl,hBd2,hE⟩;have hF:=hF.wrote hB hE (by simp[Rk,nb1]);have hX:=hX.off hE;have hB:=hB.wrote hBd2 hE;clear hBd2 hE;refine⟨hF,?_⟩;refine Hc (Dh (Ze (Bk O) ?_));refine⟨O,?_,hF.same⟩;have hb:=hB.bd;rw[hq2]at hb;rw[Ym,if_neg hpn];simpa[sQ]using hb;have hpz:ps=[]:=List.eq_nil_of_length_eq_zero Aa;refine La (Fa ?_);refine Ke (.of []) (bQ [0,1,2,3,4] (.act 5 .nil)) hF ?_;intro w hF hE;have hX:=hX.off_ext hB.lt hE;have hB:=hB.ext hE;refine⟨λwq=>FR w0 (Wk w0 B pb) _ wq,hF,?_⟩;refine Jb O (Xg O) (Jb O (Ij O) (Jb O (Ob Hj O) (Jb O (Bc O) ?_)));refine Cb O (v:=.int .u8 (((bc.toNat:Nat):Int))) (λw hC=>Oc (s:=[bo,bc]) 1 jX O O Ma) ?_;refine Pd rfl (Bq hB.bd bc (by rw[hq2];(try simp only[dQ,kQ,List.length_nil]);first|(rw[if_neg hpn]at hlim;omega)|omega)) (Xa Qp rfl rfl rfl) ?_;rintro _ w ⟨rfl,hBd2,hE⟩;have hF:=hF.wrote hB hE (by simp[Rk,nb1])
 have hX:=hX.off hE;have hB:=hB.wrote hBd2 hE;clear hBd2 hE;refine⟨hF,?_⟩;refine Hc (Dh (Ze (Bk O) ?_));refine⟨O,?_,hF.same⟩;have hb:=hB.bd;rw[hq2]at hb;rw[Ym,if_pos hpz];simpa[sQ]using hb
theorem VL(k:Int)(t:Str)(ks:List Str)(xs:List Tree)(ih:∀x∈xs,PU x)(m:Bool)(ind d:Nat)(w0:World)(B pb:Nat)(s:Str)(A B_:Option Addr)(c e:Nat)(hBd:Bd w0 B pb 134 [.bool m,J (ind:Int)] s)(hG:Gl w0)(h8:8<=B)(hX:Rep (λb=>b∉Wk w0 B pb) w0 (Pb (.node k t ks xs)) [J k,I t,.slice A ks.length c,.slice B_ xs.length e])(hok:KO (.node k t ks xs))(hn:Xc nodeB (.node k t ks xs)=true)(hd:ind*(d+Cd (.node k t ks xs))<=1000000000)(hd2:d+Cd (.node k t ks xs)<=1000000000)(hxl:xs.length<=9223372036854775807)(hl:s.length+(Mg m ind (.node k t ks xs) d).length<=140737488355328):Hy 90 #[V pb,.agg #[J k,I t,.slice A ks.length c,.slice B_ xs.length e],J (d:Int)] (.tuple #[]) w0 B pb 134 [.bool m,J (ind:Int)] (s++Mg m ind (.node k t ks xs) d):=by
 unfold Hy;refine Ia func90 O ntmps90 Eb (Km _ _ _) ?_;have hB:=BW.start hBd;have hF:=FR.start w0 (Wk w0 B pb);refine Ea (Oe hF O ?_);intro b1 w hb1 hF hE;have nb1:b1≠pb:=by have:=hB.lt;omega
 have hX:=hX.off_ext hB.lt hE;have hB:=hB.ext hE;refine Rb (Ba (Ob Xd O) (Zb (Th eZ O hF.F 0 O O) (Da (Qa (Ea (Ba (Qf O O) (Ba (Db O) (Ta ?_))))))));refine Fa (Ib O O (λhc0=>?_) (λhc0=>?_));refine Ha (Ba (Xg O) (Ba (Ij O) (Ba (Ob Hj O) ?_)));have hkk_:k=1:=by omega
 refine Lb (Bl hB.bd [110,117,108,108] (by rw[Mg,if_pos hkk_]at hl;exact hl)) (Xa Y6 O O O) ?_;rintro _ w ⟨rfl,hBd2,hE⟩;have hF:=hF.wrote hB hE (by simp[Rk,nb1]);have hX:=hX.off hE;have hB:=hB.wrote hBd2 hE;clear hBd2 hE;refine Ta (Bb ?_);refine Dh (Ze (Bk O) ?_);refine⟨O,?_,hF.same⟩;rw[Mg]
 first|(rw[if_pos hkk_];exact hB.bd)|(rw[if_neg Aa,if_pos hkk_];exact hB.bd)|(rw[if_neg Aa,if_neg Aa,if_pos hkk_];exact hB.bd)|(rw[if_neg Aa,if_neg Aa,if_neg Aa,if_pos hkk_];exact hB.bd)|(rw[if_neg Aa,if_neg Aa,if_neg Aa,if_neg Aa];exact hB.bd)
 refine Ea (Ba (Qf O O) (Ba (Db O) (Da ?_)));refine Ib O O (λhc1=>?_) (λhc1=>?_);refine Ha (Ba (Xg O) (Ba (Ob Wd O) (Zb (Pk jZ O hF.F 0 O O) ?_)));have hkk_:k=4:=by omega
 refine Lb (Q9 _ B pb m ind s hB.bd (hG.wrote hF.same h8 hBd.le) h8 t (by rw[KO]at hok;exact hok.1) (by rw[Mg,if_neg Aa,if_pos hkk_]at hl;exact hl)) (Xa WX O O O) ?_;rintro _ w ⟨rfl,hBd2,hE⟩;have hF:=hF.wrote hB hE (by simp[Rk,nb1]);have hX:=hX.off hE;have hB:=hB.wrote hBd2 hE;clear hBd2 hE;refine Ta (Bb ?_);refine Dh (Ze (Bk O) ?_);refine⟨O,?_,hF.same⟩;rw[Mg]
 first|(rw[if_pos hkk_];exact hB.bd)|(rw[if_neg Aa,if_pos hkk_];exact hB.bd)|(rw[if_neg Aa,if_neg Aa,if_pos hkk_];exact hB.bd)|(rw[if_neg Aa,if_neg Aa,if_neg Aa,if_pos hkk_];exact hB.bd)|(rw[if_neg Aa,if_neg Aa,if_neg Aa,if_neg Aa];exact hB.bd)
 refine Ea (Ba (Qf O O) (Ba (Db O) (Da ?_)));refine Ib O O (λhc2=>?_) (λhc2=>?_);refine Ha (Ba (Xg O) (Zb (Of aZ nZ O hF.F 0 O O) (Ba (Za O) (Ba (Xg O) (Ka (v:=.func (.func 138) #[V pb] #[]) (Vs O) ?_)))));have hkk_:k=5:=by omega
 refine Lb (CO 138 en_138 k t ks xs m ind d 91 93 (Il m ind xs (d+1)) (by rw[Ny,rQ]) (λj hj w1 B1 p1 s1 A1 B1_ c1 e1 hb1_ hg1 h81 hx1 hl1=>by have hj2:j<xs.length:=(by rw[Ny,rQ]at hj;exact hj);have hg:(Il m ind xs (d+1))[j]=Mg m ind xs[j] (d+1):=(by simp only[Ny,List.getElem_map]);rw[hg]at hl1 ⊢;exact item_c k t ks xs m ind (d+1) j hj2 w1 B1 p1 s1 A1 B1_ c1 e1 hb1_ hg1 h81 hx1 ih hok hn (by rw[Cd]at hd;exact fQ (Nat.mul_le_mul_left ind Aa) hd) (by rw[Cd]at hd2;omega) hl1) _ B pb s A B_ c e hB.bd (hG.wrote hF.same h8 hBd.le) h8 hX (by have h1:=hd;rw[Cd]at h1;exact fQ (Nat.mul_le_mul_left ind Aa) h1) (by rw[Cd]at hd2;omega) hxl (by rw[Mg]at hl;simpa[hkk_]using hl)) (G4 en_137 O O O O O O) ?_;rintro _ w ⟨rfl,hBd2,hE⟩;have hF:=hF.wrote hB hE (by simp[Rk,nb1]);have hX:=hX.off hE;have hB:=hB.wrote hBd2 hE;clear hBd2 hE;refine Ta (Bb ?_);refine Dh (Ze (Bk O) ?_);refine⟨O,?_,hF.same⟩;rw[Mg]
 first|(rw[if_pos hkk_];exact hB.bd)|(rw[if_neg Aa,if_pos hkk_];exact hB.bd)|(rw[if_neg Aa,if_neg Aa,if_pos hkk_];exact hB.bd)|(rw[if_neg Aa,if_neg Aa,if_neg Aa,if_pos hkk_];exact hB.bd)|(rw[if_neg Aa,if_neg Aa,if_neg Aa,if_neg Aa];exact hB.bd)
 refine Ea (Ba (Qf O O) (Ba (Db O) (Da ?_)));refine Ib O O (λhc3=>?_) (λhc3=>?_);refine Ha (Ba (Xg O) (Zb (Of aZ nZ O hF.F 0 O O) (Ba (Za O) (Ba (Xg O) (Ka (v:=.func (.func 139) #[V pb] #[]) (Vs O) ?_)))));have hkk_:k=6:=by omega
 have hkl:ks.length=xs.length:=(Gr (hkk_▸(Ee hn).1)).2;refine Lb (CO 139 en_139 k t ks xs m ind d 123 125 (Jj m ind xs ks (d+1)) (by rw[Ks]) (λj hj w1 B1 p1 s1 A1 B1_ c1 e1 hb1_ hg1 h81 hx1 hl1=>by have hj2:j<xs.length:=(by rw[Ks]at hj;exact hj);have hg:=W_ m ind (d+1) xs ks j hj2 Aa hj;rw[hg]at hl1 ⊢;exact FX k t ks xs m ind (d+1) j hj2 Aa w1 B1 p1 s1 A1 B1_ c1 e1 hb1_ hg1 h81 hx1 ih hok hn (by rw[Cd]at hd;exact fQ (Nat.mul_le_mul_left ind Aa) hd) (by rw[Cd]at hd2;omega) hl1) _ B pb s A B_ c e hB.bd (hG.wrote hF.same h8 hBd.le) h8 hX (by have h1:=hd;rw[Cd]at h1;exact fQ (Nat.mul_le_mul_left ind Aa) h1) (by rw[Cd]at hd2;omega) hxl (by rw[Mg]at hl;simpa[hkk_]using hl)) (G4 en_137 O O O O O O) ?_;rintro _ w ⟨rfl,hBd2,hE⟩;have hF:=hF.wrote hB hE (by simp[Rk,nb1]);have hX:=hX.off hE;have hB:=hB.wrote hBd2 hE;clear hBd2 hE;refine Ta (Bb ?_);refine Dh (Ze (Bk O) ?_);refine⟨O,?_,hF.same⟩;rw[Mg]
 first|(rw[if_pos hkk_];exact hB.bd)|(rw[if_neg Aa,if_pos hkk_];exact hB.bd)|(rw[if_neg Aa,if_neg Aa,if_pos hkk_];exact hB.bd)|(rw[if_neg Aa,if_neg Aa,if_neg Aa,if_pos hkk_];exact hB.bd)|(rw[if_neg Aa,if_neg Aa,if_neg Aa,if_neg Aa];exact hB.bd)
 refine Ke (.of []) (bQ [0,1,2,3,4] (.act 5 .nil)) hF ?_;intro w hF hE;have hX:=hX.off_ext hB.lt hE;have hB:=hB.ext hE;refine⟨λwq=>FR w0 (Wk w0 B pb) _ wq,hF,?_⟩;refine Jb O (Xg O) (Jb O (Ij O) (Jb O (Ob Hj O) (Jb O (Ob Wd O) (Fg O (Pk jZ O C0 0 O O) ?_))));refine Pd O (Bl hB.bd t (by rw[Mg,if_neg Aa,if_neg Aa,if_neg Aa,if_neg Aa]at hl;exact hl)) (Xa Y6 O O O) ?_;rintro _ w ⟨rfl,hBd2,hE⟩;have hF:=hF.wrote hB hE (by simp[Rk,nb1]);have hX:=hX.off hE;have hB:=hB.wrote hBd2 hE;clear hBd2 hE;refine⟨hF,?_⟩;refine Hc (Bb ?_);refine Dh (Ze (Bk O) ?_);refine⟨O,?_,hF.same⟩;rw[Mg]
 first|(rw[if_pos hkk_];exact hB.bd)|(rw[if_neg Aa,if_pos hkk_];exact hB.bd)|(rw[if_neg Aa,if_neg Aa,if_pos hkk_];exact hB.bd)|(rw[if_neg Aa,if_neg Aa,if_neg Aa,if_pos hkk_];exact hB.bd)|(rw[if_neg Aa,if_neg Aa,if_neg Aa,if_neg Aa];exact hB.bd)
theorem value_c(x:Tree):PU x:=Tree.ind (Q:=PU) (λk t ks xs ih m ind d w0 B pb s cs hBd hG h8 hX hok hn hd hd2 hl=>by
  obtain⟨A,c,B_,e,rfl,-,-,-,hXs⟩:=hX.tree_inv;have h1:=hXs.slice_len;exact VL k t ks xs ih m ind d w0 B pb s A B_ c e hBd hG h8 hX hok hn hd hd2 Aa hl) x
theorem C5{t:Str}(h:Xf t=true):t≠[]:=by
  rintro rfl
  revert h
  decide
theorem valS_ne(m:Bool)(ind:Nat)(x:Tree)(d:Nat)(h:Yd x=true):Mg m ind x d≠[]:=by
  obtain⟨k,t,ks,xs⟩:=x;unfold Yd at h;rw[Bool.and_eq_true]at h;have h1:=(Ee h.2).1;unfold rnodeB at h1;rw[Bool.and_eq_true,decide_eq_true_eq]at h1;obtain⟨h7,h1⟩:=h1;have h7':k≠7:=h7;rw[Mg];split
  ·simp
  split
  ·rename_i h4
   subst h4;simp[nodeB]at h1;rw[qS,if_pos h1.2];simp[Dy]
  split
  ·simp[Ym]
  split
  ·simp[Ym]
  rename_i g1 g4 g5 g6
  simp only[nodeB,if_neg g5,if_neg g6,if_neg g1,if_neg g4,if_neg h7']at h1;split at h1
  ·cases h1
  split at h1
  ·rw[Bool.or_eq_true, decide_eq_true_eq, decide_eq_true_eq]at h1
   rcases h1 with rfl|rfl <;> simp
  split at h1
  ·exact C5 h1
  cases h1
theorem RR{x:Tree}(h:Yd x=true):Xc nodeB x=true:=by
  unfold Yd at h;rw[Bool.and_eq_true]at h;refine Tree.ind (Q:=λx=>Xc rnodeB x=true->Xc nodeB x=true) (λk t ks xs ih h=>?_) x h.2;rw[Xc,Bool.and_eq_true]at h ⊢;have h1:=h.1;unfold rnodeB at h1;rw[Bool.and_eq_true]at h1;refine⟨h1.2,?_⟩;have key:∀ys:List Tree,(∀y∈ys,y∈xs)->Yq rnodeB ys=true->Yq nodeB ys=true:=by
    intro ys
    induction ys with
    | nil=>intro _ _;rfl
    | cons y ys ihy =>
      intro hm hs;rw[Yq,Bool.and_eq_true]at hs ⊢;exact⟨ih y (hm y Ma) hs.1,ihy (λz hz=>hm z (by simp[hz])) hs.2⟩
  exact key xs (λ_ h=>h) h.2
theorem J3{x:Tree}(h:Yd x=true):Cd x<=32:=by
  unfold Yd Im at h;simp only[Bool.and_eq_true,decide_eq_true_eq]at h;exact h.1.2
theorem BR(x:Tree)(S:Nat->Prop)(w0:World)(cs:List Value)(rx:Rep S w0 (Pb x) cs)(hG:Gl w0)(hk:Vp x)(hq:KO x)(hsz:Qb x<=1000000000)(hlim:Yd x=true->(Mg false 0 x 0).length<=140737488355328):Calls prog 54 #[.agg cs.toArray] w0 (Dd λv w'=>v=(if Yd x=true then .tuple #[I (Mg false 0 x 0),J 0] else .tuple #[I [],J 1])/\Same [] w0 w'):=by
 have hl:cs.length=4:=rx.length.trans (Yc x);have ho:=rx.one_;refine Ia func54 O ntmps54 Eb (Yb _) ?_;have hF:=FR.start w0 [];refine Ea (Jm (v:=.agg (List.toArray cs)) (cs:=(List.toArray cs)) hF O O ?_);rintro b1 w hb1 hF -;refine Ba (Fd O) (Ba (Gb O) (Da (Ga (Ea (Ka (v:=.agg (List.toArray cs)) (Wa (l:=cs) aZ nZ O hl (hF.cellsAll 0 O)) ?_)))));refine Oa hF (O4 x Aa _ _ _ (hF.rep rx) hk (hG.ext hF.same)) (Na XM O O) ?_;intro w hF;refine Ba (Si O) (Da ?_);refine Le O O (λhc0=>?_) (λhc0=>?_);refine Ea (Ba (Fd O) (Ba (Gb O) (Da ?_)));refine Va (Ua (Ja (Ic (v:=I []) (x:=J 1) O O O) ?_));exact⟨by rw[if_neg (by simpa using hc0)],hF.same⟩;refine La (Fa (Ea ?_));refine Wc (cs:=#[.pointer none,aQ,.bool false,J 0]) hF zeroValue134 O ?_;rintro b2 w hb2 hF -;refine Rb (Ka (v:=.agg (List.toArray cs)) (Wa (l:=cs) aZ nZ O hl (hF.cellsAll 1 O)) ?_);have hB:BW w0 [] w b2 b2 134 [.bool false,J ((0:Nat):Int)] []:=BW.own ⟨.inr ⟨rfl,_,_,rfl⟩,gQ _,_,_,hF.heap (i:=0) rfl,World.ownsRow_nil _ _ _ _,.inl rfl⟩ (hF.ge (i:=0) rfl) hF.same.size;have nb1:b1≠b2:=DN hF.desc (i:=1) (j:=0) rfl rfl Ab;have hge:=hF.ge (i:=0) rfl;have hF:FR w0 [] [(b1,.cells cs.toArray 25)] w:=hF.drop 1;have hXo:Rep (λb=>b∉Wk w b2 b2) w (Pb x) cs:=(rx.old.same hF.same Ma).weaken λb hb _ hm=>by have h1:=hb.2;rcases Yg.1 hm with rfl|⟨-,h2,-⟩ <;> omega
 refine Lb (value_c x false 0 0 _ b2 b2 [] cs hB.bd (hG.ext hF.same) (by have:=hG.size;omega) hXo hq (RR (by simpa using hc0)) Aa (by have:=J3 (x:=x) (by simpa using hc0);omega) (by simpa using hlim (by simpa using hc0))) (Rf UP O O O O) ?_;rintro _ w ⟨rfl,hBd2,hE⟩;have hF:=hF.wrote hB hE (by simp[Rk,nb1]);have hB:=hB.wrote hBd2 hE;clear hBd2 hE;refine Rb (Ba (Ob Hj O) ?_);refine Lb (Y4 hB.bd (by simpa using valS_ne false 0 x 0 (by simpa using hc0))) (Na MO O O) ?_;rintro _ w ⟨rfl,hE⟩;have hF:=hF.wrote hB hE (by simp[Rk,nb1]);refine Ba (Fd O) (Ba (Gb O) (Da ?_));refine Va (Ua (Ja (Ic (v:=I ([]++Mg false 0 x 0)) (x:=J 0) O O O) ?_));exact⟨by rw[if_pos (by simpa using hc0)];rfl,hF.same⟩
end Go.Scarf
