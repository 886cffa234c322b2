/- A part of the proof. -/
import Derived.Lib.AppendStr
import Derived.Lib.Builder
import Derived.Lib.UnsafeStr
import Derived.Lib.RuneBytes
import Derived.Test.YtidlkjpohhbbcaaGreatDoorW19
import Derived.Laws.BytesString
import Derived.Lib.TrimU
set_option linter.all false
set_option maxHeartbeats 8000000
set_option maxRecDepth 10000
namespace Go.Scarf
open Go.RowKit Go.Proofs Go.Proofs.Tryz
section
variable {P:Program}{w w' w0:World}{Ds E:List Nat}{bs_:List (Nat × Obj)}
def Fk:Obj->Bool
  | .cells _ e _=>e==5
  | _=>false
def Yt(w:World)(b:Nat):Bool:=match w.heap[b]? with|some o=>Fk o|none=>false
def Wk(w:World)(B pb:Nat):List Nat:=pb::(List.range w.heap.size).filter λb=>decide (B<=b)&&Yt w b
theorem Jg{B pb x:Nat}:x∈Wk w B pb↔x=pb\/(x<w.heap.size/\B<=x/\Yt w x=true):=by simp[Wk]
theorem Xt{b:Nat}{o:Obj}(h:w.heap[b]? = some o):Yt w b=Fk o:=by simp[Yt,h]
def Shp(T:Nat)(rest:List Value):Prop:=(T=123/\rest=[])\/(T=125/\∃m i,rest=[.bool m,J i])
theorem Shp.ne{T:Nat}{rest:List Value}(h:Shp T rest):(T==5)=false:=by rcases h with ⟨rfl,-⟩|⟨rfl,-⟩ <;> rfl
structure Bd (w:World) (B pb T:Nat) (rest:List Value) (s:Str):Prop where
  shp:Shp T rest
  le:B<=pb
  ex:∃ap v,w.heap[pb]? = some (.cells (ap::v::rest).toArray T)/\w.ownsRow B 5 1 v s.length (Lib.byteCells s)/\(ap=.pointer none\/ap=V pb)
theorem Bd.lt{B pb T:Nat}{rest:List Value}{s:Str}(h:Bd w B pb T rest s):pb<w.heap.size:=by
  obtain⟨ap,v,hh,-⟩:=h.ex;exact Mb hh
theorem Bd.base{B pb T:Nat}{rest:List Value}{s:Str}(h:Bd w B pb T rest s):B<=w.heap.size:=fQ h.le (Nat.le_of_lt h.lt)
theorem Ao{B n g:Nat}{v:Value}{xs:List Value}(h:w.ownsRow B 5 1 v n xs)(hg:v.ownBlock=some g):g<w.heap.size/\B<=g/\Yt w g=true:=by
  rcases h.2 with ⟨rfl,-⟩|⟨g',cap,cur,rfl,h1,h2,-⟩
  ·cases hg
  cases hg;exact⟨Mb h2,h1,by rw[Xt h2];rfl⟩
theorem VC{B n g pb:Nat}{v:Value}{xs:List Value}(h:w.ownsRow B 5 1 v n xs)(hg:v.ownBlock=some g):g∈Wk w B pb:=Jg.2 (.inr (Ao h hg))
theorem Hs{B n g pb:Nat}{v:Value}{xs:List Value}{o:Obj}(h:w.ownsRow B 5 1 v n xs)(hg:v.ownBlock=some g)(hh:w.heap[pb]? = some o)(ho:Fk o=false):g≠pb:=by
  rintro rfl;have h1:=(Ao h hg).2.2;rw[Xt hh,ho]at h1;cases h1
theorem Xi{B n:Nat}{v:Value}{xs:List Value}(h:w.ownsRow B 5 1 v n xs)(hs:Same E w w')(he:∀g,v.ownBlock=some g->g∉E):w'.ownsRow B 5 1 v n xs:=by
  refine⟨h.1,?_⟩;rcases h.2 with h2|⟨g,cap,cur,rfl,h1,h2,h3⟩
  ·exact .inl h2
  exact .inr ⟨g,cap,cur,O,h1,(hs.block g (Mb h2) (he g O)).trans h2,h3⟩
theorem Mh{B n:Nat}{v:Value}{xs:List Value}(h:w.ownsRow B 5 1 v n xs):∃A c,v=.slice A n c:=by
  rcases h.2 with ⟨rfl,rfl⟩|⟨g,cap,cur,rfl,-⟩
  ·exact⟨_,_,O⟩
  exact⟨_,_,O⟩
theorem Wk.step{B pb x:Nat}(hs:Same (Wk w B pb) w w')(hx:x∈Wk w' B pb):x∈Wk w B pb\/w.heap.size<=x:=by
  by_cases h:x<w.heap.size
  ·by_cases hm : x ∈ Wk w B pb
   ·exact .inl hm
   rcases Jg.1 hx with rfl|⟨h1, h2, h3⟩
   ·exact .inl (Jg.2 (.inl O))
   refine absurd (Jg.2 (.inr ⟨h, h2, ?_⟩)) hm;rw[Yt,<-hs.block x h hm];exact h3
  exact .inr Aa
theorem FR.grown{g:Option Nat}(h:FR w0 Ds bs_ w)(hg:w.grownBy w' g)(hr:∀b,g=some b->(b<w0.heap.size->b∈Ds)/\∀p∈bs_,p.1≠b):FR w0 Ds bs_ w':=by
  have hs:Same g.toList w w':=⟨hg.os,hg.tape,hg.output,hg.size,λb hb hn=>hg.block b hb (λe=>hn (by simp[<-e]))⟩;exact h.touch hs (λb hb=>hr b (by simpa using hb))
theorem Mo(s t:Str):Lib.byteCells (s++t)=Lib.byteCells s++Lib.byteCells t:=Lib.byteCells_append s t
end
section
variable {P:Program}{w:World}{ρ:Operand->Value}{dst:Option Nat}{ty:TypeId}{pos:String}{aft:Array Edge}{g:Option (Nat × Bool)}
theorem OP{t t' te:Nat}{x y:Operand}(ht:P.underlying t=some (.pointer te))(hx:ρ x=.pointer none)(hy:ρ y=.pointer none) :
    (execOp ρ ⟨dst,.binOp .eql t x y t',ty,pos,aft,g⟩).run P w=.ok (.value (.bool true)) w:=by
  have h:∀d:Nat,(Op.equalIn (d+1) t (.pointer none) (.pointer none)).run P w=.ok true w:=λd=>by
    simp[Op.equalIn,run_underlying ht]
  have hg:(eqGuard .eql t x y (.pointer none) (.pointer none)).run P w=.ok () w:=by unfold eqGuard;split <;> simp
  simp only[execOp,hx,hy,Sem.run_bind,hg,Result.andThen_ok,binOp];simp[Op.equal,Op.maxDepth,h 9999]
theorem HO{t t' te:Nat}{x y:Operand}{a:Addr}(ht:P.underlying t=some (.pointer te))(hx:ρ x=.pointer (some a))(hy:ρ y=.pointer none) :
    (execOp ρ ⟨dst,.binOp .eql t x y t',ty,pos,aft,g⟩).run P w=.ok (.value (.bool false)) w:=by
  have h:∀d:Nat,(Op.equalIn (d+1) t (.pointer (some a)) (.pointer none)).run P w=.ok false w:=λd=>by
    simp[Op.equalIn,run_underlying ht]
  have hg:(eqGuard .eql t x y (.pointer (some a)) (.pointer none)).run P w=.ok () w:=by unfold eqGuard;split <;> simp
  simp only[execOp,hx,hy,Sem.run_bind,hg,Result.andThen_ok,binOp];simp[Op.equal,Op.maxDepth,h 9999]
theorem ZY{t t' te:Nat}{x y:Operand}{a:Addr}{j:TypeInfo}(ht:P.underlying t=some (.pointer te))(hte:P.info? te=some j)(hx:ρ x=.pointer (some a))(hy:ρ y=.pointer (some a)) :
    (execOp ρ ⟨dst,.binOp .neq t x y t',ty,pos,aft,g⟩).run P w=.ok (.value (.bool false)) w:=by
  have h:=Lib.run_neq_ptr_same w a ht hte;have hg:(eqGuard .neq t x y (.pointer (some a)) (.pointer (some a))).run P w=.ok () w:=by unfold eqGuard;split <;> simp
  simp only[execOp,hx,hy,Sem.run_bind,hg,Result.andThen_ok,h,Sem.run_pure]
theorem G3{t t':Nat}{x:Operand}{v:Value}(hx:ρ x=v)(h:(convert t t' v).run P w=.ok v w):(execOp ρ ⟨dst,.convert t t' x,ty,pos,aft,g⟩).run P w=.ok (.value v) w:=by
  simp[execOp,hx,h]
theorem SY {f:FuncId} {fn:Func} {e:Array Value->Sem Value} {x1:Operand} {ats:Array TypeId} {v1 v:Value} (hf:P.funcs[f]? = some fn) (hname:(fn.name == "runtime.NumGoroutine")=false)
    (hb:fn.body.isNone=true) (hn:Extern.findNext fn=none) (he:Extern.find fn=some e) (h0:ρ (.func f)=.func (.func f) #[] #[]) (h1:ρ x1=v1) (hr:(e #[v1]).run P w=.ok v w) :
    (execOp ρ ⟨dst,.call ⟨.value (.func f),#[x1],ats⟩,ty,pos,aft,g⟩).run P w=.ok (.value v) w:=by
  simp[execOp,resolve,Deferred.ofValue,h0,h1,invoke,run_callFunc_extern hf hname hb hn he,hr]
theorem x_usd{x:Operand}{ats:Array TypeId}{a:Addr}{n c:Nat}(hx:ρ x=.slice (some a) n c)(hc:c≠0):(execOp ρ ⟨dst,.call ⟨.builtin .unsafeSliceData,#[x],ats⟩,ty,pos,aft,g⟩).run P w=.ok (.value (.pointer (some a))) w:=by
  simp[execOp,resolve,invoke,builtin,hx,Lib.run_unsafeSliceData_row w ats ty a n c hc]
theorem LW{x y:Operand}{t1 t2:Nat}{u v r:Value}{w':World}(hx:ρ x=u)(hy:ρ y=v)(h:(Builtin.unsafeString_ #[t1,t2] ty #[u,v]).run P w=.ok r w'):(execOp ρ ⟨dst,.call ⟨.builtin .unsafeString,#[x,y],#[t1,t2]⟩,ty,pos,aft,g⟩).run P w=.ok (.value r) w':=by
  simp[execOp,resolve,invoke,builtin,hx,hy,h]
theorem AU{x y:Operand}{t1 t2:TypeId}{u v:Value}{r:Value}{w':World}(hx:ρ x=u)(hy:ρ y=v)(h:(Builtin.append_ #[t1,t2] ty #[u,v]).run P w=.ok r w') :
    (execOp ρ ⟨dst,.call ⟨.builtin .append,#[x,y],#[t1,t2]⟩,ty,pos,aft,g⟩).run P w=.ok (.value r) w':=by
  simp[execOp,resolve,invoke,builtin,hx,hy,h]
end
section
variable {P:Program}{R:Exit->Act->World->Prop}{n:Nat}{kt:Kt}{s:Nat->Value}{w:World}{ops rest:List Oper}
variable {d:Nat}{ty:TypeId}{pos:String}{aft:Array Edge}{g:Option (Nat × Bool)}
variable {w0:World}{Ds:List Nat}{bs_:List (Nat × Obj)}
theorem HY{x y:Operand}{t B len c2 k:Nat}{v:Value}{xs news:List Value}{a:Addr}(hE:Elems P t 5 1 1)
    (hF:FR w0 Ds bs_ w) (hO:w.ownsRow B 5 1 v len xs) (hB:B<=w.heap.size) (hx:ev n s x=v) (hy:ev n s y=.slice (some a) k c2)
    (hl:news.length=k*1) (hnews:∀j u,news[j]? = some u->w.cell? (a.add j)=some u) (h1:∀u∈news,u.oneCell'=true) (hb:len+k<=140737488355328)
    (hr:∀b,v.ownBlock=some b->(b<w0.heap.size->b∈Ds)/\∀p∈bs_,p.1≠b)
    (h:∀v' w',w'.ownsRow B 5 1 v' (len+k) (xs++news)->FR w0 Ds bs_ w'->w.heap.size<=w'.heap.size->Og P R n ops kt rest (Pe s d v') w')
    (hw:Ya ops n s ⟨some d,.call ⟨.builtin .append,#[x,y],#[t,t]⟩,ty,pos,aft,g⟩=true:=by rfl):Og P R n ops kt (⟨some d,.call ⟨.builtin .append,#[x,y],#[t,t]⟩,ty,pos,aft,g⟩::rest) s w:=by
  obtain⟨i,z,hi,hz,h2,h3,h4⟩:=hE.info;obtain⟨v',w',hr',hO',hg,-⟩:=run_append_own (P:=P) w B t ty 5 i z 1 1 hE.ht hi hz h2 h3 h4 Oa v len xs hO a k c2 news hl hnews h1 (by unfold maxLen;omega) Aa hB;exact Ia (Ju hx hy hr') (h v' w' hO' (hF.grown hg hr) hg.size) hw
theorem GV{x y:Operand}{t u B len:Nat}{v:Value}{xs:List Value}{str:Str}(hE:Elems P t 5 1 1)(hz0:(P.info? 5).map (·.zero)=some (some (.int .u8 0)))(hu:P.underlying u=some .string)
    (hF:FR w0 Ds bs_ w) (hO:w.ownsRow B 5 1 v len xs) (hB:B<=w.heap.size) (hx:ev n s x=v) (hy:ev n s y=I str) (hb:len+str.length<=140737488355328)
    (hr:∀b,v.ownBlock=some b->(b<w0.heap.size->b∈Ds)/\∀p∈bs_,p.1≠b)
    (h:∀v' w',w'.ownsRow B 5 1 v' (len+str.length) (xs++Lib.byteCells str)->FR w0 Ds bs_ w'->w.heap.size<=w'.heap.size->Og P R n ops kt rest (Pe s d v') w')
    (hw:Ya ops n s ⟨some d,.call ⟨.builtin .append,#[x,y],#[t,u]⟩,ty,pos,aft,g⟩=true:=by rfl):Og P R n ops kt (⟨some d,.call ⟨.builtin .append,#[x,y],#[t,u]⟩,ty,pos,aft,g⟩::rest) s w:=by
  obtain⟨i,z,hi,hz,h2,h3,h4⟩:=hE.info;rw[hi]at hz0;have hz1:i.zero=some (.int .u8 0):=by simpa using hz0
  have e:(bs str).size=str.length:=Zn str;obtain⟨v',w',hr',hO',hg,-⟩:=Lib.run_append_own_string (P:=P) w B t u ty 5 i hE.ht hu hi hz1 h2 h3 v len xs hO (bs str) (by rw[e];unfold maxLen;omega) (by rw[e];omega) hB;rw[e]at hO';exact Ia (AU hx hy hr') (h v' w' (by simpa[Lib.strCells_eq,Hm,bs]using hO') (hF.grown hg hr) hg.size) hw
end
theorem QY:liesAt prog prog.depth 123 (2/prog.cellsOf 123) 0 123 1=true:=by kernel_rfl
theorem TX:liesAt prog prog.depth 125 (4/prog.cellsOf 125) 0 123 1=true:=by kernel_rfl
theorem Ly:(prog.info? 123).map (·.size)=some 2:=by kernel_rfl
theorem HD(w0:World)(pb:Nat)(v:Value)(hh:w0.heap[pb]? = some (.cells #[.pointer none,v] 123)):Calls prog 224 #[V pb] w0 (Oc λv_ w'=>v_=.tuple #[]/\Same [pb] w0 w'/\w'.heap[pb]? = some (.cells #[V pb,v] 123)):=by
 obtain⟨j,hj,hjs⟩:=Option.map_eq_some_iff.1 Ly;have hne:pb<w0.heap.size:=Mb hh;refine Ea func224 O ntmps224 Bb (Tb _) ?_;have hF:FR w0 [pb] [(pb,.cells #[.pointer none,v] 123)] w0:=FR.open_ (by simpa using hh) La;refine Da (Ba (Kf O) (Ba (Hh O) (Ba (Rb Kn O) (Yb (Cu isAgg120 O hF.F 0 O O) (Ia (v:=.bool true) (OP vZ O O) (Ca (Od O (Ja (Ba (Kf O) (Ba (Kf O) ?_))))))))));refine Ia (v:=V pb) (G3 O (Lib.run_to_unsafe _ ⟨pb,0,none⟩ vZ underlying262 hj (by rw[hjs];decide) (e:=123) (cells:=2) (by simp[World.shape?,hF.heap (i:=0) O]) (Nat.zero_lt_succ _))) ?_;refine Ia (v:=V pb) (SY func256 Ib Ib Ib (e:=Extern.AbiNoEscape.same) Ib O O (Lib.run_noEscape _ _)) (Ia (v:=V pb) (G3 O (Lib.run_from_unsafe _ ⟨pb,0,none⟩ underlying262 vZ hj (e:=123) (cells:=2) (by simp[World.shape?,hF.heap (i:=0) O]) QY)) ?_);refine Ba (Hh O) (Ba (Rb Kn O) ?_);refine Zl (.pointer _) hF sizeOf120 O O Oi Oi ?_;rintro w hF -;refine Eb (Kg (Le (Ui O) ?_));exact⟨O,hF.same,hF.heap (i:=0) O⟩
theorem ZB(w0:World)(pb:Nat)(v:Value)(m:Bool)(i:Int)(hh:w0.heap[pb]? = some (.cells #[.pointer none,v,.bool (m),J i] 125)):Calls prog 224 #[V pb] w0 (Oc λv_ w'=>v_=.tuple #[]/\Same [pb] w0 w'/\w'.heap[pb]? = some (.cells #[V pb,v,.bool (m),J i] 125)):=by
 obtain⟨j,hj,hjs⟩:=Option.map_eq_some_iff.1 Ly;have hne:pb<w0.heap.size:=Mb hh;refine Ea func224 O ntmps224 Bb (Tb _) ?_;have hF:FR w0 [pb] [(pb,.cells #[.pointer none,v,.bool (m),J i] 125)] w0:=FR.open_ (by simpa using hh) La;refine Da (Ba (Kf O) (Ba (Hh O) (Ba (Rb Kn O) (Yb (Cu isAgg120 O hF.F 0 O O) (Ia (v:=.bool true) (OP vZ O O) (Ca (Od O (Ja (Ba (Kf O) (Ba (Kf O) ?_))))))))));refine Ia (v:=V pb) (G3 O (Lib.run_to_unsafe _ ⟨pb,0,none⟩ vZ underlying262 hj (by rw[hjs];decide) (e:=125) (cells:=4) (by simp[World.shape?,hF.heap (i:=0) O]) (Nat.zero_lt_succ _))) ?_;refine Ia (v:=V pb) (SY func256 Ib Ib Ib (e:=Extern.AbiNoEscape.same) Ib O O (Lib.run_noEscape _ _)) (Ia (v:=V pb) (G3 O (Lib.run_from_unsafe _ ⟨pb,0,none⟩ underlying262 vZ hj (e:=125) (cells:=4) (by simp[World.shape?,hF.heap (i:=0) O]) TX)) ?_);refine Ba (Hh O) (Ba (Rb Kn O) ?_);refine Zl (.pointer _) hF sizeOf120 O O Oi Oi ?_;rintro w hF -;refine Eb (Kg (Le (Ui O) ?_));exact⟨O,hF.same,hF.heap (i:=0) O⟩
theorem YD(w0:World)(pb:Nat)(v:Value)(hh:w0.heap[pb]? = some (.cells #[V pb,v] 123)):Calls prog 224 #[V pb] w0 (Oc λv_ w'=>v_=.tuple #[]/\Same [pb] w0 w'/\w'.heap[pb]? = some (.cells #[V pb,v] 123)):=by
 obtain⟨j,hj,hjs⟩:=Option.map_eq_some_iff.1 Ly;have hne:pb<w0.heap.size:=Mb hh;refine Ea func224 O ntmps224 Bb (Tb _) ?_;have hF:FR w0 [pb] [(pb,.cells #[V pb,v] 123)] w0:=FR.open_ (by simpa using hh) La;refine Da (Ba (Kf O) (Ba (Hh O) (Ba (Rb Kn O) (Yb (Cu isAgg120 O hF.F 0 O O) (Ia (v:=.bool false) (HO vZ O O) (Ca (Te O (Da (Ba (Kf O) (Ba (Hh O) ?_))))))))));refine Ba (Rb Kn O) (Yb (Cu isAgg120 O hF.F 0 O O) (Ba (Kf O) (Ia (v:=.bool false) (ZY vZ hj O O) (Ca (Te O (Na ?_))))));refine Kg (Le (Ui O) ?_);exact⟨O,hF.same,hF.heap (i:=0) O⟩
theorem TD(w0:World)(pb:Nat)(v:Value)(m:Bool)(i:Int)(hh:w0.heap[pb]? = some (.cells #[V pb,v,.bool (m),J i] 125)):Calls prog 224 #[V pb] w0 (Oc λv_ w'=>v_=.tuple #[]/\Same [pb] w0 w'/\w'.heap[pb]? = some (.cells #[V pb,v,.bool (m),J i] 125)):=by
 obtain⟨j,hj,hjs⟩:=Option.map_eq_some_iff.1 Ly;have hne:pb<w0.heap.size:=Mb hh;refine Ea func224 O ntmps224 Bb (Tb _) ?_;have hF:FR w0 [pb] [(pb,.cells #[V pb,v,.bool (m),J i] 125)] w0:=FR.open_ (by simpa using hh) La;refine Da (Ba (Kf O) (Ba (Hh O) (Ba (Rb Kn O) (Yb (Cu isAgg120 O hF.F 0 O O) (Ia (v:=.bool false) (HO vZ O O) (Ca (Te O (Da (Ba (Kf O) (Ba (Hh O) ?_))))))))));refine Ba (Rb Kn O) (Yb (Cu isAgg120 O hF.F 0 O O) (Ba (Kf O) (Ia (v:=.bool false) (ZY vZ hj O O) (Ca (Te O (Na ?_))))));refine Kg (Le (Ui O) ?_);exact⟨O,hF.same,hF.heap (i:=0) O⟩
theorem Il{w0:World}{B pb T:Nat}{rest:List Value}{s:Str}(h:Bd w0 B pb T rest s) :
    ∃v, w0.ownsRow B 5 1 v s.length (Lib.byteCells s) /\ (∀g, v.ownBlock = some g -> g ∈ Wk w0 B pb /\ g ≠ pb) /\
      Calls prog 224 #[V pb] w0 (Oc λu w'=>u=.tuple #[]/\Same [pb] w0 w'/\w'.heap[pb]? = some (.cells (V pb::v::rest).toArray T)/\w'.ownsRow B 5 1 v s.length (Lib.byteCells s)):=by
  obtain⟨hs,hle,ap,v,hh,hO,ha⟩:=h;have hne:∀g,v.ownBlock=some g->g≠pb:=λg hg=>Hs hO hg hh (by exact hs.ne);refine⟨v,hO,λg hg=>⟨VC hO hg,hne g hg⟩,?_⟩;have fin:∀{u:Value}{w':World},(u=.tuple #[]/\Same [pb] w0 w'/\w'.heap[pb]? = some (.cells (V pb::v::rest).toArray T))->(u=.tuple #[]/\Same [pb] w0 w'/\w'.heap[pb]? = some (.cells (V pb::v::rest).toArray T)/\w'.ownsRow B 5 1 v s.length (Lib.byteCells s)) :=
    λ⟨h1,h2,h3⟩=>⟨h1,h2,h3,Xi hO h2 (λg hg=>by simpa using hne g hg)⟩
  rcases hs with ⟨rfl,rfl⟩|⟨rfl,m,i,rfl⟩ <;> rcases ha with rfl|rfl
  ·exact Pj (HD w0 pb v hh) λ_ _=>fin
  ·exact Pj (YD w0 pb v hh) λ_ _=>fin
  ·exact Pj (ZB w0 pb v m i hh) λ_ _=>fin
  exact Pj (TD w0 pb v m i hh) λ_ _=>fin
theorem Q_:(prog.info? 5).map (·.zero)=some (some (.int .u8 0)):=by kernel_rfl
theorem FR.addD{w0 w:World}{Ds:List Nat}{bs_:List (Nat × Obj)}{b:Nat}{o:Obj}(h:FR w0 Ds bs_ w)(hh:w.heap[b]? = some o)(hd:w0.heap.size<=b\/b∈Ds)(hn:∀p∈bs_,p.1≠b):FR w0 Ds ((b,o)::bs_) w :=
  ⟨h.same,λp hp=>by
    rcases oQ.1 hp with rfl|hp
    ·exact⟨hh,hd⟩
    exact h.own p hp,List.pairwise_cons.2 ⟨λq hq=>hn q hq,h.desc⟩⟩
def Vf(r:Int):Str:=(Lib.encodeRuneZ r).map λx=>UInt8.ofNat x.toNat
theorem Pg(r:Int):1<=(Vf r).length/\(Vf r).length<=4:=by rw[Vf,rQ];exact Lib.encodeRuneZ_length r
theorem Ti(r:Int):Lib.byteCells (Vf r)=Lib.runeCells r:=by
  rw[Vf,Lib.byteCells,Lib.runeCells,List.map_map];refine List.map_congr_left λx hx=>?_;have:=Lib.encodeRuneZ_byte r x hx;simp only[Function.comp_apply,Value.int.injEq,true_and,UInt8.toNat_ofNat'];omega
theorem Iz{w:World}{B n:Nat}{v:Value}{xs:List Value}{r:Int}(hO:w.ownsRow B 5 1 v n xs)(h0:-2147483648<=r)(h1:r<=2147483647)(hn:n+4<=140737488355328)(hB:B<=w.heap.size) :
    Calls prog 296 #[v,.int .i32 r] w (Oc λv' w'=>w'.ownsRow B 5 1 v' (n+(Vf r).length) (xs++Lib.byteCells (Vf r))/\∃o,(w.alloc o).grownBy w' v.ownBlock):=by
  refine (utf8_AppendRune_plain B v n xs r h0 h1 w hO hn hB).mono λe w' ⟨v',he,h2,h3⟩=>⟨v',he,?_,h3⟩;have e1:(Vf r).length=(Lib.runeCells r).length:=by rw[<-Ti,Lib.byteCells_length]
  rw[e1,Ti];exact h2
def Wx(f:Nat)(args:Array Value)(u:Value)(w0:World)(B pb T:Nat)(rest:List Value)(s:Str):Prop :=
  Calls prog f args w0 (Oc λv w'=>v=u/\Bd w' B pb T rest s/\Same (Wk w0 B pb) w0 w')
theorem FG(w0:World)(B pb:Nat)(s:Str)(hB:Bd w0 B pb 123 [] s)(c:UInt8)(hl:s.length+1<=140737488355328):Wx 226 #[V pb,.int .u8 ((c.toNat:Nat):Int)] .nilIface w0 B pb 123 [] (s++[c]):=by
 unfold Wx;refine Ea func226 O ntmps226 Bb (Nc _ _) ?_;obtain⟨v,hO0,hv,hC⟩:=Il hB;have hle:=hB.le;have hBw:=hB.base;have hlt:=hB.lt;have hws:=gQ w0.heap.size;have hvl:∀g,v.ownBlock=some g->g<w0.heap.size:=λg hg=>(Ao hO0 hg).1;obtain⟨A1,c1,rfl⟩:=Mh hO0;have hF:=FR.start w0 (Wk w0 B pb);refine Da (Ba (Yr) (Ob (Ba (Kf O) ?_)));refine Ta hC (Ma N1 O O) ?_;rintro _ w ⟨rfl,hE,hh,hO⟩;have hws:=fQ hws hE.size;have hBw:=fQ hBw hE.size;have hF:FR w0 (Wk w0 B pb) [(pb,.cells #[V pb,.slice A1 s.length c1] 123)] w:=(hF.touch hE (λb hb=>by obtain rfl:=pQ.1 hb;exact⟨λ_=>Jg.2 (.inl rfl),by simp⟩)).addD hh (.inr (Jg.2 (.inl rfl))) La;clear hE hh;refine Ob (Ba (Kf O) (Ba (Kf O) (Ba (Hh O) (Ba (Rb We O) (Yb (Ff tQ O hF.F 0 O O) (Ba (Cb O) ?_))))));refine Ck 1 hF (Fb (cs:=#[.int .u8 ((c.toNat:Nat))]) wZ sizeOf5 zeroValue5 Oa Oa Ib) ?_;intro b1 w hb1 hF hE;have nb1:w0.heap.size<=b1:=by rw[hb1];exact hws
 have hws:=fQ hws hE.size;have hBw:=fQ hBw hE.size;have hO:=Xi hO hE La;refine HY (news:=[.int .u8 ((c.toNat:Nat):Int)]) XD hF hO hBw rfl rfl rfl (Tc (hF.cellsAll 0 rfl)) (by simp[Value.oneCell']) Aa (λb hb=>⟨λ_=>(hv b hb).1,by have h1:=(hv b hb).2;have h2:=hvl b hb;intro p hp;simp only[oQ,List.not_mem_nil,or_false]at hp;rcases hp with rfl|rfl <;> grind⟩) ?_;clear hF hO;intro v2 w hO hF hsz;have hws:=fQ hws hsz;have hBw:=fQ hBw hsz;have hne2:∀g,v2.ownBlock=some g->g≠pb:=λg hg=>Hs hO hg (hF.heap (i:=1) rfl) rfl;obtain⟨A2,c2,rfl⟩:=Mh hO;clear hsz;refine Ba (Hh O) (Ba (Rb We O) ?_);refine Zl (.slice _ _ _) hF sizeOf121 O O Tr Tr ?_;intro w hF hE;have hws:=fQ hws hE.size;have hBw:=fQ hBw hE.size;have hO:=Xi hO hE (λg hg=>by simpa using hne2 g hg);refine Ob (Ba (Yr) (Ca ?_));refine Lc (v:=.nilIface) O O ?_;exact⟨O,⟨.inl ⟨O,O⟩,hle,_,_,hF.heap (i:=1) O,by simpa[Mo,Lib.byteCells,Ti]using hO,.inr O⟩,hF.same⟩
theorem V8(w0:World)(B pb:Nat)(s:Str)(hB:Bd w0 B pb 123 [] s)(t:Str)(hl:s.length+t.length<=140737488355328):Wx 163 #[V pb,I t] (.tuple #[J ((t.length:Nat):Int),.nilIface]) w0 B pb 123 [] (s++t):=by
 unfold Wx;refine Ea func163 O ntmps163 Bb (Nc _ _) ?_;obtain⟨v,hO0,hv,hC⟩:=Il hB;have hle:=hB.le;have hBw:=hB.base;have hlt:=hB.lt;have hws:=gQ w0.heap.size;have hvl:∀g,v.ownBlock=some g->g<w0.heap.size:=λg hg=>(Ao hO0 hg).1;obtain⟨A1,c1,rfl⟩:=Mh hO0;have hF:=FR.start w0 (Wk w0 B pb);refine Da (Ba (Gb O) (Ba (Yr) (Ob (Ba (Kf O) ?_))));refine Ta hC (Ma N1 O O) ?_;rintro _ w ⟨rfl,hE,hh,hO⟩;have hws:=fQ hws hE.size;have hBw:=fQ hBw hE.size;have hF:FR w0 (Wk w0 B pb) [(pb,.cells #[V pb,.slice A1 s.length c1] 123)] w:=(hF.touch hE (λb hb=>by obtain rfl:=pQ.1 hb;exact⟨λ_=>Jg.2 (.inl rfl),by simp⟩)).addD hh (.inr (Jg.2 (.inl rfl))) La;clear hE hh;refine Ob (Ba (Kf O) (Ba (Kf O) (Ba (Hh O) (Ba (Rb We O) (Yb (Ff tQ O hF.F 0 O O) (Ba (Pd O) ?_))))));refine GV (str:=t) XD Q_ oX hF hO hBw rfl rfl Aa (λb hb=>⟨λ_=>(hv b hb).1,by have h1:=(hv b hb).2;have h2:=hvl b hb;intro p hp;simp only[oQ,List.not_mem_nil,or_false]at hp;rcases hp with rfl <;> grind⟩) ?_;clear hF hO;intro v2 w hO hF hsz;have hws:=fQ hws hsz;have hBw:=fQ hBw hsz;have hne2:∀g,v2.ownBlock=some g->g≠pb:=λg hg=>Hs hO hg (hF.heap (i:=0) rfl) rfl;obtain⟨A2,c2,rfl⟩:=Mh hO;clear hsz;refine Ba (Hh O) (Ba (Rb We O) ?_);refine Zl (.slice _ _ _) hF sizeOf121 O O Oi Tr ?_;intro w hF hE;have hws:=fQ hws hE.size;have hBw:=fQ hBw hE.size;have hO:=Xi hO hE (λg hg=>by simpa using hne2 g hg);refine Ob (Ba (Pd O) (Ba (Rp oX O) (Ba (Gb O) (Ba (Yr) (Ca ?_)))));refine Xa (Va (Ka (Jc (v:=J ((((t):Str).length:Int))) (x:=.nilIface) O O O) ?_));exact⟨O,⟨.inl ⟨O,O⟩,hle,_,_,hF.heap (i:=0) O,by simpa[Mo,Lib.byteCells,Ti]using hO,.inr O⟩,hF.same⟩
theorem BH(w0:World)(B pb:Nat)(s:Str)(hB:Bd w0 B pb 123 [] s)(r:Int)(hr0:-2147483648<=r)(hr1:r<=2147483647)(hl:s.length+4<=140737488355328):Wx 258 #[V pb,.int .i32 r] (.tuple #[J (((Vf r).length:Nat):Int),.nilIface]) w0 B pb 123 [] (s++Vf r):=by
 unfold Wx;have hrl:=Pg r;refine Ea func258 O ntmps258 Bb (Nc _ _) ?_;obtain⟨v,hO0,hv,hC⟩:=Il hB;have hle:=hB.le;have hBw:=hB.base;have hlt:=hB.lt;have hws:=gQ w0.heap.size;have hvl:∀g,v.ownBlock=some g->g<w0.heap.size:=λg hg=>(Ao hO0 hg).1;obtain⟨A1,c1,rfl⟩:=Mh hO0;have hF:=FR.start w0 (Wk w0 B pb);refine Da (Ba (Gb O) (Ba (Yr) (Ob (Ba (Kf O) ?_))));refine Ta hC (Ma N1 O O) ?_;rintro _ w ⟨rfl,hE,hh,hO⟩;have hws:=fQ hws hE.size;have hBw:=fQ hBw hE.size;have hF:FR w0 (Wk w0 B pb) [(pb,.cells #[V pb,.slice A1 s.length c1] 123)] w:=(hF.touch hE (λb hb=>by obtain rfl:=pQ.1 hb;exact⟨λ_=>Jg.2 (.inl rfl),by simp⟩)).addD hh (.inr (Jg.2 (.inl rfl))) La;clear hE hh;refine Ob (Ba (Kf O) (Ba (Hh O) (Ba (Rb We O) (Yb (Ff tQ O hF.F 0 O O) (Ba (Qg wZ O) (Ba (Gb O) (Ob ?_)))))));refine Ba (Kf O) (Ba (Kf O) (Ba (Hh O) (Ba (Rb We O) (Yb (Ff tQ O hF.F 0 O O) (Ba (Cb O) ?_)))));refine Ta (Iz hO hr0 hr1 Aa hBw) (Ua SW O O O) ?_;rintro v2 w2 ⟨hO2,o,hg⟩;have hF:=(hF.ext (Same.alloc _ o)).grown hg (λb hb=>⟨λ_=>(hv b hb).1,by have h1:=(hv b hb).2;have h2:=hvl b hb;intro p hp;simp only[oQ,List.not_mem_nil,or_false]at hp;rcases hp with rfl <;> grind⟩);have hsz:=fQ (Same.alloc _ o).size hg.size;clear hO hg;revert hsz hF hO2;generalize w2=w;intro hO hF hsz;have hws:=fQ hws hsz;have hBw:=fQ hBw hsz;have hne2:∀g,v2.ownBlock=some g->g≠pb:=λg hg=>Hs hO hg (hF.heap (i:=0) rfl) rfl;obtain⟨A2,c2,rfl⟩:=Mh hO;clear hsz;refine Ba (Hh O) (Ba (Rb We O) ?_);refine Zl (.slice _ _ _) hF sizeOf121 O O Oi Tr ?_;intro w hF hE;have hws:=fQ hws hE.size;have hBw:=fQ hBw hE.size;have hO:=Xi hO hE (λg hg=>by simpa using hne2 g hg);refine Ob (Ba (Kf O) (Ba (Hh O) (Ba (Rb We O) (Yb (Ff tQ O hF.F 0 O O) (Ba (Qg wZ O) (Ba (Cb O) (Ba (TZ (((Vf r).length:Nat)) O O) (Ba (Gb O) (Ba (Yr) (Eb ?_))))))))))
 refine Ga (Xa (Va (Ka (Jc (v:=J (((Vf r).length:Nat))) (x:=.nilIface) O O O) ?_)));exact⟨O,⟨.inl ⟨O,O⟩,hle,_,_,hF.heap (i:=0) O,by simpa[Mo,Lib.byteCells,Ti]using hO,.inr O⟩,hF.same⟩
theorem MF(w0:World)(B pb:Nat)(m:Bool)(i:Int)(s:Str)(hB:Bd w0 B pb 125 [.bool (m),J i] s)(c:UInt8)(hl:s.length+1<=140737488355328):Wx 226 #[V pb,.int .u8 ((c.toNat:Nat):Int)] .nilIface w0 B pb 125 [.bool (m),J i] (s++[c]):=by
 unfold Wx;refine Ea func226 O ntmps226 Bb (Nc _ _) ?_;obtain⟨v,hO0,hv,hC⟩:=Il hB;have hle:=hB.le;have hBw:=hB.base;have hlt:=hB.lt;have hws:=gQ w0.heap.size;have hvl:∀g,v.ownBlock=some g->g<w0.heap.size:=λg hg=>(Ao hO0 hg).1;obtain⟨A1,c1,rfl⟩:=Mh hO0;have hF:=FR.start w0 (Wk w0 B pb);refine Da (Ba (Yr) (Ob (Ba (Kf O) ?_)));refine Ta hC (Ma N1 O O) ?_;rintro _ w ⟨rfl,hE,hh,hO⟩;have hws:=fQ hws hE.size;have hBw:=fQ hBw hE.size;have hF:FR w0 (Wk w0 B pb) [(pb,.cells #[V pb,.slice A1 s.length c1,.bool (m),J i] 125)] w:=(hF.touch hE (λb hb=>by obtain rfl:=pQ.1 hb;exact⟨λ_=>Jg.2 (.inl rfl),by simp⟩)).addD hh (.inr (Jg.2 (.inl rfl))) La;clear hE hh;refine Ob (Ba (Kf O) (Ba (Kf O) (Ba (Hh O) (Ba (Rb We O) (Yb (Ff tQ O hF.F 0 O O) (Ba (Cb O) ?_))))));refine Ck 1 hF (Fb (cs:=#[.int .u8 ((c.toNat:Nat))]) wZ sizeOf5 zeroValue5 Oa Oa Ib) ?_;intro b1 w hb1 hF hE;have nb1:w0.heap.size<=b1:=by rw[hb1];exact hws
 have hws:=fQ hws hE.size;have hBw:=fQ hBw hE.size;have hO:=Xi hO hE La;refine HY (news:=[.int .u8 ((c.toNat:Nat):Int)]) XD hF hO hBw rfl rfl rfl (Tc (hF.cellsAll 0 rfl)) (by simp[Value.oneCell']) Aa (λb hb=>⟨λ_=>(hv b hb).1,by have h1:=(hv b hb).2;have h2:=hvl b hb;intro p hp;simp only[oQ,List.not_mem_nil,or_false]at hp;rcases hp with rfl|rfl <;> grind⟩) ?_;clear hF hO;intro v2 w hO hF hsz;have hws:=fQ hws hsz;have hBw:=fQ hBw hsz;have hne2:∀g,v2.ownBlock=some g->g≠pb:=λg hg=>Hs hO hg (hF.heap (i:=1) rfl) rfl;obtain⟨A2,c2,rfl⟩:=Mh hO;clear hsz;refine Ba (Hh O) (Ba (Rb We O) ?_);refine Zl (.slice _ _ _) hF sizeOf121 O O Tr Tr ?_;intro w hF hE;have hws:=fQ hws hE.size;have hBw:=fQ hBw hE.size;have hO:=Xi hO hE (λg hg=>by simpa using hne2 g hg);refine Ob (Ba (Yr) (Ca ?_));refine Lc (v:=.nilIface) O O ?_;exact⟨O,⟨.inr ⟨O,m,i,O⟩,hle,_,_,hF.heap (i:=1) O,by simpa[Mo,Lib.byteCells,Ti]using hO,.inr O⟩,hF.same⟩
theorem B9(w0:World)(B pb:Nat)(m:Bool)(i:Int)(s:Str)(hB:Bd w0 B pb 125 [.bool (m),J i] s)(t:Str)(hl:s.length+t.length<=140737488355328):Wx 163 #[V pb,I t] (.tuple #[J ((t.length:Nat):Int),.nilIface]) w0 B pb 125 [.bool (m),J i] (s++t):=by
 unfold Wx;refine Ea func163 O ntmps163 Bb (Nc _ _) ?_;obtain⟨v,hO0,hv,hC⟩:=Il hB;have hle:=hB.le;have hBw:=hB.base;have hlt:=hB.lt;have hws:=gQ w0.heap.size;have hvl:∀g,v.ownBlock=some g->g<w0.heap.size:=λg hg=>(Ao hO0 hg).1;obtain⟨A1,c1,rfl⟩:=Mh hO0;have hF:=FR.start w0 (Wk w0 B pb);refine Da (Ba (Gb O) (Ba (Yr) (Ob (Ba (Kf O) ?_))));refine Ta hC (Ma N1 O O) ?_;rintro _ w ⟨rfl,hE,hh,hO⟩;have hws:=fQ hws hE.size;have hBw:=fQ hBw hE.size;have hF:FR w0 (Wk w0 B pb) [(pb,.cells #[V pb,.slice A1 s.length c1,.bool (m),J i] 125)] w:=(hF.touch hE (λb hb=>by obtain rfl:=pQ.1 hb;exact⟨λ_=>Jg.2 (.inl rfl),by simp⟩)).addD hh (.inr (Jg.2 (.inl rfl))) La;clear hE hh;refine Ob (Ba (Kf O) (Ba (Kf O) (Ba (Hh O) (Ba (Rb We O) (Yb (Ff tQ O hF.F 0 O O) (Ba (Pd O) ?_))))));refine GV (str:=t) XD Q_ oX hF hO hBw rfl rfl Aa (λb hb=>⟨λ_=>(hv b hb).1,by have h1:=(hv b hb).2;have h2:=hvl b hb;intro p hp;simp only[oQ,List.not_mem_nil,or_false]at hp;rcases hp with rfl <;> grind⟩) ?_;clear hF hO;intro v2 w hO hF hsz;have hws:=fQ hws hsz;have hBw:=fQ hBw hsz;have hne2:∀g,v2.ownBlock=some g->g≠pb:=λg hg=>Hs hO hg (hF.heap (i:=0) rfl) rfl;obtain⟨A2,c2,rfl⟩:=Mh hO;clear hsz;refine Ba (Hh O) (Ba (Rb We O) ?_);refine Zl (.slice _ _ _) hF sizeOf121 O O Oi Tr ?_;intro w hF hE;have hws:=fQ hws hE.size;have hBw:=fQ hBw hE.size;have hO:=Xi hO hE (λg hg=>by simpa using hne2 g hg);refine Ob (Ba (Pd O) (Ba (Rp oX O) (Ba (Gb O) (Ba (Yr) (Ca ?_)))));refine Xa (Va (Ka (Jc (v:=J ((((t):Str).length:Int))) (x:=.nilIface) O O O) ?_));exact⟨O,⟨.inr ⟨O,m,i,O⟩,hle,_,_,hF.heap (i:=0) O,by simpa[Mo,Lib.byteCells,Ti]using hO,.inr O⟩,hF.same⟩
theorem CF(w0:World)(B pb:Nat)(m:Bool)(i:Int)(s:Str)(hB:Bd w0 B pb 125 [.bool (m),J i] s)(r:Int)(hr0:-2147483648<=r)(hr1:r<=2147483647)(hl:s.length+4<=140737488355328):Wx 258 #[V pb,.int .i32 r] (.tuple #[J (((Vf r).length:Nat):Int),.nilIface]) w0 B pb 125 [.bool (m),J i] (s++Vf r):=by
 unfold Wx;have hrl:=Pg r;refine Ea func258 O ntmps258 Bb (Nc _ _) ?_;obtain⟨v,hO0,hv,hC⟩:=Il hB;have hle:=hB.le;have hBw:=hB.base;have hlt:=hB.lt;have hws:=gQ w0.heap.size;have hvl:∀g,v.ownBlock=some g->g<w0.heap.size:=λg hg=>(Ao hO0 hg).1;obtain⟨A1,c1,rfl⟩:=Mh hO0;have hF:=FR.start w0 (Wk w0 B pb);refine Da (Ba (Gb O) (Ba (Yr) (Ob (Ba (Kf O) ?_))));refine Ta hC (Ma N1 O O) ?_;rintro _ w ⟨rfl,hE,hh,hO⟩;have hws:=fQ hws hE.size;have hBw:=fQ hBw hE.size;have hF:FR w0 (Wk w0 B pb) [(pb,.cells #[V pb,.slice A1 s.length c1,.bool (m),J i] 125)] w:=(hF.touch hE (λb hb=>by obtain rfl:=pQ.1 hb;exact⟨λ_=>Jg.2 (.inl rfl),by simp⟩)).addD hh (.inr (Jg.2 (.inl rfl))) La;clear hE hh;refine Ob (Ba (Kf O) (Ba (Hh O) (Ba (Rb We O) (Yb (Ff tQ O hF.F 0 O O) (Ba (Qg wZ O) (Ba (Gb O) (Ob ?_)))))));refine Ba (Kf O) (Ba (Kf O) (Ba (Hh O) (Ba (Rb We O) (Yb (Ff tQ O hF.F 0 O O) (Ba (Cb O) ?_)))));refine Ta (Iz hO hr0 hr1 Aa hBw) (Ua SW O O O) ?_;rintro v2 w2 ⟨hO2,o,hg⟩;have hF:=(hF.ext (Same.alloc _ o)).grown hg (λb hb=>⟨λ_=>(hv b hb).1,by have h1:=(hv b hb).2;have h2:=hvl b hb;intro p hp;simp only[oQ,List.not_mem_nil,or_false]at hp;rcases hp with rfl <;> grind⟩);have hsz:=fQ (Same.alloc _ o).size hg.size;clear hO hg;revert hsz hF hO2;generalize w2=w;intro hO hF hsz;have hws:=fQ hws hsz;have hBw:=fQ hBw hsz;have hne2:∀g,v2.ownBlock=some g->g≠pb:=λg hg=>Hs hO hg (hF.heap (i:=0) rfl) rfl;obtain⟨A2,c2,rfl⟩:=Mh hO;clear hsz;refine Ba (Hh O) (Ba (Rb We O) ?_);refine Zl (.slice _ _ _) hF sizeOf121 O O Oi Tr ?_;intro w hF hE;have hws:=fQ hws hE.size;have hBw:=fQ hBw hE.size;have hO:=Xi hO hE (λg hg=>by simpa using hne2 g hg);refine Ob (Ba (Kf O) (Ba (Hh O) (Ba (Rb We O) (Yb (Ff tQ O hF.F 0 O O) (Ba (Qg wZ O) (Ba (Cb O) (Ba (TZ (((Vf r).length:Nat)) O O) (Ba (Gb O) (Ba (Yr) (Eb ?_))))))))))
 refine Ga (Xa (Va (Ka (Jc (v:=J (((Vf r).length:Nat))) (x:=.nilIface) O O O) ?_)));exact⟨O,⟨.inr ⟨O,m,i,O⟩,hle,_,_,hF.heap (i:=0) O,by simpa[Mo,Lib.byteCells,Ti]using hO,.inr O⟩,hF.same⟩
theorem P6:prog.cellsOf 5=1:=by kernel_rfl
theorem Same.freeze(w:World)(a:Addr)(n:Nat):Same [a.block] w (w.freeze a n):=by
  have h:=Lib.below_freeze (B:=a.block) (Below.refl a.block w) (p:=a) (gQ _) n;refine⟨h.os,h.tape,h.output,h.size,λb hb hn=>?_⟩;have hn':b≠a.block:=by simpa using hn
  unfold World.freeze;split
  ·rfl
  simp[Array.getElem?_modify,hn'.symm]
theorem VW(w0:World)(B pb:Nat)(s:Str)(hB:Bd w0 B pb 123 [] s)(h0:s≠[]):Calls prog 106 #[V pb] w0 (Oc λv w'=>v=I s/\Same (Wk w0 B pb) w0 w'):=by
 refine Ea func106 O ntmps106 Bb (Tb _) ?_;obtain⟨-,hle,ap,v,hh,hO,-⟩:=hB;have hsl:s.length≠0:=by simpa using h0
 obtain⟨g,c1,cur,rfl,hbg,hg,hnc,hcm,hcs,htake⟩:∃g cap cur,v=W g s.length cap/\B<=g/\w0.heap[g]? = some (.cells cur 5 (0,0))/\s.length<=cap/\cap<=maxLen/\cur.size=cap*1/\cur.toList.take (s.length*1)=Lib.byteCells s:=by
   rcases hO.2 with ⟨_,hz⟩|⟨g,cap,cur,hv,r⟩
   ·exact absurd hz hsl
   exact⟨g,cap,cur,hv,r⟩
 have hgm:g∈Wk w0 B pb:=VC hO rfl;have hgn:g≠pb:=Hs hO rfl hh (by rfl);have hF:FR w0 (Wk w0 B pb) [(pb,.cells #[ap,W g s.length c1] 123)] w0:=(FR.start w0 (Wk w0 B pb)).addD hh (.inr (Jg.2 (.inl rfl))) La;refine Da (Ba (Xf O) (Ca (Fa ?_)));refine Dd (.of []) (bQ [0,1,2,3,5,6,7,8,9] (.act 4 (.act 10 (.free 11 .nil)))) hF ?_;intro w hF hE;have hg:=(hE.block g (Mb hg) La).trans hg;have hO:=Xi hO hE La;refine⟨λwq=>FR w0 (Wk w0 B pb) _ wq,hF,?_⟩;refine Hb O (Kf O) (Hb O (Hh O) (Hb O (Rb We O) (Nf O (Ff tQ O C0 0 O O) (Hb O (Kf O) (Hb O (Hh O) (Hb O (Rb We O) (Nf O (Ff tQ O C0 0 O O) (Hb O (Qg wZ O) ?_))))))));refine Xz O (x_usd O Aa) hF ?_;have hu:(Builtin.unsafeString_ #[192,3] 9 #[V g,J s.length]).run prog w=.ok (I s) (w.freeze ⟨g,0,none⟩ s.length):=Lib.run_unsafeString_row w 192 3 9 5 underlying192 P6 g cur.size (by simp[World.shape?,hg]) s h0 Aa (by simp only[maxLen]at hcm;omega) (λj x hx=>hO.cells (g:=g) rfl j (.int .u8 x.toNat) (by simp[Lib.byteCells,hx]));have hEf:FR w0 (Wk w0 B pb) _ (w.freeze ⟨g,0,none⟩ s.length):=hF.touch (Same.freeze w ⟨g,0,none⟩ s.length) (λb hb=>by obtain rfl:=pQ.1 hb;exact⟨λ_=>hgm,by simpa using hgn.symm⟩);refine Xz O (LW O O hu) hEf ?_;have hF:=hEf;refine Hb O (Xf O) (d_nil (Ga ?_));refine Lc (v:=I s) O O ?_;exact⟨O,hF.same⟩
theorem string_b(w0:World)(B pb:Nat)(m:Bool)(i:Int)(s:Str)(hB:Bd w0 B pb 125 [.bool (m),J i] s)(h0:s≠[]):Calls prog 106 #[V pb] w0 (Oc λv w'=>v=I s/\Same (Wk w0 B pb) w0 w'):=by
 refine Ea func106 O ntmps106 Bb (Tb _) ?_;obtain⟨-,hle,ap,v,hh,hO,-⟩:=hB;have hsl:s.length≠0:=by simpa using h0
 obtain⟨g,c1,cur,rfl,hbg,hg,hnc,hcm,hcs,htake⟩:∃g cap cur,v=W g s.length cap/\B<=g/\w0.heap[g]? = some (.cells cur 5 (0,0))/\s.length<=cap/\cap<=maxLen/\cur.size=cap*1/\cur.toList.take (s.length*1)=Lib.byteCells s:=by
   rcases hO.2 with ⟨_,hz⟩|⟨g,cap,cur,hv,r⟩
   ·exact absurd hz hsl
   exact⟨g,cap,cur,hv,r⟩
 have hgm:g∈Wk w0 B pb:=VC hO rfl;have hgn:g≠pb:=Hs hO rfl hh (by rfl);have hF:FR w0 (Wk w0 B pb) [(pb,.cells #[ap,W g s.length c1,.bool (m),J i] 125)] w0:=(FR.start w0 (Wk w0 B pb)).addD hh (.inr (Jg.2 (.inl rfl))) La;refine Da (Ba (Xf O) (Ca (Fa ?_)));refine Dd (.of []) (bQ [0,1,2,3,5,6,7,8,9] (.act 4 (.act 10 (.free 11 .nil)))) hF ?_;intro w hF hE;have hg:=(hE.block g (Mb hg) La).trans hg;have hO:=Xi hO hE La;refine⟨λwq=>FR w0 (Wk w0 B pb) _ wq,hF,?_⟩;refine Hb O (Kf O) (Hb O (Hh O) (Hb O (Rb We O) (Nf O (Ff tQ O C0 0 O O) (Hb O (Kf O) (Hb O (Hh O) (Hb O (Rb We O) (Nf O (Ff tQ O C0 0 O O) (Hb O (Qg wZ O) ?_))))))));refine Xz O (x_usd O Aa) hF ?_;have hu:(Builtin.unsafeString_ #[192,3] 9 #[V g,J s.length]).run prog w=.ok (I s) (w.freeze ⟨g,0,none⟩ s.length):=Lib.run_unsafeString_row w 192 3 9 5 underlying192 P6 g cur.size (by simp[World.shape?,hg]) s h0 Aa (by simp only[maxLen]at hcm;omega) (λj x hx=>hO.cells (g:=g) rfl j (.int .u8 x.toNat) (by simp[Lib.byteCells,hx]));have hEf:FR w0 (Wk w0 B pb) _ (w.freeze ⟨g,0,none⟩ s.length):=hF.touch (Same.freeze w ⟨g,0,none⟩ s.length) (λb hb=>by obtain rfl:=pQ.1 hb;exact⟨λ_=>hgm,by simpa using hgn.symm⟩);refine Xz O (LW O O hu) hEf ?_;have hF:=hEf;refine Hb O (Xf O) (d_nil (Ga ?_));refine Lc (v:=I s) O O ?_;exact⟨O,hF.same⟩
theorem Aq{w0:World}{B pb T:Nat}{rest:List Value}{s:Str}(hB:Bd w0 B pb T rest s)(c:UInt8)(hl:s.length+1<=140737488355328):Wx 226 #[V pb,.int .u8 ((c.toNat:Nat):Int)] .nilIface w0 B pb T rest (s++[c]):=by
  rcases hB.shp with ⟨rfl,rfl⟩|⟨rfl,m,i,rfl⟩
  ·exact FG w0 B pb s hB c hl
  exact MF w0 B pb m i s hB c hl
theorem Kk{w0:World}{B pb T:Nat}{rest:List Value}{s:Str}(hB:Bd w0 B pb T rest s)(t:Str)(hl:s.length+t.length<=140737488355328):Wx 163 #[V pb,I t] (.tuple #[J ((t.length:Nat):Int),.nilIface]) w0 B pb T rest (s++t):=by
  rcases hB.shp with ⟨rfl,rfl⟩|⟨rfl,m,i,rfl⟩
  ·exact V8 w0 B pb s hB t hl
  exact B9 w0 B pb m i s hB t hl
theorem X1{w0:World}{B pb T:Nat}{rest:List Value}{s:Str}(hB:Bd w0 B pb T rest s)(r:Int)(h0:-2147483648<=r)(h1:r<=2147483647)(hl:s.length+4<=140737488355328):Wx 258 #[V pb,.int .i32 r] (.tuple #[J (((Vf r).length:Nat):Int),.nilIface]) w0 B pb T rest (s++Vf r):=by
  rcases hB.shp with ⟨rfl,rfl⟩|⟨rfl,m,i,rfl⟩
  ·exact BH w0 B pb s hB r h0 h1 hl
  exact CF w0 B pb m i s hB r h0 h1 hl
theorem Z5{w0:World}{B pb T:Nat}{rest:List Value}{s:Str}(hB:Bd w0 B pb T rest s)(h0:s≠[]):Calls prog 106 #[V pb] w0 (Oc λv w'=>v=I s/\Same (Wk w0 B pb) w0 w'):=by
  rcases hB.shp with ⟨rfl,rfl⟩|⟨rfl,m,i,rfl⟩
  ·exact VW w0 B pb s hB h0
  exact string_b w0 B pb m i s hB h0
structure BW (w0:World) (Ds:List Nat) (w:World) (B pb T:Nat) (rest:List Value) (s:Str):Prop where
  bd:Bd w B pb T rest s
  sub:∀x∈Wk w B pb,x<w0.heap.size->x∈Ds
  ge:w0.heap.size<=w.heap.size
section
variable {w0 w w':World}{Ds E:List Nat}{bs_:List (Nat × Obj)}{B pb T:Nat}{rest:List Value}{s t:Str}
theorem BW.start(h:Bd w0 B pb T rest s):BW w0 (Wk w0 B pb) w0 B pb T rest s:=⟨h,λx hx _=>hx,gQ _⟩
theorem BW.own(h:Bd w B pb T rest s)(hb:w0.heap.size<=B)(hg:w0.heap.size<=w.heap.size):BW w0 Ds w B pb T rest s :=
  ⟨h,λx hx hl=>by
    have:=h.le;rcases Jg.1 hx with rfl|⟨-,h2,-⟩ <;> omega,hg⟩
theorem BW.lt(h:BW w0 Ds w B pb T rest s):pb<w.heap.size:=h.bd.lt
theorem BW.wrote(h:BW w0 Ds w B pb T rest s)(hb:Bd w' B pb T rest t)(hs:Same (Wk w B pb) w w'):BW w0 Ds w' B pb T rest t :=
  ⟨hb,λx hx hl=>by
    rcases Wk.step hs hx with h1|h1
    ·exact h.sub x h1 hl
    have:=h.ge;omega,fQ h.ge hs.size⟩
theorem FR.wrote(hF:FR w0 Ds bs_ w)(h:BW w0 Ds w B pb T rest s)(hs:Same (Wk w B pb) w w')(hb:∀p∈bs_,Fk p.2=false/\p.1≠pb):FR w0 Ds bs_ w' :=
  hF.touch hs λx hx=>⟨h.sub x hx,λp hp e=>by
    have h1:=hb p hp;rcases Jg.1 hx with h2|⟨-,-,h3⟩
    ·exact h1.2 (e.trans h2)
    rw[<-e,Xt (hF.memHeap hp),h1.1]at h3;cases h3⟩
theorem Bd.same(h:Bd w B pb T rest s)(hs:Same E w w')(hp:pb∉E)(he:∀x∈E,Yt w x=false):Bd w' B pb T rest s:=by
  obtain⟨h1,h2,ap,v,h3,h4,h5⟩:=h;refine⟨h1,h2,ap,v,(hs.block pb (Mb h3) hp).trans h3,Xi h4 hs (λg hg hm=>?_),h5⟩;have:=(Ao h4 hg).2.2;rw[he g hm]at this;cases this
theorem Bd.ext(h:Bd w B pb T rest s)(hs:Same [] w w'):Bd w' B pb T rest s:=h.same hs La La
theorem BW.step(h:BW w0 Ds w B pb T rest s)(hs:Same E w w')(hp:pb∉E)(he:∀x∈E,Yt w x=false)(he':∀x∈E,Yt w' x=false):BW w0 Ds w' B pb T rest s :=
  ⟨h.bd.same hs hp he,λx hx hl=>by
    refine h.sub x (Jg.2 ?_) hl;have hl2:=Nat.lt_of_lt_of_le hl h.ge;rcases Jg.1 hx with rfl|⟨-,h2,h3⟩
    ·exact .inl O
    refine .inr ⟨hl2, h2, ?_⟩;have hn:x∉E:=λhm=>by rw[he' x hm]at h3;cases h3
    rw[Yt,<-hs.block x hl2 hn];exact h3,fQ h.ge hs.size⟩
theorem BW.ext(h:BW w0 Ds w B pb T rest s)(hs:Same [] w w'):BW w0 Ds w' B pb T rest s:=h.step hs La La La
theorem Rep.off{d:D}{cs:List Value}(h:Rep (λx=>x∉Wk w B pb) w d cs)(hs:Same (Wk w B pb) w w'):Rep (λx=>x∉Wk w' B pb) w' d cs :=
  ((h.old).same hs (λb hb hn=>hn.1 hb)).weaken λx hx _ hm=>by
    rcases Wk.step hs hm with h1|h1
    ·exact hx.1 h1
    have:=hx.2;omega
theorem Rep.off_ext{d:D}{cs:List Value}(h:Rep (λx=>x∉Wk w B pb) w d cs)(hp:pb<w.heap.size)(hs:Same [] w w'):Rep (λx=>x∉Wk w' B pb) w' d cs:=h.off (hs.mono La)
end
section
variable {P:Program}{w:World}{ρ:Operand->Value}{dst:Option Nat}{ty:TypeId}{pos:String}{aft:Array Edge}{g:Option (Nat × Bool)}
theorem x_and{t t':TypeId}{x y:Operand}{k:IntKind}{a b c:Int}(hx:ρ x=.int k a)(hy:ρ y=.int k b)(h:bits .and k a b=c) :
    (execOp ρ ⟨dst,.binOp .and t x y t',ty,pos,aft,g⟩).run P w=.ok (.value (.int k c)) w:=by
  simp[execOp,hx,hy,Ue,binOp,intBits_and,h]
theorem MZ{t t':TypeId}{x y:Operand}{k k2:IntKind}{a c:Int}(m:Nat)(hx:ρ x=.int k a)(hy:ρ y=.int k2 m)(hm:m<=k.bits)(h:a.fdiv (2 ^ m)=c) :
    (execOp ρ ⟨dst,.binOp .shr t x y t',ty,pos,aft,g⟩).run P w=.ok (.value (.int k c)) w:=by
  have hg:(eqGuard .shr t x y (.int k a) (.int k2 m)).run P w=.ok () w:=by unfold eqGuard;simp
  have h0:¬((m:Int)<0):=by omega
  simp[execOp,hx,hy,hg,binOp,Op.shift,h0,Nat.min_eq_left hm,h]
theorem Yw{t e N:Nat}{x y:Operand}{kk:IntKind}{b:Nat}(i:Nat)(ht:P.underlying t=some (.array N e))(hs:∀w,(sizeOf e).run P w=.ok 1 w)(hx:ρ x=V b)(hy:ρ y=.int kk (i:Int))(h1:i<N) :
    (execOp ρ ⟨dst,.indexAddr t x y,ty,pos,aft,g⟩).run P w=.ok (.value (.pointer (some ⟨b,i,none⟩))) w:=by
  have h2:(0:Int)<=(i:Int)/\(i:Int)<(N:Int):=by omega
  have e1:(⟨b,0,none⟩:Addr).add i=⟨b,i,none⟩:=by rw[Wf,Nat.zero_add]
  simp[execOp,hx,hy,Instr.indexAt,run_underlying ht,Instr.sureAddr,asIntOf,h2,hs,e1];intro hh;omega
theorem XN{t e N:Nat}{x y:Operand}{kk:IntKind}{b:Nat}(i:Nat)(ht:P.underlying t=some (.array N e))(hs:∀w,(sizeOf e).run P w=.ok 1 w)(hx:ρ x=V b)(hy:ρ y=.int kk (i:Int))(h1:i<N) :
    (execOp ρ ⟨dst,.slice t x (some y) none none,ty,pos,aft,g⟩).run P w=.ok (.value (.slice (some ⟨b,i,none⟩) (N-i) (N-i))) w:=by
  have h0:¬N=i:=by omega
  have e1:(⟨b,0,none⟩:Addr).add i=⟨b,i,none⟩:=by rw[Wf,Nat.zero_add]
  have e2:(0:Int)<=(i:Int)/\(i:Int)<=(N:Int):=by omega
  simp[execOp,hx,hy,Instr.sliceAt,run_underlying ht,Instr.sureAddr,Instr.sliceBounds,run_sliceBound,hs,e1,h0,e2]
theorem QW{t t' e:Nat}{x:Operand}{a:Addr}{n c:Nat}(s:Str)(ht:P.underlying t=some (.slice e))(he:P.underlying e=some (.int .u8))(hd:P.underlying t'=some .string)(hx:ρ x=.slice (some a) n c)(hn:s.length=n)
    (h:∀j (hj:j<s.length),w.cell? (a.add j)=some (.int .u8 (s[j].toNat:Int))) :
    (execOp ρ ⟨dst,.convert t t' x,ty,pos,aft,g⟩).run P w=.ok (.value (I s)) w:=by
  have hl:=Pq (P:=P) a w ((s.map λu=>(u.toNat:Int)).map (Value.int .u8)) (m:=n) (by simp[hn]) (λj hj=>by simp at hj ⊢;exact h j hj);have hb:=run_bytesToString w a n c (s.map λu=>(u.toNat:Int)) hl;have e1:∀(l:Str)(acc:ByteArray),(l.map λu=>(u.toNat:Int)).foldl (λr n=>r.push (UInt8.ofNat n.toNat)) acc=⟨acc.data++l.toArray⟩:=by
    intro l
    induction l with
    | nil=>intro acc;simp
    | cons u l ih=>intro acc;rw[List.map_cons,List.foldl_cons,ih];simp[ByteArray.push]
  rw[e1]at hb;simp[execOp,hx,run_convert_bytes_string w t t' e _ _ _ ht he hd,hb]
end
def ZM:List Value:=List.replicate 65 (.int .u8 0)
def Vy:Str:=[48,49,50,51,52,53,54,55,56,57,97,98,99,100,101,102,103,104,105,106,107,108,109,110,111,112,113,114,115,116,117,118,119,120,121,122]
def dg(k:Nat):UInt8:=Vy.getD k 0
def Nm(r:Nat):Str:=if r<16 then [dg r] else [dg (r/16),dg (r%16)]
theorem O2{k:Nat}(h:k<Vy.length):Vy[k]=dg k:=by simp[dg,h]
theorem wrap64:∀r<32,IntKind.u64.wrap ((r:Nat):Int)=r:=by decide
theorem and15:∀u<32,bits .and .u64 ((u:Nat):Int) 15=((u%16:Nat):Int):=by decide
theorem tz64_c(w0:World)(hG:Gl w0):Calls prog 306 #[.int .u64 16] w0 (Oc λv w'=>v=J 4/\Same [] w0 w'):=by
 obtain⟨e,fz,hbr⟩:=hG.bru;refine Ea func306 O ntmps306 Bb (Tb _) ?_;have hF:=FR.start w0 [];refine Da (Ba (Gb O) (Ca (Fa (Da (Ba (Cb O) (Ia (v:=.bool false) (Id (Sj O O) Oa) (Ca (Te O (Na ?_)))))))));refine Ga (Da (Ba (Cb O) (Ba (Cb O) (Ia (v:=.int .u64 18446744073709551600) (x_neg O Oa) (Ia (v:=.int .u64 16) (x_and O O Oa) (Ia (v:=.int .u64 4573923408821661840) (DA O O Oa) (Ia (v:=.int .u64 15) (MZ 58 O O Oa Oa) (Ia (v:=.pointer (some (⟨5,15,none⟩))) (Yw 15 underlying313 sizeOf5 O O Oa) ?_))))))));refine Ia (v:=.int .u8 4) (Yc isAgg5 O (by rw[Bc (hF.heap0 hbr)];rfl)) ?_;refine Ia (v:=J 4) (Yd kX gX O Oa) (Ba (Gb O) (Ca ?_));refine Lc (v:=J 4) O O ?_;exact⟨O,hF.same⟩
theorem tz_c(w0:World)(hG:Gl w0):Calls prog 285 #[.int .u64 16] w0 (Oc λv w'=>v=J 4/\Same [] w0 w'):=by
 refine Ea func285 O ntmps285 Bb (Tb _) ?_;have hF:=FR.start w0 [];refine Da (Ba (Gb O) (Ca (Fa (Dr O (Da (Ba (Cb O) ?_))))));refine Qa hF (tz64_c _ (hG.ext hF.same)) (Ma en_306 O O) ?_;intro w hF;refine Ba (Gb O) (Ca ?_);refine Lc (v:=J 4) O O ?_;exact⟨O,hF.same⟩
theorem pow2_c(w0:World):Calls prog 284 #[J 16] w0 (Oc λv w'=>v=.bool true/\Same [] w0 w'):=by
 refine Ea func284 O ntmps284 Bb (Tb _) ?_;have hF:=FR.start w0 [];refine Da (Ba (Kb O) (Ob (Ba (Cb O) (Ba (Cb O) (Ia (v:=J 15) (Ws O O Oa) (Ia (v:=J 0) (x_and O O Oa) (Ia (v:=.bool true) (Me (Sj O O) Oa) (Ba (Kb O) (Eb ?_)))))))));refine Ga (Lc (v:=.bool true) O O ?_);exact⟨O,hF.same⟩
theorem LC(w0:World)(hG:Gl w0)(r:Nat)(hr:r<32):Calls prog 247 #[aQ,.int .u64 (r:Int),J 16,.bool false,.bool false] w0 (Oc λv w'=>v=.tuple #[aQ,I (Nm r)]/\Same [] w0 w'):=by
 refine Ea func247 O ntmps247 Bb (ZL _ _ _ _ _) ?_;have hF:=FR.start w0 [];refine Da (Ba (Cm O) (Ba (Xf O) (Ca (Fa (Da (Ba (Cb O) (Ia (v:=.bool false) (Id (Q1 O O) Oa) (Ba (Sc O) (Ba (Cb O) (Ia (v:=.bool false) (Id (Sj O O) Oa) ?_))))))))));refine Ba (Pc O O) (Ba (Sc O) (Ba (Cb O) (Ia (v:=.bool false) (Id (RH O O) Oa) (Ba (Pc O O) (Ca (Dr O (Da ?_)))))));refine Gc (cs:=(List.toArray ZM)) hF zeroValue284 Ib ?_;rintro b1 w hb1 hF -;refine Ob (Ba (Gb O) (Ca (Fa (Da (Ba (Sc O) (Ca (Te O ?_)))))));refine Na (Ga (Fa (Da (Ba (Cb O) ?_))));refine Qa hF (pow2_c _) (Ma en_284 O O) ?_;intro w hF;refine Ca (Od O (Da (Ba (Cb O) (Ia (v:=.int .u64 16) (Yd gX yZ O Oa) ?_))));refine Qa hF (tz_c _ (hG.ext hF.same)) (Ma en_285 O O) ?_;intro w hF;refine Ia (v:=.int .u64 4) (Yd gX yZ O Oa) (Ba (Gb O) (Ob (Ba (Cb O) (Ia (v:=.int .u64 16) (Yd gX fX O Oa) (Ba (Gb O) (Ob (Ba (Cb O) ?_)))))));refine Ia (v:=.int .u64 16) (Yd gX yZ O Oa) (Ia (v:=.int .u64 15) (Ws O O Oa) (Ba (Gb O) (Ca (Fa (Sa ?_)))));refine Rc (λμ σ w=>∃(u:Nat),∃(i:Nat),∃(cs:List Value),μ=2*u/\((u=r/\i=65/\cs=ZM)\/(16<=r/\u=r/16/\i=64/\cs=ZM.set 64 (.int .u8 ((dg (r%16)).toNat:Int))))/\AllEq σ [(0,aQ),(1,.int .u64 ((u:Int))),(3,.bool false),(4,.bool false),(10,aQ),(11,I []),(12,V b1),(13,J ((i:Int))),(14,.int .u64 4),(15,.int .u64 16),(16,.int .u64 15)]/\FR w0 [] [(b1,.cells (List.toArray cs) 284)] w) _ ⟨r,65,ZM,O,(.inl ⟨O,O,O⟩),⟨O,O,O,O,O,O,O,O,O,O,O,trivial⟩,hF⟩ ?_;rintro μ σ w ⟨u,i,cs,rfl,hI,hs,hF⟩;refine Cg.slots hs ?_;clear hs;intro σ;have hcl:cs.length=65:=by rcases hI with ⟨-,-,rfl⟩|⟨-,-,-,rfl⟩ <;> simp[ZM]
 have hu32:u<32:=by omega
 refine Fa (Da (Ba (Cb O) (Ba (Cb O) (Ba (V2 O O) (Ca ?_)))));refine Lb O O (λhc3=>?_) (λhc3=>?_)
 ·
  refine Na (Ga (Sa (Da (Ba (Cb O) (Ba (TZ (((64:Nat):Int)) O O) (Ba (Gb O) (Ob (Ba (Cb O) (Ba (Cb O) ?_)))))))));refine Ba (Cb O) (Ia (v:=.int .u64 (((u%16:Nat):Int))) (x_and O O (and15 u Aa)) ?_);refine Ia (v:=.int .u8 (((dg (u%16)).toNat:Int))) (by rw[<-O2 (show u%16<Vy.length by show u%16<36;omega)];exact Hg (u%16) oX O O _) ?_;refine Ia (v:=.pointer (some ⟨b1,64,none⟩)) (Yw 64 underlying284 sizeOf5 O O Oa) ?_;refine Gh 0 (l:=[.int .u8 (((dg (u%16)).toNat:Nat):Int)]) (cs':=(List.toArray (cs.set 64 (.int .u8 (((dg (u%16)).toNat:Nat):Int))))) hF sizeOf5 O (v:=.int .u8 (((dg (u%16)).toNat:Nat):Int)) O O Zs O (by simp[hcl] <;> omega) (by simp[putA]) ?_;rintro w hF -;have hF:FR w0 [] [(b1,.cells (List.toArray (cs.set 64 (.int .u8 (((dg (u%16)).toNat:Nat):Int)))) 284)] w:=hF;refine Ca (Ja (Ba (Cb O) (Ba (Cb O) ?_)));refine Ia (v:=.int .u64 (((u/16:Nat):Int))) (MZ 4 O O Oa (by rw[Int.fdiv_eq_ediv_of_nonneg _ Oa];omega)) ?_;refine Ba (Gb O) (Eb (Wa ?_));refine Qb ⟨_,?_,u/16,64,cs.set 64 (.int .u8 (((dg (u%16)).toNat:Nat):Int)),rfl,(.inr (by rcases hI with ⟨rfl,rfl,rfl⟩|⟨h16,rfl,rfl,rfl⟩ <;> first|omega|exact⟨by omega,rfl,rfl,rfl⟩)),⟨rfl,rfl,rfl,rfl,rfl,rfl,rfl,rfl,rfl,rfl,rfl,trivial⟩,hF⟩;omega
 refine Ic (Ec O ?_);refine Ga (Da (Ba (Cb O) (Ba (TZ (((i-1:Nat):Int)) O O) (Ba (Gb O) (Ca (Ja (Ba (Cb O) (Ba (Cb O) ?_))))))));refine Ia (v:=.int .u8 (((dg u).toNat:Int))) (by rw[<-O2 (show u<Vy.length by show u<36;omega)];exact Hg u oX O O _) ?_;refine Ia (v:=.pointer (some ⟨b1,(i-1),none⟩)) (Yw (i-1) underlying284 sizeOf5 O O Aa) ?_;refine Gh 0 (l:=[.int .u8 (((dg (u)).toNat:Nat):Int)]) (cs':=(List.toArray (cs.set (i-1) (.int .u8 (((dg (u)).toNat:Nat):Int))))) hF sizeOf5 O (v:=.int .u8 (((dg (u)).toNat:Nat):Int)) O O Zs O (by simp[hcl] <;> omega) (by simp[putA]) ?_;rintro w hF -;have hF:FR w0 [] [(b1,.cells (List.toArray (cs.set (i-1) (.int .u8 (((dg (u)).toNat:Nat):Int)))) 284)] w:=hF;refine Ca (Fa (Da (Ba (Sc O) (Ca (Dr O (Fa (Da ?_)))))));refine Ba (Sc O) (Ca (Dr O (Da (Ba (Cb O) (Ia (v:=.slice (some ⟨b1,i-1,none⟩) (65-(i-1)) (65-(i-1))) (XN (i-1) underlying284 sizeOf5 O O Aa) ?_)))));have hfin:(Nm r).length=65-(i-1)/\∀j (hj:j<(Nm r).length),w.cell? ((⟨b1,i-1,none⟩:Addr).add j)=some (.int .u8 ((Nm r)[j].toNat:Int)):=by
   have hh:=hF.heap (i:=0) rfl;rcases hI with ⟨rfl,rfl,rfl⟩|⟨h16,rfl,rfl,rfl⟩
   ·have h1 : Nm u = [dg u] := by rw[Nm, if_pos Aa]
    refine⟨by rw[h1];rfl,λj hj=>?_⟩;have hj0:j=0:=by rw[h1]at hj;simpa using hj
    subst hj0;rw[Wf,Bc hh];simp[h1,ZM]
   have h1 : Nm r = [dg (r/16), dg (r%16)] := by rw[Nm, if_neg Aa]
   refine⟨by rw[h1];rfl,λj hj=>?_⟩;have hj2:j=0\/j=1:=by rw[h1]at hj;simp at hj;omega
   rw[Wf,Bc hh];rcases hj2 with rfl|rfl <;> simp[h1,ZM]
 refine Ia (v:=I (Nm r)) (QW (Nm r) wZ kX oX O hfin.1 hfin.2) (Ba (Xf O) (Ca ?_));refine Xa (Va (Ka (Jc (v:=.slice _ _ _) (x:=I (Nm r)) O O O) ?_));exact⟨O,hF.same⟩
theorem ZU(w0:World)(hG:Gl w0)(r:Nat)(hr:r<32):Calls prog 210 #[J (r:Int),J 16] w0 (Oc λv w'=>v=I (Nm r)/\Same [] w0 w'):=by
 refine Ea func210 O ntmps210 Bb (Nc _ _) ?_;have hF:=FR.start w0 [];refine Da (Ba (Xf O) (Ca (Fa (Da (Ba (Cb O) (Ia (v:=.bool false) (Id (Sj O O) Oa) (Ca (Te O (Na ?_)))))))));refine Ga (Da (Ba (Cb O) (Ia (v:=.int .u64 ((r:Int))) (Yd underlying2 fX O (wrap64 r hr)) (Ba (Cb O) (Ba (Cb O) (Ia (v:=.bool false) (Id (Q1 O O) Aa) ?_))))));refine Qa hF (LC _ (hG.ext hF.same) r hr) (Ts en_247 O O O O O O) ?_;intro w hF;refine Ba (Aj O) (Ba (yxl O O) (Ba (L1 O O) (Ba (Cm O) (Ba (Xf O) (Ob (Ba (Pd O) (Ba (Xf O) (Ca ?_))))))));refine Lc (v:=I (Nm r)) O O ?_;exact⟨O,hF.same⟩
theorem hex_c(w0:World)(hG:Gl w0)(r:Nat)(hr:r<32):Calls prog 259 #[J (r:Int),J 16] w0 (Oc λv w'=>v=I (Nm r)/\Same [] w0 w'):=by
 refine Ea func259 O ntmps259 Bb (Nc _ _) ?_;have hF:=FR.start w0 [];refine Da (Ba (Xf O) (Ob (Ba (Cb O) (Ba (Cb O) ?_))));refine Qa hF (ZU _ (hG.ext hF.same) r hr) (Ua en_210 O O O) ?_;intro w hF;refine Ba (Xf O) (Ca ?_);refine Lc (v:=I (Nm r)) O O ?_;exact⟨O,hF.same⟩
def Ce(r:Int):Int:=if r=34 then 34 else if r=92 then 92 else if r=8 then 98 else if r=12 then 102 else if r=10 then 110 else if r=13 then 114 else if r=9 then 116 else 0
theorem letter_c(w0:World)(r:Int):Calls prog 257 #[.int .i32 r] w0 (Oc λv w'=>v=.int .u8 (Ce r)/\Same [] w0 w'):=by
 refine Ea func257 O ntmps257 Bb (Tb _) ?_;have hF:=FR.start w0 [];refine Da (Ba (Gb O) (Ca (Fa (Da (Ba (Cb O) (Ca (Sa (Fa (Fa ?_)))))))));refine Ja (Ba (Xh O O) (Ba (Kb O) (Ca ?_)));refine Lb O O (λhc0=>?_) (λhc0=>?_);refine Na (Ga (Od O (Da (Ba (Cb O) ?_))));refine Ia (v:=.int .u8 (Ce r)) (Yd cX kX rfl (by rcases (by first|exact .inl (by assumption)|exact .inr (by assumption):r=34\/r=92)with rfl|rfl <;> decide)) ?_;refine Ba (Gb O) (Ca ?_);refine Lc (v:=.int .u8 (Ce r)) O O ?_;refine⟨?_,hF.same⟩;simp_all[Ce];refine Ja (Ba (Xh O O) (Ba (Kb O) (Ca ?_)));refine Lb O O (λhc1=>?_) (λhc1=>?_);refine Da (Ba (Cb O) ?_);refine Ia (v:=.int .u8 (Ce r)) (Yd cX kX rfl (by rcases (by first|exact .inl (by assumption)|exact .inr (by assumption):r=34\/r=92)with rfl|rfl <;> decide)) ?_;refine Ba (Gb O) (Ca ?_);refine Lc (v:=.int .u8 (Ce r)) O O ?_;refine⟨?_,hF.same⟩;simp_all[Ce];refine Da (Ba (Xh O O) (Ba (Kb O) (Ca ?_)));refine Lb O O (λhc2=>?_) (λhc2=>?_);refine Da (Ba (Gb O) (Ca ?_));refine Lc (v:=.int .u8 98) O O ?_;refine⟨?_,hF.same⟩;simp_all[Ce];refine Da (Ba (Xh O O) (Ba (Kb O) (Ca ?_)));refine Lb O O (λhc3=>?_) (λhc3=>?_);refine Da (Ba (Gb O) (Ca ?_));refine Lc (v:=.int .u8 102) O O ?_;refine⟨?_,hF.same⟩;simp_all[Ce];refine Da (Ba (Xh O O) (Ba (Kb O) (Ca ?_)));refine Lb O O (λhc4=>?_) (λhc4=>?_);refine Da (Ba (Gb O) (Ca ?_));refine Lc (v:=.int .u8 110) O O ?_;refine⟨?_,hF.same⟩;simp_all[Ce];refine Da (Ba (Xh O O) (Ba (Kb O) (Ca ?_)));refine Lb O O (λhc5=>?_) (λhc5=>?_);refine Da (Ba (Gb O) (Ca ?_));refine Lc (v:=.int .u8 114) O O ?_;refine⟨?_,hF.same⟩;simp_all[Ce];refine Da (Ba (Xh O O) (Ba (Kb O) (Ca ?_)));refine Lb O O (λhc6=>?_) (λhc6=>?_);refine Da (Ba (Gb O) (Ca ?_));refine Lc (v:=.int .u8 116) O O ?_;refine⟨?_,hF.same⟩;simp_all[Ce]
 refine Na (Wa (Ga (Da (Ba (Gb O) (Ca ?_)))));refine Lc (v:=.int .u8 0) O O ?_;refine⟨?_,hF.same⟩;simp_all[Ce]
def Yl(r:Nat):Str:=if Ce r≠0 then [92,UInt8.ofNat (Ce r).toNat] else if 32<=r then Vf r else [92,117]++Lib.repeatL [48] (4-(Nm r).length)++Nm r
def C3:Nat->Str->Nat->Str
  | 0,_,_=>[]
  | f+1,s,p=>if p<s.length then Yl (Utf8.decode (bs s) p).1++C3 f s (p+(Utf8.decode (bs s) p).2) else []
theorem XP:∀(f g:Nat)(s:Str)(p:Nat),s.length-p<=f->s.length-p<=g->C3 f s p=C3 g s p
  | 0,0,_,_,_,_=>rfl
  | 0,g+1,s,p,h,_=>by rw[C3,C3,if_neg Aa]
  | f+1,0,s,p,_,h=>by rw[C3,C3,if_neg Aa]
  | f + 1, g + 1, s, p, h1, h2 => by
    rw[C3,C3];split
    ·have h3 := Uf s p
     rw[XP f g s _ Aa Aa]
    rfl
def Pt(s:Str)(p:Nat):Str:=C3 (s.length-p) s p
theorem Ep{s:Str}{p:Nat}(h:p<s.length):Pt s p=Yl (Utf8.decode (bs s) p).1++Pt s (p+(Utf8.decode (bs s) p).2):=by
  have h3:=Uf s p;obtain⟨f,hf⟩:∃f,s.length-p=f+1:=⟨s.length-p-1,by omega⟩;rw[Pt,hf,C3,if_pos h,Pt,XP f (s.length-(p+(Utf8.decode (bs s) p).2)) s _ Aa Aa]
theorem M0{s:Str}{p:Nat}(h:¬p<s.length):Pt s p=[]:=by
  have e:s.length-p=0:=by omega
  rw[Pt,e,C3]
def Cj(s:Str):Str:=[34]++Pt s 0++[34]
theorem Ew(r:Int):0<=Ce r/\Ce r<256:=by
  unfold Ce
  repeat' split
  all_goals omega
theorem Xm(r:Nat):1<=(Nm r).length/\(Nm r).length<=2:=by unfold Nm;split <;> simp
theorem Ns(n:Nat):(Lib.repeatL [48] n).length=n:=by
  induction n with
  | zero=>rfl
  | succ n ih=>simp[Lib.repeatL,ih];try omega
theorem Gq(r:Nat):(Yl r).length<=6:=by
  unfold Yl;have h1:=Pg r;have h2:=Xm r
  repeat' split
  ·simp
  ·omega
  simp[Ns];omega
theorem Oh{w0:World}{B pb T:Nat}{rest:List Value}{s:Str}(hB:Bd w0 B pb T rest s)(z:Int)(h0:0<=z)(h1:z<256)(hl:s.length+1<=140737488355328):Wx 226 #[V pb,.int .u8 z] .nilIface w0 B pb T rest (s++[UInt8.ofNat z.toNat]):=by
  have h:=Aq hB (UInt8.ofNat z.toNat) hl;have e:(((UInt8.ofNat z.toNat).toNat:Nat):Int)=z:=by simp only[UInt8.toNat_ofNat'];omega
  rwa [e]at h
theorem quote_c(w0:World)(hG:Gl w0)(s:Str)(hl:s.length<=17592186044416):Calls prog 225 #[I s] w0 (Oc λv w'=>v=(if Lib.validD s=true then .tuple #[I (Cj s),J 0] else .tuple #[I [],J 2])/\Same [] w0 w'):=by
 refine Ea func225 O ntmps225 Bb (Tb _) ?_;have hF:=FR.start w0 [];refine Da (Ba (Xf O) (Ba (Gb O) (Ca (Fa (Da (Ba (Pd O) ?_))))));refine Ta (JC s Aa _ (hG.ext hF.same)) (Ma en_78 O O) ?_;rintro _ w ⟨n0,rfl,hE⟩;have hF:=hF.ext hE;refine Ba (Aj O) (Ba (Nh O O) (Ba (Xn O O) (Ba (Gb O) (Ba (Kb O) (Ob (Ba (Sc O) (Ba (Wi O) (Ca ?_))))))));refine He O O (λhc0=>?_) (λhc0=>?_);refine Da (Ba (Xf O) (Ba (Gb O) (Ca ?_)));refine Xa (Va (Ka (Jc (v:=I []) (x:=J 2) O O O) ?_));exact⟨by rw[if_neg (by simpa using hc0)],hF.same⟩;refine Na (Ga (Da ?_));refine Gc (cs:=#[.pointer none,aQ]) hF zeroValue123 O ?_;rintro b1 w hb1 hF -;refine Ob ?_;have hBn:BW w0 [] w b1 b1 123 [] []:=BW.own ⟨.inl ⟨rfl,rfl⟩,gQ _,_,_,hF.heap (i:=0) rfl,World.ownsRow_nil _ _ _ _,.inl rfl⟩ (hF.ge (i:=0) rfl) hF.same.size;have hB:=hBn;have hF:=hF.drop 1;have hF:FR w0 [] [] w:=hF;have ho:(0:Nat)<=0/\([]:Str).length<=0:=by simp
 refine Ta (Oh hB.bd (34) Aa Aa La) (Ua Tp O O O) ?_;rintro _ w ⟨rfl,hBd,hE⟩;have hF:=hF.wrote hB hE La;have hB:=hB.wrote hBd hE;clear hBd hE;refine Ca (Fa (Da (Ba (Pd O) ?_)));refine Gr (str:=s) hF oX O ?_;intro b2 w hb2 hF hE;have nb2:b2≠b1:=by have:=hB.lt;omega
 have hB:=hB.ext hE;refine Ca (Sa ?_);refine Rc (λμ σ w=>∃(q:Nat),∃(o:Str),μ=s.length-q/\(o++Pt s q=[34]++Pt s 0)/\(o.length<=1+6*q/\o.length<=1+6*s.length)/\(BW w0 [] w b1 b1 123 [] o)/\AllEq σ [(6,V b1),(20,V b2)]/\FR w0 [] [(b2,.stringIter (bs s) (q))] w) _ ⟨0,[34],O,(O),La,(hB),PC,hF⟩ ?_;rintro μ σ w ⟨q,o,rfl,hq,ho,hB,hs,hF⟩;refine Cg.slots hs ?_;clear hs;intro σ;have hr2:Yt w b2=false:=by rw[Xt (hF.heap (i:=0) rfl)];rfl
 refine Da ?_;by_cases hn0:(q)<(s:Str).length;refine Yv 0 (p:=q) (str:=s) hF O O hn0 ?_;intro w hF hE;have hB:=hB.step hE (by simpa using nb2.symm) (by simpa using hr2) (by simp[Xt (hF.heap (i:=0) rfl),Fk]);refine Ba (Xn O O) (Ca (Fa (Od O (Na (Ga (Sa (Da (Ba (Nh O O) (Ba (Gb O) (Ca ?_))))))))));refine Fa (Da (Ba (Cb O) ?_));refine Ta (letter_c _ (((Utf8.decode (bs s) q).1:Nat):Int)) (Ma en_257 O O) ?_;rintro _ w ⟨rfl,hE⟩;have hF:=hF.ext hE;have hB:=hB.ext hE;refine Ba (Gb O) (Ob (Ba (Cb O) (Ba (Sn O O) (Ca ?_))));refine Lb O O (λhc2=>?_) (λhc2=>?_);refine Da ?_;refine Ta (Oh hB.bd (92) Aa Aa (by have h1:=ho.1;have h2:=ho.2;simp;omega)) (Ua Tp O O O) ?_;rintro _ w ⟨rfl,hBd,hE⟩;have hF:=hF.wrote hB hE (by simp[Fk,nb2]);have hB:=hB.wrote hBd hE;clear hBd hE;refine Ob (Ba (Cb O) ?_);refine Ta (Oh hB.bd (Ce (((Utf8.decode (bs s) q).1:Nat):Int)) (Ew _).1 (Ew _).2 (by have h1:=ho.1;have h2:=ho.2;simp;omega)) (Ua Tp O O O) ?_;rintro _ w ⟨rfl,hBd,hE⟩;have hF:=hF.wrote hB hE (by simp[Fk,nb2]);have hB:=hB.wrote hBd hE;have e1:o++[UInt8.ofNat (92:Int).toNat]++[UInt8.ofNat (Ce (((Utf8.decode (bs s) q).1:Nat):Int)).toNat]=o++Yl (Utf8.decode (bs s) q).1:=by rw[Yl,if_pos (by simpa using hc2)];simp
 rw[e1]at hB;clear hBd hE;refine Ca (Ic (Ec O ?_));have h1:=Uf s q;refine Qb ⟨_,?_,q+(Utf8.decode (bs s) q).2,o++Yl (Utf8.decode (bs s) q).1,O,(by rw[sQ,<-Ep Aa];exact hq),(by have h1:=Uf s q;have h2:=Gq (Utf8.decode (bs s) q).1;rw[dQ];omega),(hB),PC,hF⟩;omega;refine Na (Ga (Fa (Da (Ba (Cb O) (Ba (V2 O O) (Ca ?_))))));refine Lb O O (λhc3=>?_) (λhc3=>?_);refine Da (Ba (Cb O) ?_);refine Ta (X1 hB.bd (((Utf8.decode (bs s) q).1:Nat):Int) Aa (by have:=Lib.rune_le (bs s) q;omega) (by have h1:=ho.1;have h2:=ho.2;simp;omega)) (Ua BX O O O) ?_;rintro _ w ⟨rfl,hBd,hE⟩;have hF:=hF.wrote hB hE (by simp[Fk,nb2]);have hB:=hB.wrote hBd hE;have e1:o++Vf (((Utf8.decode (bs s) q).1:Nat):Int)=o++Yl (Utf8.decode (bs s) q).1:=by rw[Yl,if_neg (by simpa using hc2),if_pos Aa]
 rw[e1]at hB;clear hBd hE;refine Ca (Ic (Ec O ?_));have h1:=Uf s q;refine Qb ⟨_,?_,q+(Utf8.decode (bs s) q).2,o++Yl (Utf8.decode (bs s) q).1,O,(by rw[sQ,<-Ep Aa];exact hq),(by have h1:=Uf s q;have h2:=Gq (Utf8.decode (bs s) q).1;rw[dQ];omega),(hB),PC,hF⟩;omega;refine Na (Ga (Da (Ba (Cb O) (Ia (v:=J ((((Utf8.decode (bs s) q).1:Nat):Int))) (Yd cX underlying2 O (Do Aa Aa)) ?_))));refine Ta (hex_c _ (hG.ext hF.same) (Utf8.decode (bs s) q).1 Aa) (Ua en_259 O O O) ?_;rintro _ w ⟨rfl,hE⟩;have hF:=hF.ext hE;have hB:=hB.ext hE;refine Ba (Xf O) (Ca (Ja (Ba (Pd O) (Ba (Rp oX O) (Ia (v:=J (((4-(Nm (Utf8.decode (bs s) q).1).length:Nat):Int))) (Ws O O (have:=Xm (Utf8.decode (bs s) q).1;Tl Aa Aa Aa)) ?_)))));refine Ta (AA ((4-(Nm (Utf8.decode (bs s) q).1).length:Nat):Int) Aa Aa _) (Ua KN O O O) ?_;rintro _ w ⟨rfl,hE⟩;have hF:=hF.ext hE;have hB:=hB.ext hE;refine Ia (v:=I (([92,117])++(Lib.repeatL [48] (4-(Nm (Utf8.decode (bs s) q).1).length)))) (Pw O O (by have:=Xm (Utf8.decode (bs s) q).1;simp[Ns];omega)) ?_;refine Ba (Pd O) ?_;refine Ia (v:=I ((([92,117])++(Lib.repeatL [48] (4-(Nm (Utf8.decode (bs s) q).1).length)))++(Nm (Utf8.decode (bs s) q).1))) (Pw O O (by have:=Xm (Utf8.decode (bs s) q).1;simp[Ns];omega)) ?_;refine Ta (Kk hB.bd _ (by have:=Xm (Utf8.decode (bs s) q).1;have h1:=ho.1;have h2:=ho.2;simp[Ns];omega)) (Ua V5 O O O) ?_;rintro _ w ⟨rfl,hBd,hE⟩;have hF:=hF.wrote hB hE (by simp[Fk,nb2]);have hB:=hB.wrote hBd hE;have e1:o++((([92,117])++(Lib.repeatL [48] (4-(Nm (Utf8.decode (bs s) q).1).length)))++(Nm (Utf8.decode (bs s) q).1))=o++Yl (Utf8.decode (bs s) q).1:=by rw[Yl,if_neg (by simpa using hc2),if_neg Aa]
 rw[e1]at hB;clear hBd hE;refine Eb (Wa ?_);have h1:=Uf s q;refine Qb ⟨_,?_,q+(Utf8.decode (bs s) q).2,o++Yl (Utf8.decode (bs s) q).1,O,(by rw[sQ,<-Ep Aa];exact hq),(by have h1:=Uf s q;have h2:=Gq (Utf8.decode (bs s) q).1;rw[dQ];omega),(hB),PC,hF⟩;omega;refine Dm 0 (p:=q) (str:=s) hF O O hn0 (Ba (Xn O O) (Ca (Fa (Te O ?_))));refine Ic (Ec O ?_);refine Ga (Da ?_);refine Ta (Oh hB.bd (34) Aa Aa (by have h1:=ho.1;have h2:=ho.2;simp;omega)) (Ua Tp O O O) ?_;rintro _ w ⟨rfl,hBd,hE⟩;have hF:=hF.wrote hB hE (by simp[Fk,nb2]);have hB:=hB.wrote hBd hE;clear hBd hE;refine Ob (Ta (Z5 hB.bd La) (Ma ME O O) ?_);rintro _ w ⟨rfl,hE⟩;have hF:=hF.wrote hB hE (by simp[Fk,nb2]);refine Ba (Xf O) (Ba (Gb O) (Ca ?_));refine Xa (Va (Ka (Jc (v:=I (o++[34])) (x:=J 0) O O O) ?_));refine⟨?_,hF.same⟩;rw[if_pos (by simpa using hc0),Cj,<-hq,M0 Aa,qQ]
def Ip(m:Bool)(ind d:Nat):Str:=if m then [10]++Lib.repeatL [32] (ind*d) else []
def qS(t:Str):Str:=if Lib.validD t=true then Cj t else []
theorem Nt(c:UInt8)(n:Nat):(Lib.repeatL [c] n).length=n:=by
  induction n with
  | zero=>rfl
  | succ n ih=>simp[Lib.repeatL,ih];try omega
theorem Uy(m:Bool)(ind d:Nat):(Ip m ind d).length<=1+ind*d:=by unfold Ip;split <;> simp[Nt] <;> omega
theorem MC(s:Str)(p:Nat):(Pt s p).length<=6*(s.length-p):=by
  induction h:s.length-p using Nat.strongRecOn generalizing p with
  | ind n ih =>
    by_cases hp:p<s.length
    ·rw[Ep hp, dQ]
     have h1:=Gq (Utf8.decode (bs s) p).1;have h2:=Uf s p;have h3:=ih (s.length-(p+(Utf8.decode (bs s) p).2)) Aa (p+(Utf8.decode (bs s) p).2) rfl;omega
    rw[M0 hp];simp
theorem D_(s:Str):(qS s).length<=6*s.length+2:=by
  unfold qS;split
  ·have := MC s 0
   simp[Cj];omega
  simp
theorem repeat_c(t:Str)(c:Nat)(h1:c<=9223372036854775807)(h2:t.length*c<=140737488355328)(w:World):Calls prog 254 #[I t,J (c:Int)] w (Oc λv w'=>v=I (Lib.repeatL t c)/\Same [] w w'):=by
  have h:=strings_Repeat (bs t) c w h1 (by rw[Zn];exact h2);exact Kv h
theorem quoted_c(t:Str)(hl:t.length<=17592186044416)(w0:World)(hG:Gl w0):Calls prog 225 #[I t] w0 (Oc λv w'=>v=.tuple #[I (qS t),J (if Lib.validD t=true then 0 else 2)]/\Same [] w0 w'):=by
  refine Pj (quote_c w0 hG t hl) λv w' ⟨h1,h2⟩=>⟨?_,h2⟩;rw[h1,qS];split <;> rfl
theorem Bd.mul{w:World}{B pb T:Nat}{m:Bool}{ind:Int}{s:Str}(h:Bd w B pb T [.bool m,J ind] s):w.cell? ⟨pb,2,none⟩=some (.bool m):=by
  obtain⟨ap,v,hh,-⟩:=h.ex;rw[Bc hh];rfl
theorem Bd.ind{w:World}{B pb T:Nat}{m:Bool}{ind:Int}{s:Str}(h:Bd w B pb T [.bool m,J ind] s):w.cell? ⟨pb,3,none⟩=some (J ind):=by
  obtain⟨ap,v,hh,-⟩:=h.ex;rw[Bc hh];rfl
theorem Gl.wrote{w0 w:World}{B pb:Nat}(h:Gl w0)(hs:Same (Wk w0 B pb) w0 w)(hb:8<=B)(hp:B<=pb):Gl w:=h.same hs λx hx=>by
  rcases Jg.1 hx with rfl|⟨-,h1,-⟩ <;> omega
theorem BM(w0:World)(B pb:Nat)(m:Bool)(ind:Nat)(s:Str)(hBd:Bd w0 B pb 125 [.bool m,J (ind:Int)] s)(d:Nat)(hd:ind*d<=1000000000)(hl:s.length+(Ip m ind d).length<=140737488355328):Wx 227 #[V pb,J (d:Int)] (.tuple #[]) w0 B pb 125 [.bool m,J (ind:Int)] (s++Ip m ind d):=by
 unfold Wx;refine Ea func227 O ntmps227 Bb (Nc _ _) ?_;have hB:=BW.start hBd;have hF:=FR.start w0 (Wk w0 B pb);refine Da (Ba (Kf O) (Ba (Hh O) (Ba (Rb ZI O) (Ia (v:=.bool (m)) (Yc cZ O hB.bd.mul) (Ca ?_)))));refine He O O (λhc0=>?_) (λhc0=>?_);rw[Ip,if_pos hc0]at hl;simp only[dQ,kQ,List.length_nil,Nt]at hl;refine Da (Ba (Kf O) (Ba (Hh O) (Ba (Rb Zi O) ?_)));refine Ta (Oh hB.bd 10 Oa Oa Aa) (Ua Tp O O O) ?_;rintro _ w ⟨rfl,hBd,hE⟩;have hF:=hF.wrote hB hE La;have hB:=hB.wrote hBd hE;clear hBd hE;refine Ca (Dd (.of []) (bQ [0,1,2,3,4,5,6,7,8] (.act 9 (.act 10 .nil))) hF ?_);intro w hF hE;have hB:=hB.ext hE;refine⟨λwq=>FR w0 (Wk w0 B pb) _ wq/\∃s',Bd wq B pb 125 [.bool m,J (ind:Int)] s',⟨hF,⟨_,hB.bd⟩⟩,?_⟩;refine Hb O (Kf O) (Hb O (Hh O) (Hb O (Rb Zi O) (Hb O (Kf O) (Hb O (Hh O) (Hb O (Rb YY O) ?_)))));refine Ab rfl (v:=J ((ind:Int))) (λw hC=>Yc xQ rfl (by obtain⟨-,s_,hs_⟩:=hC;exact hs_.ind)) ?_;refine Hb O (Cb O) (Ab O (v:=J (((ind*d:Nat):Int))) (λw hC=>DA O O (Tl (by rw[Int.natCast_mul]) Aa Aa)) ?_);refine Cd O (repeat_c [32] (ind*d) Aa (by simp;omega) _) (Ua KN O O O) ?_;rintro _ w ⟨rfl,hE⟩;have hF:=hF.ext hE;have hB:=hB.ext hE;refine⟨⟨hF,⟨_,hB.bd⟩⟩,?_⟩;refine Cd O (Kk hB.bd (Lib.repeatL [32] (ind*d)) (by simp[Nt];omega)) (Ua V5 O O O) ?_;rintro _ w ⟨rfl,hBd,hE⟩;have hF:=hF.wrote hB hE La;have hB:=hB.wrote hBd hE;clear hBd hE;refine⟨⟨hF,⟨_,hB.bd⟩⟩,?_⟩;refine d_nil (Kg (Le (Ui O) ?_));exact⟨O,by simpa[Ip,hc0]using hB.bd,hF.same⟩;refine Na (Kg (Le (Ui O) ?_));exact⟨O,by simpa[Ip,hc0]using hB.bd,hF.same⟩
theorem U9(w0:World)(B pb:Nat)(m:Bool)(ind:Nat)(s:Str)(hBd:Bd w0 B pb 125 [.bool m,J (ind:Int)] s)(hG:Gl w0)(h8:8<=B)(t:Str)(ht:t.length<=17592186044416)(hl:s.length+(qS t).length<=140737488355328):Wx 164 #[V pb,I t] (.tuple #[]) w0 B pb 125 [.bool m,J (ind:Int)] (s++qS t):=by
 unfold Wx;refine Ea func164 O ntmps164 Bb (Nc _ _) ?_;have hB:=BW.start hBd;have hF:=FR.start w0 (Wk w0 B pb);refine Da (Ba (Pd O) ?_);refine Ta (quoted_c t ht _ ((hG.wrote hF.same h8 hBd.le))) (Ma en_225 O O) ?_;rintro _ w ⟨rfl,hE⟩;have hF:=hF.ext hE;have hB:=hB.ext hE;refine Ba (Aj O) (Ba (L1 O O) (Ba (Nh O O) (Ba (Xf O) (Ba (Gb O) (Ca (Ja (Ba (Kf O) (Ba (Hh O) (Ba (Rb Zi O) (Ba (Pd O) ?_))))))))));refine Ta (Kk hB.bd (qS t) Aa) (Ua V5 O O O) ?_;rintro _ w ⟨rfl,hBd,hE⟩;have hF:=hF.wrote hB hE La;have hB:=hB.wrote hBd hE;clear hBd hE;refine Eb (Kg (Le (Ui O) ?_));exact⟨O,hB.bd,hF.same⟩
def Zc(m:Bool)(ind d:Nat):Bool->List Str->Str
  | _,[]=>[]
  | first,p::ps=>(if first then [] else [44])++(Ip m ind (d+1)++(p++Zc m ind d false ps))
def Pl(m:Bool)(ind d:Nat)(o c:UInt8)(ps:List Str):Str:=[o]++(Zc m ind d true ps++((if ps=[] then [] else Ip m ind d)++[c]))
mutual
def Wc(m:Bool)(ind:Nat):Tree->Nat->Str
  | .node k t ks xs,d=>if k=1 then [110,117,108,108] else if k=4 then qS t else if k=5 then Pl m ind d 91 93 (Ef m ind xs (d+1)) else if k=6 then Pl m ind d 123 125 (Gf m ind xs ks (d+1)) else t
def Ef(m:Bool)(ind:Nat):List Tree->Nat->List Str
  | [],_=>[]
  | x::xs,d=>Wc m ind x d::Ef m ind xs d
def Gf(m:Bool)(ind:Nat):List Tree->List Str->Nat->List Str
  | [],_,_=>[]
  | x::xs,ks,d=>(qS (ks.headD [])++([58]++((if m then [32] else [])++Wc m ind x d)))::Gf m ind xs ks.tail d
end
theorem Vg:∀{xs:List Tree}{x:Tree},x∈xs->Hd x<=Ld xs
  | y :: ys, x, h => by
    rw[Ld];rcases oQ.1 h with rfl|h
    ·omega
    have:=Vg h;omega
theorem Fy(m:Bool)(ind d:Nat):∀xs,Ef m ind xs d=xs.map (λx=>Wc m ind x d)
  | []=>by simp[Ef]
  | x::xs=>by simp[Ef,Fy m ind d xs]
def LN(m:Bool)(ind d:Nat)(k:Str)(x:Tree):Str:=qS k++([58]++((if m then [32] else [])++Wc m ind x d))
theorem Xr(m:Bool)(ind d:Nat):∀xs ks,(Gf m ind xs ks d).length=xs.length
  | [],ks=>by simp[Gf]
  | x::xs,ks=>by simp[Gf,Xr m ind d xs ks.tail]
theorem IA(m:Bool)(ind d:Nat):∀(xs:List Tree)(ks:List Str)(j:Nat)(h:j<xs.length)(hk:j<ks.length)(h':j<(Gf m ind xs ks d).length),(Gf m ind xs ks d)[j]=LN m ind d ks[j] xs[j]
  | x::xs,k::ks,0,_,_,_=>by simp[Gf,LN]
  | x :: xs, k :: ks, j + 1, h, hk, h' => by
    simp only[Gf,List.tail_cons,List.getElem_cons_succ];exact IA m ind d xs ks j (by simpa using h) (by simpa using hk) (by simpa[Gf]using h')
theorem PT(m:Bool)(ind d:Nat){ps:List Str}{j:Nat}(h:j<ps.length):Zc m ind d (decide (j=0)) (ps.drop j)=(if j=0 then [] else [44])++(Ip m ind (d+1)++(ps[j]++Zc m ind d (decide (j+1=0)) (ps.drop (j+1)))):=by
  rw[List.drop_eq_getElem_cons h,Zc];simp
mutual
def PQ:Tree->Prop|.node _ t ks xs=>t.length<=17592186044416/\(∀k∈ks,k.length<=17592186044416)/\SN xs
def SN:List Tree->Prop|[]=>True|x::xs=>PQ x/\SN xs
end
theorem Py:∀{xs:List Tree},SN xs->∀x∈xs,PQ x
  | [],_,_,h=>absurd h La
  | y :: ys, h, x, hx => by
    rw[SN]at h;rcases oQ.1 hx with rfl|hx
    ·exact h.1
    exact Py h.2 x hx
def AY(x:Tree):Prop:=∀(m:Bool)(ind d:Nat)(w0:World)(B pb:Nat)(s:Str)(cs:List Value),Bd w0 B pb 125 [.bool m,J (ind:Int)] s->Gl w0->8<=B->Rep (λb=>b∉Wk w0 B pb) w0 (Jb x) cs->PQ x->Zd nodeB x=true ->
  ind*(d+Hd x)<=1000000000->d+Hd x<=1000000000->s.length+(Wc m ind x d).length<=140737488355328->Wx 105 #[V pb,.agg cs.toArray,J (d:Int)] (.tuple #[]) w0 B pb 125 [.bool m,J (ind:Int)] (s++Wc m ind x d)
def ItemC(f:Nat)(k:Int)(t:Str)(ks:List Str)(xs:List Tree)(m:Bool)(ind d:Nat)(ps:List Str):Prop:=∀(j:Nat)(hj:j<ps.length)(w0:World)(B pb:Nat)(s:Str)(A B':Option Addr)(c e:Nat),Bd w0 B pb 125 [.bool m,J (ind:Int)] s->Gl w0->8<=B ->
  Rep (λb=>b∉Wk w0 B pb) w0 (Jb (.node k t ks xs)) [J k,I t,.slice A ks.length c,.slice B' xs.length e]->s.length+ps[j].length<=140737488355328 ->
  Wx f #[V pb,.agg #[J k,I t,.slice A ks.length c,.slice B' xs.length e],J (j:Int),J (d:Int)] (.tuple #[]) w0 B pb 125 [.bool m,J (ind:Int)] (s++ps[j])
theorem item_c(k:Int)(t:Str)(ks:List Str)(xs:List Tree)(m:Bool)(ind d:Nat)(j:Nat)(hj:j<xs.length)(w0:World)(B pb:Nat)(s:Str)(A B_:Option Addr)(c e:Nat)(hBd:Bd w0 B pb 125 [.bool m,J (ind:Int)] s)(hG:Gl w0)(h8:8<=B)(hX:Rep (λb=>b∉Wk w0 B pb) w0 (Jb (.node k t ks xs)) [J k,I t,.slice A ks.length c,.slice B_ xs.length e])(hv:∀x∈xs,AY x)(hok:PQ (.node k t ks xs))(hn:Zd nodeB (.node k t ks xs)=true)(hd:ind*(d+Ld xs)<=1000000000)(hd2:d+Ld xs<=1000000000)(hl:s.length+(Wc m ind xs[j] d).length<=140737488355328):Wx 166 #[V pb,.agg #[J k,I t,.slice A ks.length c,.slice B_ xs.length e],J (j:Int),J (d:Int)] (.tuple #[]) w0 B pb 125 [.bool m,J (ind:Int)] (s++Wc m ind xs[j] d):=by
 unfold Wx;rw[PQ]at hok;refine Ea func166 O ntmps166 Bb (XB _ _ _ _) ?_;have hB:=BW.start hBd;have hF:=FR.start w0 (Wk w0 B pb);refine Da (Df hF O ?_);intro b1 w hb1 hF hE;have nb1:b1≠pb:=by have:=hB.lt;omega
 have hX:=hX.off_ext hB.lt hE;have hB:=hB.ext hE;refine Ca (Ja (Ba (Kf O) (Ba (Rb Xb O) (Yb (Ff zQ O hF.F 0 O O) (Ba (Cb O) ?_)))));obtain⟨A_,c_,B__,e_,heq_,-,-,hK_,hXs_⟩:=hX.tree_inv;simp only[List.cons.injEq,Value.slice.injEq,true_and,and_true]at heq_;obtain⟨⟨rfl,rfl⟩,rfl,rfl⟩:=heq_;obtain⟨ad0,cs0,hA0,hl0,hk0,hx0⟩:=hXs_.tree_elem (i:=j) Aa;have ho0:=hx0.one_;refine Ia (v:=.pointer (some (ad0.add (j*4)))) (Ra (i:=(j:Int)) Tg O hA0 O Aa Aa) (Ia (v:=.agg (List.toArray cs0)) (Za (l:=cs0) aZ oZ O hl0 hk0) (Ba (Cb O) ?_));refine Ta (hv xs[j] (eQ hj) m ind d _ B pb s _ hB.bd (hG.wrote hF.same h8 hBd.le) h8 hx0 (Py hok.2.2 _ (eQ hj)) ((Zg hn).2 _ (eQ hj)) (by have h1:=Vg (eQ hj);exact fQ (Nat.mul_le_mul_left ind Aa) hd) (by have h1:=Vg (eQ hj);omega) hl) (De KB O O O O) ?_;rintro _ w ⟨rfl,hBd2,hE⟩;have hF:=hF.wrote hB hE (by simp[Fk,nb1]);have hX:=hX.off hE;have hB:=hB.wrote hBd2 hE;clear hBd2 hE;refine Eb (Kg (Le (Ui O) ?_));exact⟨O,hB.bd,hF.same⟩
theorem member_c(k:Int)(t:Str)(ks:List Str)(xs:List Tree)(m:Bool)(ind d:Nat)(j:Nat)(hj:j<xs.length)(hjk:j<ks.length)(w0:World)(B pb:Nat)(s:Str)(A B_:Option Addr)(c e:Nat)(hBd:Bd w0 B pb 125 [.bool m,J (ind:Int)] s)(hG:Gl w0)(h8:8<=B)(hX:Rep (λb=>b∉Wk w0 B pb) w0 (Jb (.node k t ks xs)) [J k,I t,.slice A ks.length c,.slice B_ xs.length e])(hv:∀x∈xs,AY x)(hok:PQ (.node k t ks xs))(hn:Zd nodeB (.node k t ks xs)=true)(hd:ind*(d+Ld xs)<=1000000000)(hd2:d+Ld xs<=1000000000)(hl:s.length+(LN m ind d ks[j] xs[j]).length<=140737488355328):Wx 167 #[V pb,.agg #[J k,I t,.slice A ks.length c,.slice B_ xs.length e],J (j:Int),J (d:Int)] (.tuple #[]) w0 B pb 125 [.bool m,J (ind:Int)] (s++LN m ind d ks[j] xs[j]):=by
 unfold Wx;rw[PQ]at hok;rw[LN]at hl;simp only[dQ,kQ,List.length_nil]at hl;refine Ea func167 O ntmps167 Bb (XB _ _ _ _) ?_;have hB:=BW.start hBd;have hF:=FR.start w0 (Wk w0 B pb);refine Da (Df hF O ?_);intro b1 w hb1 hF hE;have nb1:b1≠pb:=by have:=hB.lt;omega
 have hX:=hX.off_ext hB.lt hE;have hB:=hB.ext hE;refine Ob (Ba (Kf O) (Ba (Rb Oe O) (Yb (Ff yQ O hF.F 0 O O) (Ba (Cb O) ?_))));obtain⟨A_,c_,B__,e_,heq_,-,-,hK_,hXs_⟩:=hX.tree_inv;simp only[List.cons.injEq,Value.slice.injEq,true_and,and_true]at heq_;obtain⟨⟨rfl,rfl⟩,rfl,rfl⟩:=heq_;obtain⟨ad0,hA0,hk0,hx0⟩:=hK_.str_elem (i:=j) Aa;refine Ia (v:=.pointer (some (ad0.add (j*1)))) (Ra (i:=(j:Int)) Jw O hA0 O Aa Aa) (Ia (v:=I (ks[j])) (Yc fZ O hk0) ?_);refine Ta (U9 _ B pb m ind s hB.bd (hG.wrote hF.same h8 hBd.le) h8 ks[j] (hok.2.1 _ (eQ hjk)) Aa) (Ua en_164 O O O) ?_;rintro _ w ⟨rfl,hBd2,hE⟩;have hF:=hF.wrote hB hE (by simp[Fk,nb1]);have hX:=hX.off hE;have hB:=hB.wrote hBd2 hE;clear hBd2 hE;refine Ob (Ba (Kf O) (Ba (Hh O) (Ba (Rb Zi O) ?_)));refine Ta (Oh hB.bd 58 Oa Oa (by rw[dQ];omega)) (Ua Tp O O O) ?_;rintro _ w ⟨rfl,hBd2,hE⟩;have hF:=hF.wrote hB hE (by simp[Fk,nb1]);have hX:=hX.off hE;have hB:=hB.wrote hBd2 hE;clear hBd2 hE;refine Ca (Fa (Da (Ba (Kf O) (Ba (Hh O) (Ba (Rb ZI O) (Ia (v:=.bool (m)) (Yc cZ O hB.bd.mul) (Ca ?_)))))));refine He O O (λhc0=>?_) (λhc0=>?_);refine Ja (Ba (Kf O) (Ba (Hh O) (Ba (Rb Zi O) ?_)));refine Ta (Oh hB.bd 32 Oa Oa (by simp only[dQ,kQ,List.length_nil];(first|rw[if_pos hc0]at hl|rw[if_neg (by simp[hc0])]at hl);simp only[kQ,List.length_nil]at hl;omega)) (Ua Tp rfl rfl rfl) ?_;rintro _ w ⟨rfl,hBd2,hE⟩;have hF:=hF.wrote hB hE (by simp[Fk,nb1]);have hX:=hX.off hE;have hB:=hB.wrote hBd2 hE;clear hBd2 hE;refine Ca (Ja (Ba (Kf O) (Ba (Rb Xb O) (Yb (Ff zQ O hF.F 0 O O) (Ba (Cb O) ?_)))));obtain⟨A_,c_,B__,e_,heq_,-,-,hK_,hXs_⟩:=hX.tree_inv;simp only[List.cons.injEq,Value.slice.injEq,true_and,and_true]at heq_;obtain⟨⟨rfl,rfl⟩,rfl,rfl⟩:=heq_;obtain⟨ad1,cs1,hA1,hl1,hk1,hx1⟩:=hXs_.tree_elem (i:=j) Aa
 have ho1:=hx1.one_;refine Ia (v:=.pointer (some (ad1.add (j*4)))) (Ra (i:=(j:Int)) Tg O hA1 O Aa Aa) (Ia (v:=.agg (List.toArray cs1)) (Za (l:=cs1) aZ oZ O hl1 hk1) (Ba (Cb O) ?_));refine Ta (hv xs[j] (eQ hj) m ind d _ B pb _ _ hB.bd (hG.wrote hF.same h8 hBd.le) h8 hx1 (Py hok.2.2 _ (eQ hj)) ((Zg hn).2 _ (eQ hj)) (by have h1:=Vg (eQ hj);exact fQ (Nat.mul_le_mul_left ind Aa) hd) (by have h1:=Vg (eQ hj);omega) (by simp only[dQ,kQ,List.length_nil];(first|rw[if_pos hc0]at hl|rw[if_neg (by simp[hc0])]at hl);simp only[kQ,List.length_nil]at hl;omega)) (De KB rfl rfl rfl rfl) ?_;rintro _ w ⟨rfl,hBd2,hE⟩;have hF:=hF.wrote hB hE (by simp[Fk,nb1]);have hX:=hX.off hE;have hB:=hB.wrote hBd2 hE;clear hBd2 hE;refine Eb (Kg (Le (Ui O) ?_));exact⟨O,by simpa[LN,hc0]using hB.bd,hF.same⟩;refine Na (Ga (Ja (Ba (Kf O) (Ba (Rb Xb O) (Yb (Ff zQ O hF.F 0 O O) (Ba (Cb O) ?_))))));obtain⟨A_,c_,B__,e_,heq_,-,-,hK_,hXs_⟩:=hX.tree_inv;simp only[List.cons.injEq,Value.slice.injEq,true_and,and_true]at heq_;obtain⟨⟨rfl,rfl⟩,rfl,rfl⟩:=heq_;obtain⟨ad2,cs2,hA2,hl2,hk2,hx2⟩:=hXs_.tree_elem (i:=j) Aa;have ho2:=hx2.one_;refine Ia (v:=.pointer (some (ad2.add (j*4)))) (Ra (i:=(j:Int)) Tg O hA2 O Aa Aa) (Ia (v:=.agg (List.toArray cs2)) (Za (l:=cs2) aZ oZ O hl2 hk2) (Ba (Cb O) ?_));refine Ta (hv xs[j] (eQ hj) m ind d _ B pb _ _ hB.bd (hG.wrote hF.same h8 hBd.le) h8 hx2 (Py hok.2.2 _ (eQ hj)) ((Zg hn).2 _ (eQ hj)) (by have h1:=Vg (eQ hj);exact fQ (Nat.mul_le_mul_left ind Aa) hd) (by have h1:=Vg (eQ hj);omega) (by simp only[dQ,kQ,List.length_nil];(first|rw[if_pos hc0]at hl|rw[if_neg (by simp[hc0])]at hl);simp only[kQ,List.length_nil]at hl;omega)) (De KB rfl rfl rfl rfl) ?_;rintro _ w ⟨rfl,hBd2,hE⟩;have hF:=hF.wrote hB hE (by simp[Fk,nb1]);have hX:=hX.off hE
 have hB:=hB.wrote hBd2 hE;clear hBd2 hE;refine Eb (Kg (Le (Ui O) ?_));exact⟨O,by simpa[LN,hc0]using hB.bd,hF.same⟩
theorem JT(m:Bool)(ind d:Nat)(b:Bool):Zc m ind d b []=[]:=by cases b <;> rfl
theorem JQ(f:Nat)(hen:Pa prog f)(k:Int)(t:Str)(ks:List Str)(xs:List Tree)(m:Bool)(ind d:Nat)(bo bc:UInt8)(ps:List Str)(hps:ps.length=xs.length)(hI:ItemC f k t ks xs m ind (d+1) ps)(w0:World)(B pb:Nat)(s:Str)(A B_:Option Addr)(c e:Nat)(hBd:Bd w0 B pb 125 [.bool m,J (ind:Int)] s)(hG:Gl w0)(h8:8<=B)(hX:Rep (λb=>b∉Wk w0 B pb) w0 (Jb (.node k t ks xs)) [J k,I t,.slice A ks.length c,.slice B_ xs.length e])(hd1:ind*(d+1)<=1000000000)(hd2:d+1<=1000000000)(hxl:xs.length<=9223372036854775807)(hlim:s.length+(Pl m ind d bo bc ps).length<=140737488355328):Wx 165 #[V pb,.agg #[J k,I t,.slice A ks.length c,.slice B_ xs.length e],J (d:Int),I [bo,bc],.func (.func f) #[V pb] #[]] (.tuple #[]) w0 B pb 125 [.bool m,J (ind:Int)] (s++Pl m ind d bo bc ps):=by
 unfold Wx;rw[Pl]at hlim;simp only[dQ,kQ,List.length_nil]at hlim;refine Ea func165 O ntmps165 Bb (ZL _ _ _ _ _) ?_;have hB:=BW.start hBd;have hF:=FR.start w0 (Wk w0 B pb);refine Da (Df hF O ?_);intro b1 w hb1 hF hE;have nb1:b1≠pb:=by have:=hB.lt;omega
 have hX:=hX.off_ext hB.lt hE;have hB:=hB.ext hE;refine Ca (Fa ?_);refine Dd (.of []) (bQ [0,1,2,3,4] (.act 5 .nil)) hF ?_;intro w hF hE;have hX:=hX.off_ext hB.lt hE;have hB:=hB.ext hE;refine⟨λwq=>FR w0 (Wk w0 B pb) _ wq,hF,?_⟩;refine Hb O (Kf O) (Hb O (Hh O) (Hb O (Rb Zi O) (Hb O (Pd O) ?_)));refine Ab O (v:=.int .u8 (((bo.toNat:Nat):Int))) (λw hC=>Hg (s:=[bo,bc]) 0 oX O O La) (Cd O (Aq hB.bd bo Aa) (Ua Tp O O O) ?_);rintro _ w ⟨rfl,hBd2,hE⟩;have hF:=hF.wrote hB hE (by simp[Fk,nb1]);have hX:=hX.off hE;have hB:=hB.wrote hBd2 hE;clear hBd2 hE;refine⟨hF,?_⟩;refine d_nil (Ga (Fa (Da (Ba (Rb Xb O) (Yb (Ff zQ O hF.F 0 O O) (Ba (Qg jX O) (Ba (Cb O) (Ca (Sa ?_)))))))));refine Rc (λμ σ w=>∃(j:Nat),∃(o:Str),μ=xs.length-j/\(j<=xs.length)/\(o++Zc m ind d (decide (j=0)) (ps.drop j)=s++([bo]++Zc m ind d true ps))/\(BW w0 (Wk w0 B pb) w B pb 125 [.bool m,J (ind:Int)] (o))/\(Rep (λb=>b∉Wk w B pb) w (Jb (.node k t ks xs)) [J k,I t,.slice A ks.length c,.slice B_ xs.length e])/\AllEq σ [(0,V pb),(2,J ((d:Int))),(3,I ([bo,bc])),(4,.func (.func f) #[V pb] #[]),(6,V b1),(19,J ((xs.length:Nat))),(20,J ((j:Int)))]/\FR w0 (Wk w0 B pb) [(b1,.cells #[J k,I t,.slice A ks.length c,.slice B_ xs.length e] 36)] w) _ ⟨0,s++[bo],O,(Nat.zero_le _),La,(hB),(hX),PE,hF⟩ ?_;rintro μ σ w ⟨j,o,rfl,hj,hq,hB,hX,hs,hF⟩;refine Cg.slots hs ?_;clear hs;intro σ;refine Da (Ba (Dl O O) (Ca (Fa ?_)));refine Lb O O (λhc0=>?_) (λhc0=>?_);have hjp:j<ps.length:=by omega
 have hjd:=PT m ind d hjp;have hL:=congrArg List.length hq;rw[hjd]at hL;have hif:(if j=0 then ([]:Str) else [44]).length=if j=0 then 0 else 1:=by split <;> rfl
 simp only[dQ,kQ,List.length_nil,hif]at hL;refine Na (Ga (Fa (Sa (Da (Ba (Cb O) (Ba (Gb O) (Ca (Fa (Da (Ba (Cb O) ?_))))))))));refine Ba (Yx O O) (Ca ?_);refine Lb O O (λhc1=>?_) (λhc1=>?_);refine Ja (Ba (Kf O) (Ba (Hh O) (Ba (Rb Zi O) ?_)));refine Ta (Oh hB.bd 44 Oa Oa (by rw[if_neg Aa]at hL;omega)) (Ua Tp O O O) ?_;rintro _ w ⟨rfl,hBd2,hE⟩;have hF:=hF.wrote hB hE (by simp[Fk,nb1]);have hX:=hX.off hE;have hB:=hB.wrote hBd2 hE;clear hBd2 hE;refine Ob (Ba (Kf O) (Ba (Cb O) (Ba (Un (((d+1:Nat):Int)) O O) ?_)));refine Ta (BM _ B pb m ind _ hB.bd (d+1) hd1 (by (try simp only[dQ,kQ,List.length_nil]);first|(rw[if_neg Aa]at hL;omega)|(rw[if_pos Aa]at hL;omega))) (Ua DK rfl rfl rfl) ?_;rintro _ w ⟨rfl,hBd2,hE⟩;have hF:=hF.wrote hB hE (by simp[Fk,nb1]);have hX:=hX.off hE;have hB:=hB.wrote hBd2 hE;clear hBd2 hE;refine Ca (Ja (Ba (Vp) (Yb (Ig aZ oZ O hF.F 0 O O) (Ba (Cb O) (Ba (Cb O) (Ba (Un (((d+1:Nat):Int)) O O) ?_))))));refine Ta (hI j hjp _ B pb _ A B_ c e hB.bd (hG.wrote hF.same h8 hBd.le) h8 hX (by (try simp only[dQ,kQ,List.length_nil]);first|(rw[if_neg Aa]at hL;omega)|(rw[if_pos Aa]at hL;omega))) (QI rfl hen rfl rfl rfl rfl) ?_;rintro _ w ⟨rfl,hBd2,hE⟩;have hF:=hF.wrote hB hE (by simp[Fk,nb1]);have hX:=hX.off hE;have hB:=hB.wrote hBd2 hE;clear hBd2 hE;have hB:BW w0 (Wk w0 B pb) w B pb 125 [.bool m,J (ind:Int)] (o++((if j=0 then [] else [44])++(Ip m ind (d+1)++ps[j]))):=by first|(have h0:¬j=0:=Aa;rw[if_neg h0];simpa using hB)|(have h0:j=0:=Aa;rw[if_pos h0];simpa using hB)
 refine Eb (Wa (Ga (Ja (Ba (Fm O O) (Ba (Cb O) (Eb ?_))))));refine Qb ⟨_,?_,j+1,o++((if j=0 then [] else [44])++(Ip m ind (d+1)++ps[j])),O,Aa,(by have h:=hq;rw[hjd]at h;simpa[sQ]using h),(hB),(hX),PE,hF⟩;omega;refine Na (Ga (Da (Ba (Kf O) (Ba (Cb O) (Ba (Un (((d+1:Nat):Int)) O O) ?_)))));refine Ta (BM _ B pb m ind _ hB.bd (d+1) hd1 (by (try simp only[dQ,kQ,List.length_nil]);first|(rw[if_neg Aa]at hL;omega)|(rw[if_pos Aa]at hL;omega))) (Ua DK rfl rfl rfl) ?_;rintro _ w ⟨rfl,hBd2,hE⟩;have hF:=hF.wrote hB hE (by simp[Fk,nb1]);have hX:=hX.off hE;have hB:=hB.wrote hBd2 hE;clear hBd2 hE;refine Ca (Ja (Ba (Vp) (Yb (Ig aZ oZ O hF.F 0 O O) (Ba (Cb O) (Ba (Cb O) (Ba (Un (((d+1:Nat):Int)) O O) ?_))))));refine Ta (hI j hjp _ B pb _ A B_ c e hB.bd (hG.wrote hF.same h8 hBd.le) h8 hX (by (try simp only[dQ,kQ,List.length_nil]);first|(rw[if_neg Aa]at hL;omega)|(rw[if_pos Aa]at hL;omega))) (QI rfl hen rfl rfl rfl rfl) ?_;rintro _ w ⟨rfl,hBd2,hE⟩;have hF:=hF.wrote hB hE (by simp[Fk,nb1]);have hX:=hX.off hE;have hB:=hB.wrote hBd2 hE;clear hBd2 hE;have hB:BW w0 (Wk w0 B pb) w B pb 125 [.bool m,J (ind:Int)] (o++((if j=0 then [] else [44])++(Ip m ind (d+1)++ps[j]))):=by first|(have h0:¬j=0:=Aa;rw[if_neg h0];simpa using hB)|(have h0:j=0:=Aa;rw[if_pos h0];simpa using hB)
 refine Eb (Wa (Ga (Ja (Ba (Fm O O) (Ba (Cb O) (Eb ?_))))));refine Qb ⟨_,?_,j+1,o++((if j=0 then [] else [44])++(Ip m ind (d+1)++ps[j])),O,Aa,(by have h:=hq;rw[hjd]at h;simpa[sQ]using h),(hB),(hX),PE,hF⟩;omega;have hq2:o=s++([bo]++Zc m ind d true ps):=by have h:=hq;rw[List.drop_eq_nil_of_le Aa,JT,qQ]at h;exact h
 refine Ic (Ec O ?_);refine Ga (Fa (Da (Ba (Rb Xb O) (Yb (Ff zQ O hF.F 0 O O) (Ba (Qg jX O) (Ba (Yx O O) (Ca ?_)))))));refine Lb O O (λhc2=>?_) (λhc2=>?_);have hpn:ps≠[]:=by intro hp;rw[hp]at hps;simp at hps;omega
 refine Ja (Ba (Kf O) (Ba (Cb O) ?_));refine Ta (BM _ B pb m ind _ hB.bd d (fQ (Nat.mul_le_mul_left ind Aa) hd1) (by have hp:ps≠[]:=(by intro hp;rw[hp]at hps;simp at hps;omega);rw[if_neg hp]at hlim;rw[hq2];(try simp only[dQ,kQ,List.length_nil]);omega)) (Ua DK rfl rfl rfl) ?_;rintro _ w ⟨rfl,hBd2,hE⟩;have hF:=hF.wrote hB hE (by simp[Fk,nb1]);have hX:=hX.off hE;have hB:=hB.wrote hBd2 hE;clear hBd2 hE;refine Ca (Dd (.of []) (bQ [0,1,2,3,4] (.act 5 .nil)) hF ?_);intro w hF hE;have hX:=hX.off_ext hB.lt hE;have hB:=hB.ext hE;refine⟨λwq=>FR w0 (Wk w0 B pb) _ wq,hF,?_⟩;refine Hb O (Kf O) (Hb O (Hh O) (Hb O (Rb Zi O) (Hb O (Pd O) ?_)));refine Ab O (v:=.int .u8 (((bc.toNat:Nat):Int))) (λw hC=>Hg (s:=[bo,bc]) 1 oX O O La) ?_;refine Cd rfl (Aq hB.bd bc (by rw[hq2];(try simp only[dQ,kQ,List.length_nil]);first|(rw[if_neg hpn]at hlim;omega)|omega)) (Ua Tp rfl rfl rfl) ?_;rintro _ w ⟨rfl,hBd2,hE⟩;have hF:=hF.wrote hB hE (by simp[Fk,nb1]);have hX:=hX.off hE;have hB:=hB.wrote hBd2 hE;clear hBd2 hE;refine⟨hF,?_⟩;refine d_nil (Kg (Le (Ui O) ?_));refine⟨O,?_,hF.same⟩;have hb:=hB.bd;rw[hq2]at hb;rw[Pl,if_neg hpn];simpa[sQ]using hb;have hpz:ps=[]:=List.eq_nil_of_length_eq_zero Aa;refine Na (Ga ?_);refine Dd (.of []) (bQ [0,1,2,3,4] (.act 5 .nil)) hF ?_;intro w hF hE;have hX:=hX.off_ext hB.lt hE;have hB:=hB.ext hE;refine⟨λwq=>FR w0 (Wk w0 B pb) _ wq,hF,?_⟩;refine Hb O (Kf O) (Hb O (Hh O) (Hb O (Rb Zi O) (Hb O (Pd O) ?_)));refine Ab O (v:=.int .u8 (((bc.toNat:Nat):Int))) (λw hC=>Hg (s:=[bo,bc]) 1 oX O O La) ?_;refine Cd rfl (Aq hB.bd bc (by rw[hq2];(try simp only[dQ,kQ,List.length_nil]);first|(rw[if_neg hpn]at hlim;omega)|omega)) (Ua Tp rfl rfl rfl) ?_;rintro _ w ⟨rfl,hBd2,hE⟩;have hF:=hF.wrote hB hE (by simp[Fk,nb1])
 have hX:=hX.off hE;have hB:=hB.wrote hBd2 hE;clear hBd2 hE;refine⟨hF,?_⟩;refine d_nil (Kg (Le (Ui O) ?_));refine⟨O,?_,hF.same⟩;have hb:=hB.bd;rw[hq2]at hb;rw[Pl,if_pos hpz];simpa[sQ]using hb
theorem FN(k:Int)(t:Str)(ks:List Str)(xs:List Tree)(ih:∀x∈xs,AY x)(m:Bool)(ind d:Nat)(w0:World)(B pb:Nat)(s:Str)(A B_:Option Addr)(c e:Nat)(hBd:Bd w0 B pb 125 [.bool m,J (ind:Int)] s)(hG:Gl w0)(h8:8<=B)(hX:Rep (λb=>b∉Wk w0 B pb) w0 (Jb (.node k t ks xs)) [J k,I t,.slice A ks.length c,.slice B_ xs.length e])(hok:PQ (.node k t ks xs))(hn:Zd nodeB (.node k t ks xs)=true)(hd:ind*(d+Hd (.node k t ks xs))<=1000000000)(hd2:d+Hd (.node k t ks xs)<=1000000000)(hxl:xs.length<=9223372036854775807)(hl:s.length+(Wc m ind (.node k t ks xs) d).length<=140737488355328):Wx 105 #[V pb,.agg #[J k,I t,.slice A ks.length c,.slice B_ xs.length e],J (d:Int)] (.tuple #[]) w0 B pb 125 [.bool m,J (ind:Int)] (s++Wc m ind (.node k t ks xs) d):=by
 unfold Wx;refine Ea func105 O ntmps105 Bb (Li _ _ _) ?_;have hB:=BW.start hBd;have hF:=FR.start w0 (Wk w0 B pb);refine Da (Df hF O ?_);intro b1 w hb1 hF hE;have nb1:b1≠pb:=by have:=hB.lt;omega
 have hX:=hX.off_ext hB.lt hE;have hB:=hB.ext hE;refine Ob (Ba (Rb Ve O) (Yb (Pi xQ O hF.F 0 O O) (Ca (Sa (Da (Ba (Xh O O) (Ba (Kb O) (Eb ?_))))))));refine Ga (Lb O O (λhc0=>?_) (λhc0=>?_));refine Ja (Ba (Kf O) (Ba (Hh O) (Ba (Rb Zi O) ?_)));have hkk_:k=1:=by omega
 refine Ta (Kk hB.bd [110,117,108,108] (by rw[Wc,if_pos hkk_]at hl;exact hl)) (Ua V5 O O O) ?_;rintro _ w ⟨rfl,hBd2,hE⟩;have hF:=hF.wrote hB hE (by simp[Fk,nb1]);have hX:=hX.off hE;have hB:=hB.wrote hBd2 hE;clear hBd2 hE;refine Eb (Wa ?_);refine Kg (Le (Ui O) ?_);refine⟨O,?_,hF.same⟩;rw[Wc]
 first|(rw[if_pos hkk_];exact hB.bd)|(rw[if_neg Aa,if_pos hkk_];exact hB.bd)|(rw[if_neg Aa,if_neg Aa,if_pos hkk_];exact hB.bd)|(rw[if_neg Aa,if_neg Aa,if_neg Aa,if_pos hkk_];exact hB.bd)|(rw[if_neg Aa,if_neg Aa,if_neg Aa,if_neg Aa];exact hB.bd)
 refine Da (Ba (Xh O O) (Ba (Kb O) (Ca ?_)));refine Lb O O (λhc1=>?_) (λhc1=>?_);refine Ja (Ba (Kf O) (Ba (Rb Bf O) (Yb (Tn fZ O hF.F 0 O O) ?_)));have hkk_:k=4:=by omega
 refine Ta (U9 _ B pb m ind s hB.bd (hG.wrote hF.same h8 hBd.le) h8 t (by rw[PQ]at hok;exact hok.1) (by rw[Wc,if_neg Aa,if_pos hkk_]at hl;exact hl)) (Ua en_164 O O O) ?_;rintro _ w ⟨rfl,hBd2,hE⟩;have hF:=hF.wrote hB hE (by simp[Fk,nb1]);have hX:=hX.off hE;have hB:=hB.wrote hBd2 hE;clear hBd2 hE;refine Eb (Wa ?_);refine Kg (Le (Ui O) ?_);refine⟨O,?_,hF.same⟩;rw[Wc]
 first|(rw[if_pos hkk_];exact hB.bd)|(rw[if_neg Aa,if_pos hkk_];exact hB.bd)|(rw[if_neg Aa,if_neg Aa,if_pos hkk_];exact hB.bd)|(rw[if_neg Aa,if_neg Aa,if_neg Aa,if_pos hkk_];exact hB.bd)|(rw[if_neg Aa,if_neg Aa,if_neg Aa,if_neg Aa];exact hB.bd)
 refine Da (Ba (Xh O O) (Ba (Kb O) (Ca ?_)));refine Lb O O (λhc2=>?_) (λhc2=>?_);refine Ja (Ba (Kf O) (Yb (Ig aZ oZ O hF.F 0 O O) (Ba (Cb O) (Ba (Kf O) (Ia (v:=.func (.func 166) #[V pb] #[]) (Io O) ?_)))));have hkk_:k=5:=by omega
 refine Ta (JQ 166 en_166 k t ks xs m ind d 91 93 (Ef m ind xs (d+1)) (by rw[Fy,rQ]) (λj hj w1 B1 p1 s1 A1 B1_ c1 e1 hb1_ hg1 h81 hx1 hl1=>by have hj2:j<xs.length:=(by rw[Fy,rQ]at hj;exact hj);have hg:(Ef m ind xs (d+1))[j]=Wc m ind xs[j] (d+1):=(by simp only[Fy,List.getElem_map]);rw[hg]at hl1 ⊢;exact item_c k t ks xs m ind (d+1) j hj2 w1 B1 p1 s1 A1 B1_ c1 e1 hb1_ hg1 h81 hx1 ih hok hn (by rw[Hd]at hd;exact fQ (Nat.mul_le_mul_left ind Aa) hd) (by rw[Hd]at hd2;omega) hl1) _ B pb s A B_ c e hB.bd (hG.wrote hF.same h8 hBd.le) h8 hX (by have h1:=hd;rw[Hd]at h1;exact fQ (Nat.mul_le_mul_left ind Aa) h1) (by rw[Hd]at hd2;omega) hxl (by rw[Wc]at hl;simpa[hkk_]using hl)) (Ts en_165 O O O O O O) ?_;rintro _ w ⟨rfl,hBd2,hE⟩;have hF:=hF.wrote hB hE (by simp[Fk,nb1]);have hX:=hX.off hE;have hB:=hB.wrote hBd2 hE;clear hBd2 hE;refine Eb (Wa ?_);refine Kg (Le (Ui O) ?_);refine⟨O,?_,hF.same⟩;rw[Wc]
 first|(rw[if_pos hkk_];exact hB.bd)|(rw[if_neg Aa,if_pos hkk_];exact hB.bd)|(rw[if_neg Aa,if_neg Aa,if_pos hkk_];exact hB.bd)|(rw[if_neg Aa,if_neg Aa,if_neg Aa,if_pos hkk_];exact hB.bd)|(rw[if_neg Aa,if_neg Aa,if_neg Aa,if_neg Aa];exact hB.bd)
 refine Da (Ba (Xh O O) (Ba (Kb O) (Ca ?_)));refine Lb O O (λhc3=>?_) (λhc3=>?_);refine Ja (Ba (Kf O) (Yb (Ig aZ oZ O hF.F 0 O O) (Ba (Cb O) (Ba (Kf O) (Ia (v:=.func (.func 167) #[V pb] #[]) (Io O) ?_)))));have hkk_:k=6:=by omega
 have hkl:ks.length=xs.length:=(Iw (hkk_▸(Zg hn).1)).2;refine Ta (JQ 167 en_167 k t ks xs m ind d 123 125 (Gf m ind xs ks (d+1)) (by rw[Xr]) (λj hj w1 B1 p1 s1 A1 B1_ c1 e1 hb1_ hg1 h81 hx1 hl1=>by have hj2:j<xs.length:=(by rw[Xr]at hj;exact hj);have hg:=IA m ind (d+1) xs ks j hj2 Aa hj;rw[hg]at hl1 ⊢;exact member_c k t ks xs m ind (d+1) j hj2 Aa w1 B1 p1 s1 A1 B1_ c1 e1 hb1_ hg1 h81 hx1 ih hok hn (by rw[Hd]at hd;exact fQ (Nat.mul_le_mul_left ind Aa) hd) (by rw[Hd]at hd2;omega) hl1) _ B pb s A B_ c e hB.bd (hG.wrote hF.same h8 hBd.le) h8 hX (by have h1:=hd;rw[Hd]at h1;exact fQ (Nat.mul_le_mul_left ind Aa) h1) (by rw[Hd]at hd2;omega) hxl (by rw[Wc]at hl;simpa[hkk_]using hl)) (Ts en_165 O O O O O O) ?_;rintro _ w ⟨rfl,hBd2,hE⟩;have hF:=hF.wrote hB hE (by simp[Fk,nb1]);have hX:=hX.off hE;have hB:=hB.wrote hBd2 hE;clear hBd2 hE;refine Eb (Wa ?_);refine Kg (Le (Ui O) ?_);refine⟨O,?_,hF.same⟩;rw[Wc]
 first|(rw[if_pos hkk_];exact hB.bd)|(rw[if_neg Aa,if_pos hkk_];exact hB.bd)|(rw[if_neg Aa,if_neg Aa,if_pos hkk_];exact hB.bd)|(rw[if_neg Aa,if_neg Aa,if_neg Aa,if_pos hkk_];exact hB.bd)|(rw[if_neg Aa,if_neg Aa,if_neg Aa,if_neg Aa];exact hB.bd)
 refine Dd (.of []) (bQ [0,1,2,3,4] (.act 5 .nil)) hF ?_;intro w hF hE;have hX:=hX.off_ext hB.lt hE;have hB:=hB.ext hE;refine⟨λwq=>FR w0 (Wk w0 B pb) _ wq,hF,?_⟩;refine Hb O (Kf O) (Hb O (Hh O) (Hb O (Rb Zi O) (Hb O (Rb Bf O) (Nf O (Tn fZ O C0 0 O O) ?_))));refine Cd O (Kk hB.bd t (by rw[Wc,if_neg Aa,if_neg Aa,if_neg Aa,if_neg Aa]at hl;exact hl)) (Ua V5 O O O) ?_;rintro _ w ⟨rfl,hBd2,hE⟩;have hF:=hF.wrote hB hE (by simp[Fk,nb1]);have hX:=hX.off hE;have hB:=hB.wrote hBd2 hE;clear hBd2 hE;refine⟨hF,?_⟩;refine d_nil (Wa ?_);refine Kg (Le (Ui O) ?_);refine⟨O,?_,hF.same⟩;rw[Wc]
 first|(rw[if_pos hkk_];exact hB.bd)|(rw[if_neg Aa,if_pos hkk_];exact hB.bd)|(rw[if_neg Aa,if_neg Aa,if_pos hkk_];exact hB.bd)|(rw[if_neg Aa,if_neg Aa,if_neg Aa,if_pos hkk_];exact hB.bd)|(rw[if_neg Aa,if_neg Aa,if_neg Aa,if_neg Aa];exact hB.bd)
theorem value_c(x:Tree):AY x:=Tree.ind (Q:=AY) (λk t ks xs ih m ind d w0 B pb s cs hBd hG h8 hX hok hn hd hd2 hl=>by
  obtain⟨A,c,B_,e,rfl,-,-,-,hXs⟩:=hX.tree_inv;have h1:=hXs.slice_len;exact FN k t ks xs ih m ind d w0 B pb s A B_ c e hBd hG h8 hX hok hn hd hd2 Aa hl) x
theorem KK{t:Str}(h:Th t=true):t≠[]:=by
  rintro rfl
  revert h
  decide
theorem valS_ne(m:Bool)(ind:Nat)(x:Tree)(d:Nat)(h:Ye x=true):Wc m ind x d≠[]:=by
  obtain⟨k,t,ks,xs⟩:=x;unfold Ye at h;rw[Bool.and_eq_true]at h;have h1:=(Zg h.2).1;unfold rnodeB at h1;rw[Bool.and_eq_true,decide_eq_true_eq]at h1;obtain⟨h7,h1⟩:=h1;have h7':k≠7:=h7;rw[Wc];split
  ·simp
  split
  ·rename_i h4
   subst h4;simp[nodeB]at h1;rw[qS,if_pos h1.2];simp[Cj]
  split
  ·simp[Pl]
  split
  ·simp[Pl]
  rename_i g1 g4 g5 g6
  simp only[nodeB,if_neg g5,if_neg g6,if_neg g1,if_neg g4,if_neg h7']at h1;split at h1
  ·cases h1
  split at h1
  ·rw[Bool.or_eq_true, decide_eq_true_eq, decide_eq_true_eq]at h1
   rcases h1 with rfl|rfl <;> simp
  split at h1
  ·exact KK h1
  cases h1
theorem ST{x:Tree}(h:Ye x=true):Zd nodeB x=true:=by
  unfold Ye at h;rw[Bool.and_eq_true]at h;refine Tree.ind (Q:=λx=>Zd rnodeB x=true->Zd nodeB x=true) (λk t ks xs ih h=>?_) x h.2;rw[Zd,Bool.and_eq_true]at h ⊢;have h1:=h.1;unfold rnodeB at h1;rw[Bool.and_eq_true]at h1;refine⟨h1.2,?_⟩;have key:∀ys:List Tree,(∀y∈ys,y∈xs)->Ir rnodeB ys=true->Ir nodeB ys=true:=by
    intro ys
    induction ys with
    | nil=>intro _ _;rfl
    | cons y ys ihy =>
      intro hm hs;rw[Ir,Bool.and_eq_true]at hs ⊢;exact⟨ih y (hm y La) hs.1,ihy (λz hz=>hm z (by simp[hz])) hs.2⟩
  exact key xs (λ_ h=>h) h.2
theorem C2{x:Tree}(h:Ye x=true):Hd x<=32:=by
  unfold Ye Qq at h;simp only[Bool.and_eq_true,decide_eq_true_eq]at h;exact h.1.2
theorem RR(x:Tree)(S:Nat->Prop)(w0:World)(cs:List Value)(rx:Rep S w0 (Jb x) cs)(hG:Gl w0)(hk:Wp x)(hq:PQ x)(hsz:Db x<=1000000000)(hlim:Ye x=true->(Wc false 0 x 0).length<=140737488355328):Calls prog 69 #[.agg cs.toArray] w0 (Oc λv w'=>v=(if Ye x=true then .tuple #[I (Wc false 0 x 0),J 0] else .tuple #[I [],J 1])/\Same [] w0 w'):=by
 have hl:cs.length=4:=rx.length.trans (Xc x);have ho:=rx.one_;refine Ea func69 O ntmps69 Bb (Tb _) ?_;have hF:=FR.start w0 [];refine Da (Vn (v:=.agg (List.toArray cs)) (cs:=(List.toArray cs)) hF O O ?_);rintro b1 w hb1 hF -;refine Ba (Xf O) (Ba (Gb O) (Ca (Fa (Da (Ia (v:=.agg (List.toArray cs)) (Za (l:=cs) aZ oZ O hl (hF.cellsAll 0 O)) ?_)))));refine Qa hF (N3 x Aa _ _ _ (hF.rep rx) hk (hG.ext hF.same)) (Ma BQ O O) ?_;intro w hF;refine Ba (Wi O) (Ca ?_);refine He O O (λhc0=>?_) (λhc0=>?_);refine Da (Ba (Xf O) (Ba (Gb O) (Ca ?_)));refine Xa (Va (Ka (Jc (v:=I []) (x:=J 1) O O O) ?_));exact⟨by rw[if_neg (by simpa using hc0)],hF.same⟩;refine Na (Ga (Da ?_));refine Gc (cs:=#[.pointer none,aQ,.bool false,J 0]) hF zeroValue125 O ?_;rintro b2 w hb2 hF -;refine Ob (Ia (v:=.agg (List.toArray cs)) (Za (l:=cs) aZ oZ O hl (hF.cellsAll 1 O)) ?_);have hB:BW w0 [] w b2 b2 125 [.bool false,J ((0:Nat):Int)] []:=BW.own ⟨.inr ⟨rfl,_,_,rfl⟩,gQ _,_,_,hF.heap (i:=0) rfl,World.ownsRow_nil _ _ _ _,.inl rfl⟩ (hF.ge (i:=0) rfl) hF.same.size;have nb1:b1≠b2:=RO hF.desc (i:=1) (j:=0) rfl rfl Oa;have hge:=hF.ge (i:=0) rfl;have hF:FR w0 [] [(b1,.cells cs.toArray 36)] w:=hF.drop 1;have hXo:Rep (λb=>b∉Wk w b2 b2) w (Jb x) cs:=(rx.old.same hF.same La).weaken λb hb _ hm=>by have h1:=hb.2;rcases Jg.1 hm with rfl|⟨-,h2,-⟩ <;> omega
 refine Ta (value_c x false 0 0 _ b2 b2 [] cs hB.bd (hG.ext hF.same) (by have:=hG.size;omega) hXo hq (ST (by simpa using hc0)) Aa (by have:=C2 (x:=x) (by simpa using hc0);omega) (by simpa using hlim (by simpa using hc0))) (De KB O O O O) ?_;rintro _ w ⟨rfl,hBd2,hE⟩;have hF:=hF.wrote hB hE (by simp[Fk,nb1]);have hB:=hB.wrote hBd2 hE;clear hBd2 hE;refine Ob (Ba (Rb Zi O) ?_);refine Ta (Z5 hB.bd (by simpa using valS_ne false 0 x 0 (by simpa using hc0))) (Ma ME O O) ?_;rintro _ w ⟨rfl,hE⟩;have hF:=hF.wrote hB hE (by simp[Fk,nb1]);refine Ba (Xf O) (Ba (Gb O) (Ca ?_));refine Xa (Va (Ka (Jc (v:=I ([]++Wc false 0 x 0)) (x:=J 0) O O O) ?_));exact⟨by rw[if_pos (by simpa using hc0)];rfl,hF.same⟩
end Go.Scarf
