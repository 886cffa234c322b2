/- A part of the proof. -/
import Derived.Test.YthhhbkkelnaekaaGreatDoorFacts
import Derived.Test.YthhhbkkelnaekaaGreatDoorNum
import Derived.Lib.AppendStr
import Derived.Lib.Builder
import Derived.Lib.UnsafeStr
import Derived.LaidEqlPtr
import Derived.Test.YthhhbkkelnaekaaGreatDoorShelf
import Derived.Lib.RuneBytes
import Derived.Test.YthhhbkkelnaekaaGreatDoorW19
import Derived.Laws.BytesString
import Derived.Test.YthhhbkkelnaekaaGreatDoorW2
import Derived.Lib.TrimU
set_option linter.all false
set_option maxHeartbeats 8000000
set_option maxRecDepth 10000
namespace Go.Scarf
open Go.RowKit Go.Proofs Go.Proofs.Tryz
section
variable {P:Program} {w w' w0:World} {Ds E:List Nat} {bs_:List (Nat × Obj)}
def Dl:Obj→Bool
  | .cells _ e _=>e == 5
  | _=>false
def Tt (w:World) (b:Nat):Bool:=match w.heap[b]? with | some o=>Dl o | none=>false
def Wk (w:World) (B pb:Nat):List Nat:=pb::(List.range w.heap.size).filter fun b=>decide (B≤b) && Tt w b
theorem Mh {B pb x:Nat}:x∈Wk w B pb↔x=pb∨(x < w.heap.size∧B≤x∧Tt w x=true):=by simp [Wk]
theorem Vt {b:Nat} {o:Obj} (h:w.heap[b]? = some o):Tt w b=Dl o:=by simp [Tt,h]
def Shp (T:Nat) (rest:List Value):Prop:=(T=160∧rest=[])∨(T=162∧∃ m i,rest=[.bool m,.int .i64 i])
theorem Shp.ne {T:Nat} {rest:List Value} (h:Shp T rest):(T == 5)=false:=by rcases h with ⟨rfl,-⟩ | ⟨rfl,-⟩ <;> rfl
structure Bd (w:World) (B pb T:Nat) (rest:List Value) (s:Str):Prop where
  shp:Shp T rest
  le:B≤pb
  ex:∃ ap v,w.heap[pb]? = some (.cells (ap::v::rest).toArray T)∧w.ownsRow B 5 1 v s.length (Lib.byteCells s)∧(ap=.pointer none∨ap=.pointer (some ⟨pb,0,none⟩))
theorem Bd.lt {B pb T:Nat} {rest:List Value} {s:Str} (h:Bd w B pb T rest s):pb < w.heap.size:=by
  obtain ⟨ap,v,hh,-⟩:=h.ex; exact Ra hh
theorem Bd.base {B pb T:Nat} {rest:List Value} {s:Str} (h:Bd w B pb T rest s):B≤w.heap.size:=Nat.le_trans h.le (Nat.le_of_lt h.lt)
theorem Ko {B n g:Nat} {v:Value} {xs:List Value} (h:w.ownsRow B 5 1 v n xs) (hg:v.ownBlock=some g):g < w.heap.size∧B≤g∧Tt w g=true:=by
  rcases h.2 with ⟨rfl,-⟩ | ⟨g',cap,cur,rfl,h1,h2,-⟩
  · cases hg
  · cases hg
    exact ⟨Ra h2,h1,by rw [Vt h2]; rfl⟩
theorem F8 {B n g pb:Nat} {v:Value} {xs:List Value} (h:w.ownsRow B 5 1 v n xs) (hg:v.ownBlock=some g):g∈Wk w B pb:=Mh.2 (.inr (Ko h hg))
theorem Ms {B n g pb:Nat} {v:Value} {xs:List Value} {o:Obj} (h:w.ownsRow B 5 1 v n xs) (hg:v.ownBlock=some g) (hh:w.heap[pb]? = some o) (ho:Dl o=false):g≠pb:=by
  rintro rfl
  have h1:=(Ko h hg).2.2
  rw [Vt hh,ho] at h1; cases h1
theorem Rj {B n:Nat} {v:Value} {xs:List Value} (h:w.ownsRow B 5 1 v n xs) (hs:Same E w w') (he:∀ g,v.ownBlock=some g→g∉E):w'.ownsRow B 5 1 v n xs:=by
  refine ⟨h.1,?_⟩
  rcases h.2 with h2 | ⟨g,cap,cur,rfl,h1,h2,h3⟩
  · exact .inl h2
  · exact .inr ⟨g,cap,cur,O,h1,(hs.block g (Ra h2) (he g O)).trans h2,h3⟩
theorem Fi {B n:Nat} {v:Value} {xs:List Value} (h:w.ownsRow B 5 1 v n xs):∃ A c,v=.slice A n c:=by
  rcases h.2 with ⟨rfl,rfl⟩ | ⟨g,cap,cur,rfl,-⟩
  · exact ⟨_,_,O⟩
  · exact ⟨_,_,O⟩
theorem Wk.step {B pb x:Nat} (hs:Same (Wk w B pb) w w') (hx:x∈Wk w' B pb):x∈Wk w B pb∨w.heap.size≤x:=by
  by_cases h:x < w.heap.size
  · by_cases hm : x ∈ Wk w B pb
    · exact .inl hm
    · rcases Mh.1 hx with rfl | ⟨h1, h2, h3⟩
      · exact .inl (Mh.2 (.inl O))
      · refine absurd (Mh.2 (.inr ⟨h, h2, ?_⟩)) hm
        rw [Tt,←hs.block x h hm]; exact h3
  · exact .inr U
theorem FR.grown {g:Option Nat} (h:FR w0 Ds bs_ w) (hg:w.grownBy w' g) (hr:∀ b,g=some b→(b < w0.heap.size→b∈Ds)∧∀ p∈bs_,p.1≠b):FR w0 Ds bs_ w':=by
  have hs:Same g.toList w w':=⟨hg.os,hg.tape,hg.output,hg.size,fun b hb hn=>hg.block b hb (fun e=>hn (by simp [←e]))⟩
  exact h.touch hs (fun b hb=>hr b (by simpa using hb))
theorem Wo (s t:Str):Lib.byteCells (s++t)=Lib.byteCells s++Lib.byteCells t:=Lib.byteCells_append s t
end
section
variable {P:Program} {w:World} {ρ:Operand→Value} {dst:Option Nat} {ty:TypeId} {pos:String} {aft:Array Edge} {g:Option (Nat × Bool)}
theorem HG {t t' te:Nat} {x y:Operand} (ht:P.underlying t=some (.pointer te)) (hx:ρ x=.pointer none) (hy:ρ y=.pointer none) :
    (execOp ρ ⟨dst,.binOp .eql t x y t',ty,pos,aft,g⟩).run P w=.ok (.value (.bool true)) w:=by
  have h:∀ d:Nat,(Op.equalIn (d+1) t (.pointer none) (.pointer none)).run P w=.ok true w:=fun d=>by
    simp [Op.equalIn,run_underlying ht]
  have hg:(eqGuard .eql t x y (.pointer none) (.pointer none)).run P w=.ok () w:=by unfold eqGuard; split <;> simp
  simp only [execOp,hx,hy,Sem.run_bind,hg,Result.andThen_ok,binOp]
  simp [Op.equal,Op.maxDepth,h 9999]
theorem MI {t t' te:Nat} {x y:Operand} {a:Addr} (ht:P.underlying t=some (.pointer te)) (hx:ρ x=.pointer (some a)) (hy:ρ y=.pointer none) :
    (execOp ρ ⟨dst,.binOp .eql t x y t',ty,pos,aft,g⟩).run P w=.ok (.value (.bool false)) w:=by
  have h:∀ d:Nat,(Op.equalIn (d+1) t (.pointer (some a)) (.pointer none)).run P w=.ok false w:=fun d=>by
    simp [Op.equalIn,run_underlying ht]
  have hg:(eqGuard .eql t x y (.pointer (some a)) (.pointer none)).run P w=.ok () w:=by unfold eqGuard; split <;> simp
  simp only [execOp,hx,hy,Sem.run_bind,hg,Result.andThen_ok,binOp]
  simp [Op.equal,Op.maxDepth,h 9999]
theorem MO {t t' te:Nat} {x y:Operand} {a:Addr} {j:TypeInfo} (ht:P.underlying t=some (.pointer te)) (hte:P.info? te=some j) (hx:ρ x=.pointer (some a)) (hy:ρ y=.pointer (some a)) :
    (execOp ρ ⟨dst,.binOp .neq t x y t',ty,pos,aft,g⟩).run P w=.ok (.value (.bool false)) w:=by
  have h:=Lib.run_neq_ptr_same w a ht hte
  have hg:(eqGuard .neq t x y (.pointer (some a)) (.pointer (some a))).run P w=.ok () w:=by unfold eqGuard; split <;> simp
  simp only [execOp,hx,hy,Sem.run_bind,hg,Result.andThen_ok,h,Sem.run_pure]
theorem H1 {t t':Nat} {x:Operand} {v:Value} (hx:ρ x=v) (h:(convert t t' v).run P w=.ok v w):(execOp ρ ⟨dst,.convert t t' x,ty,pos,aft,g⟩).run P w=.ok (.value v) w:=by
  simp [execOp,hx,h]
theorem GL {f:FuncId} {fn:Func} {e:Array Value→Sem Value} {x1:Operand} {ats:Array TypeId} {v1 v:Value} (hf:P.funcs[f]? = some fn) (hname:(fn.name == "runtime.NumGoroutine")=false)
    (hb:fn.body.isNone=true) (hn:Extern.findNext fn=none) (he:Extern.find fn=some e) (h0:ρ (.func f)=.func (.func f) #[] #[]) (h1:ρ x1=v1) (hr:(e #[v1]).run P w=.ok v w) :
    (execOp ρ ⟨dst,.call ⟨.value (.func f),#[x1],ats⟩,ty,pos,aft,g⟩).run P w=.ok (.value v) w:=by
  simp [execOp,resolve,Deferred.ofValue,h0,h1,invoke,run_callFunc_extern hf hname hb hn he,hr]
theorem GT {x:Operand} {ats:Array TypeId} {a:Addr} {n c:Nat} (hx:ρ x=.slice (some a) n c) (hc:c≠0):(execOp ρ ⟨dst,.call ⟨.builtin .unsafeSliceData,#[x],ats⟩,ty,pos,aft,g⟩).run P w=.ok (.value (.pointer (some a))) w:=by
  simp [execOp,resolve,invoke,builtin,hx,Lib.run_unsafeSliceData_row w ats ty a n c hc]
theorem CU {x y:Operand} {t1 t2:Nat} {u v r:Value} {w':World} (hx:ρ x=u) (hy:ρ y=v) (h:(Builtin.unsafeString_ #[t1,t2] ty #[u,v]).run P w=.ok r w'):(execOp ρ ⟨dst,.call ⟨.builtin .unsafeString,#[x,y],#[t1,t2]⟩,ty,pos,aft,g⟩).run P w=.ok (.value r) w':=by
  simp [execOp,resolve,invoke,builtin,hx,hy,h]
theorem L6 {x y:Operand} {t1 t2:TypeId} {u v:Value} {r:Value} {w':World} (hx:ρ x=u) (hy:ρ y=v) (h:(Builtin.append_ #[t1,t2] ty #[u,v]).run P w=.ok r w') :
    (execOp ρ ⟨dst,.call ⟨.builtin .append,#[x,y],#[t1,t2]⟩,ty,pos,aft,g⟩).run P w=.ok (.value r) w':=by
  simp [execOp,resolve,invoke,builtin,hx,hy,h]
end
section
variable {P:Program} {R:Exit→Act→World→Prop} {n:Nat} {kt:Kt} {s:Nat→Value} {w:World} {ops rest:List Oper}
variable {d:Nat} {ty:TypeId} {pos:String} {aft:Array Edge} {g:Option (Nat × Bool)}
variable {w0:World} {Ds:List Nat} {bs_:List (Nat × Obj)}
theorem YN {x y:Operand} {t B len c2 k:Nat} {v:Value} {xs news:List Value} {a:Addr} (hE:Elems P t 5 1 1)
    (hF:FR w0 Ds bs_ w) (hO:w.ownsRow B 5 1 v len xs) (hB:B≤w.heap.size) (hx:ev n s x=v) (hy:ev n s y=.slice (some a) k c2)
    (hl:news.length=k * 1) (hnews:∀ j u,news[j]? = some u→w.cell? (a.add j)=some u) (h1:∀ u∈news,u.oneCell'=true) (hb:len+k≤140737488355328)
    (hr:∀ b,v.ownBlock=some b→(b < w0.heap.size→b∈Ds)∧∀ p∈bs_,p.1≠b)
    (h:∀ v' w',w'.ownsRow B 5 1 v' (len+k) (xs++news)→FR w0 Ds bs_ w'→w.heap.size≤w'.heap.size→Og P R n ops kt rest (Xi s d v') w')
    (hw:Kc ops n s ⟨some d,.call ⟨.builtin .append,#[x,y],#[t,t]⟩,ty,pos,aft,g⟩=true:=by rfl):Og P R n ops kt (⟨some d,.call ⟨.builtin .append,#[x,y],#[t,t]⟩,ty,pos,aft,g⟩::rest) s w:=by
  obtain ⟨i,z,hi,hz,h2,h3,h4⟩:=hE.info
  obtain ⟨v',w',hr',hO',hg,-⟩:=run_append_own (P:=P) w B t ty 5 i z 1 1 hE.ht hi hz h2 h3 h4 Ua v len xs hO a k c2 news hl hnews h1 (by unfold maxLen; omega) U hB
  exact Ja (Bx hx hy hr') (h v' w' hO' (hF.grown hg hr) hg.size) hw
theorem QO {x y:Operand} {t u B len:Nat} {v:Value} {xs:List Value} {str:Str} (hE:Elems P t 5 1 1) (hz0:(P.info? 5).map (·.zero)=some (some (.int .u8 0))) (hu:P.underlying u=some .string)
    (hF:FR w0 Ds bs_ w) (hO:w.ownsRow B 5 1 v len xs) (hB:B≤w.heap.size) (hx:ev n s x=v) (hy:ev n s y=.string (bs str)) (hb:len+str.length≤140737488355328)
    (hr:∀ b,v.ownBlock=some b→(b < w0.heap.size→b∈Ds)∧∀ p∈bs_,p.1≠b)
    (h:∀ v' w',w'.ownsRow B 5 1 v' (len+str.length) (xs++Lib.byteCells str)→FR w0 Ds bs_ w'→w.heap.size≤w'.heap.size→Og P R n ops kt rest (Xi s d v') w')
    (hw:Kc ops n s ⟨some d,.call ⟨.builtin .append,#[x,y],#[t,u]⟩,ty,pos,aft,g⟩=true:=by rfl):Og P R n ops kt (⟨some d,.call ⟨.builtin .append,#[x,y],#[t,u]⟩,ty,pos,aft,g⟩::rest) s w:=by
  obtain ⟨i,z,hi,hz,h2,h3,h4⟩:=hE.info
  rw [hi] at hz0
  have hz1:i.zero=some (.int .u8 0):=by simpa using hz0
  have e:(bs str).size=str.length:=Ro str
  obtain ⟨v',w',hr',hO',hg,-⟩:=Lib.run_append_own_string (P:=P) w B t u ty 5 i hE.ht hu hi hz1 h2 h3 v len xs hO (bs str) (by rw [e]; unfold maxLen; omega) (by rw [e]; omega) hB
  rw [e] at hO'
  exact Ja (L6 hx hy hr') (h v' w' (by simpa [Lib.strCells_eq,Hn,bs] using hO') (hF.grown hg hr) hg.size) hw
end
end Go.Scarf
namespace Go.Scarf
open Go.RowKit Go.Proofs Go.Proofs.Tryz
theorem MM:liesAt prog prog.depth 160 (2 / prog.cellsOf 160) 0 160 1=true:=by kernel_rfl
theorem OM:liesAt prog prog.depth 162 (4 / prog.cellsOf 162) 0 160 1=true:=by kernel_rfl
theorem Kw:(prog.info? 160).map (·.size)=some 2:=by kernel_rfl
theorem H8 (w0:World) (pb:Nat) (v:Value) (hh:w0.heap[pb]? = some (.cells #[.pointer none,v] 160)):Calls prog 176 #[.pointer (some ⟨pb,0,none⟩)] w0 (De fun v_ w'=>v_=.tuple #[]∧Same [pb] w0 w'∧w'.heap[pb]? = some (.cells #[.pointer (some ⟨pb,0,none⟩),v] 160)):=by
 obtain ⟨j,hj,hjs⟩:=Option.map_eq_some_iff.1 Kw
 have hne:pb < w0.heap.size:=Ra hh
 refine Ka func176 O ntmps176 Kb (Sc _) ?_
 have hF:FR w0 [pb] [(pb,.cells #[.pointer none,v] 160)] w0:=FR.open_ (by simpa using hh) Ma
 refine Ia (Ca (Ue O) (Ca (Gg O) (Ca (Ec Do O) (Tc (TQ isAgg158 O hF.F 0 O O) (Ja (v:=.bool true) (HG underlying158 O O) (Ea (Ae O (Fa (Ca (Ue O) (Ca (Ue O) ?_))))))))))
 refine Ja (v:=.pointer (some ⟨pb,0,none⟩)) (H1 O (Lib.run_to_unsafe _ ⟨pb,0,none⟩ underlying158 underlying233 hj (by rw [hjs]; decide) (e:=160) (cells:=2) (by simp [World.shape?,hF.heap (i:=0) O]) (Nat.zero_lt_succ _))) ?_
 refine Ja (v:=.pointer (some ⟨pb,0,none⟩)) (GL func206 Qb Qb Qb (e:=Extern.AbiNoEscape.same) Qb O O (Lib.run_noEscape _ _)) ?_
 refine Ja (v:=.pointer (some ⟨pb,0,none⟩)) (H1 O (Lib.run_from_unsafe _ ⟨pb,0,none⟩ underlying233 underlying158 hj (e:=160) (cells:=2) (by simp [World.shape?,hF.heap (i:=0) O]) MM)) ?_
 refine Ca (Gg O) (Ca (Ec Do O) ?_)
 refine Mq (.pointer _) hF sizeOf158 O O Vm Vm ?_
 clear hF; rintro w hF -
 refine Xa ?_
 refine Sf (Wd (Ih O) ?_)
 exact ⟨O,hF.same,hF.heap (i:=0) O⟩
theorem O8 (w0:World) (pb:Nat) (v:Value) (m:Bool) (i:Int) (hh:w0.heap[pb]? = some (.cells #[.pointer none,v,.bool (m),.int .i64 i] 162)):Calls prog 176 #[.pointer (some ⟨pb,0,none⟩)] w0 (De fun v_ w'=>v_=.tuple #[]∧Same [pb] w0 w'∧w'.heap[pb]? = some (.cells #[.pointer (some ⟨pb,0,none⟩),v,.bool (m),.int .i64 i] 162)):=by
 obtain ⟨j,hj,hjs⟩:=Option.map_eq_some_iff.1 Kw
 have hne:pb < w0.heap.size:=Ra hh
 refine Ka func176 O ntmps176 Kb (Sc _) ?_
 have hF:FR w0 [pb] [(pb,.cells #[.pointer none,v,.bool (m),.int .i64 i] 162)] w0:=FR.open_ (by simpa using hh) Ma
 refine Ia (Ca (Ue O) (Ca (Gg O) (Ca (Ec Do O) (Tc (TQ isAgg158 O hF.F 0 O O) (Ja (v:=.bool true) (HG underlying158 O O) (Ea (Ae O (Fa (Ca (Ue O) (Ca (Ue O) ?_))))))))))
 refine Ja (v:=.pointer (some ⟨pb,0,none⟩)) (H1 O (Lib.run_to_unsafe _ ⟨pb,0,none⟩ underlying158 underlying233 hj (by rw [hjs]; decide) (e:=162) (cells:=4) (by simp [World.shape?,hF.heap (i:=0) O]) (Nat.zero_lt_succ _))) ?_
 refine Ja (v:=.pointer (some ⟨pb,0,none⟩)) (GL func206 Qb Qb Qb (e:=Extern.AbiNoEscape.same) Qb O O (Lib.run_noEscape _ _)) ?_
 refine Ja (v:=.pointer (some ⟨pb,0,none⟩)) (H1 O (Lib.run_from_unsafe _ ⟨pb,0,none⟩ underlying233 underlying158 hj (e:=162) (cells:=4) (by simp [World.shape?,hF.heap (i:=0) O]) OM)) ?_
 refine Ca (Gg O) (Ca (Ec Do O) ?_)
 refine Mq (.pointer _) hF sizeOf158 O O Vm Vm ?_
 clear hF; rintro w hF -
 refine Xa ?_
 refine Sf (Wd (Ih O) ?_)
 exact ⟨O,hF.same,hF.heap (i:=0) O⟩
theorem H_ (w0:World) (pb:Nat) (v:Value) (hh:w0.heap[pb]? = some (.cells #[.pointer (some ⟨pb,0,none⟩),v] 160)):Calls prog 176 #[.pointer (some ⟨pb,0,none⟩)] w0 (De fun v_ w'=>v_=.tuple #[]∧Same [pb] w0 w'∧w'.heap[pb]? = some (.cells #[.pointer (some ⟨pb,0,none⟩),v] 160)):=by
 obtain ⟨j,hj,hjs⟩:=Option.map_eq_some_iff.1 Kw
 have hne:pb < w0.heap.size:=Ra hh
 refine Ka func176 O ntmps176 Kb (Sc _) ?_
 have hF:FR w0 [pb] [(pb,.cells #[.pointer (some ⟨pb,0,none⟩),v] 160)] w0:=FR.open_ (by simpa using hh) Ma
 refine Ia (Ca (Ue O) (Ca (Gg O) (Ca (Ec Do O) (Tc (TQ isAgg158 O hF.F 0 O O) (Ja (v:=.bool false) (MI underlying158 O O) (Ea (Ie O (Ia (Ca (Ue O) (Ca (Gg O) ?_))))))))))
 refine Ca (Ec Do O) (Tc (TQ isAgg158 O hF.F 0 O O) (Ca (Ue O) (Ja (v:=.bool false) (MO underlying158 hj O O) (Ea (Ie O (Qa ?_))))))
 refine Sf (Wd (Ih O) ?_)
 exact ⟨O,hF.same,hF.heap (i:=0) O⟩
theorem R9 (w0:World) (pb:Nat) (v:Value) (m:Bool) (i:Int) (hh:w0.heap[pb]? = some (.cells #[.pointer (some ⟨pb,0,none⟩),v,.bool (m),.int .i64 i] 162)):Calls prog 176 #[.pointer (some ⟨pb,0,none⟩)] w0 (De fun v_ w'=>v_=.tuple #[]∧Same [pb] w0 w'∧w'.heap[pb]? = some (.cells #[.pointer (some ⟨pb,0,none⟩),v,.bool (m),.int .i64 i] 162)):=by
 obtain ⟨j,hj,hjs⟩:=Option.map_eq_some_iff.1 Kw
 have hne:pb < w0.heap.size:=Ra hh
 refine Ka func176 O ntmps176 Kb (Sc _) ?_
 have hF:FR w0 [pb] [(pb,.cells #[.pointer (some ⟨pb,0,none⟩),v,.bool (m),.int .i64 i] 162)] w0:=FR.open_ (by simpa using hh) Ma
 refine Ia (Ca (Ue O) (Ca (Gg O) (Ca (Ec Do O) (Tc (TQ isAgg158 O hF.F 0 O O) (Ja (v:=.bool false) (MI underlying158 O O) (Ea (Ie O (Ia (Ca (Ue O) (Ca (Gg O) ?_))))))))))
 refine Ca (Ec Do O) (Tc (TQ isAgg158 O hF.F 0 O O) (Ca (Ue O) (Ja (v:=.bool false) (MO underlying158 hj O O) (Ea (Ie O (Qa ?_))))))
 refine Sf (Wd (Ih O) ?_)
 exact ⟨O,hF.same,hF.heap (i:=0) O⟩
theorem Bm {w0:World} {B pb T:Nat} {rest:List Value} {s:Str} (h:Bd w0 B pb T rest s) :
    ∃ v, w0.ownsRow B 5 1 v s.length (Lib.byteCells s) ∧ (∀ g, v.ownBlock = some g → g ∈ Wk w0 B pb ∧ g ≠ pb) ∧
      Calls prog 176 #[.pointer (some ⟨pb,0,none⟩)] w0 (De fun u w'=>u=.tuple #[]∧Same [pb] w0 w'∧w'.heap[pb]? = some (.cells (.pointer (some ⟨pb,0,none⟩)::v::rest).toArray T)∧w'.ownsRow B 5 1 v s.length (Lib.byteCells s)):=by
  obtain ⟨hs,hle,ap,v,hh,hO,ha⟩:=h
  have hne:∀ g,v.ownBlock=some g→g≠pb:=fun g hg=>Ms hO hg hh (by exact hs.ne)
  refine ⟨v,hO,fun g hg=>⟨F8 hO hg,hne g hg⟩,?_⟩
  have fin:∀ {u:Value} {w':World},(u=.tuple #[]∧Same [pb] w0 w'∧w'.heap[pb]? = some (.cells (.pointer (some ⟨pb,0,none⟩)::v::rest).toArray T))→(u=.tuple #[]∧Same [pb] w0 w'∧w'.heap[pb]? = some (.cells (.pointer (some ⟨pb,0,none⟩)::v::rest).toArray T)∧w'.ownsRow B 5 1 v s.length (Lib.byteCells s)) :=
    fun ⟨h1,h2,h3⟩=>⟨h1,h2,h3,Rj hO h2 (fun g hg=>by simpa using hne g hg)⟩
  rcases hs with ⟨rfl,rfl⟩ | ⟨rfl,m,i,rfl⟩ <;> rcases ha with rfl | rfl
  · exact Bi (H8 w0 pb v hh) fun _ _=>fin
  · exact Bi (H_ w0 pb v hh) fun _ _=>fin
  · exact Bi (O8 w0 pb v m i hh) fun _ _=>fin
  · exact Bi (R9 w0 pb v m i hh) fun _ _=>fin
end Go.Scarf
namespace Go.Scarf
open Go.RowKit Go.Proofs Go.Proofs.Tryz
theorem V6:(prog.info? 5).map (·.zero)=some (some (.int .u8 0)):=by kernel_rfl
theorem FR.addD {w0 w:World} {Ds:List Nat} {bs_:List (Nat × Obj)} {b:Nat} {o:Obj} (h:FR w0 Ds bs_ w) (hh:w.heap[b]? = some o) (hd:w0.heap.size≤b∨b∈Ds) (hn:∀ p∈bs_,p.1≠b):FR w0 Ds ((b,o)::bs_) w :=
  ⟨h.same,fun p hp=>by
    rcases List.mem_cons.1 hp with rfl | hp
    · exact ⟨hh,hd⟩
    · exact h.own p hp,List.pairwise_cons.2 ⟨fun q hq=>hn q hq,h.desc⟩⟩
def Ij (r:Int):Str:=(Lib.encodeRuneZ r).map fun x=>UInt8.ofNat x.toNat
theorem Ks (r:Int):1≤(Ij r).length∧(Ij r).length≤4:=by rw [Ij,List.length_map]; exact Lib.encodeRuneZ_length r
theorem Kj (r:Int):Lib.byteCells (Ij r)=Lib.runeCells r:=by
  rw [Ij,Lib.byteCells,Lib.runeCells,List.map_map]
  refine List.map_congr_left fun x hx=>?_
  have:=Lib.encodeRuneZ_byte r x hx
  simp only [Function.comp_apply,Value.int.injEq,true_and,UInt8.toNat_ofNat']
  omega
theorem Qx {w:World} {B n:Nat} {v:Value} {xs:List Value} {r:Int} (hO:w.ownsRow B 5 1 v n xs) (h0:-2147483648≤r) (h1:r≤2147483647) (hn:n+4≤140737488355328) (hB:B≤w.heap.size) :
    Calls prog 225 #[v,.int .i32 r] w (De fun v' w'=>w'.ownsRow B 5 1 v' (n+(Ij r).length) (xs++Lib.byteCells (Ij r))∧∃ o,(w.alloc o).grownBy w' v.ownBlock):=by
  refine (utf8_AppendRune_plain B v n xs r h0 h1 w hO hn hB).mono fun e w' ⟨v',he,h2,h3⟩=>⟨v',he,?_,h3⟩
  have e1:(Ij r).length=(Lib.runeCells r).length:=by rw [←Kj,Lib.byteCells_length]
  rw [e1,Kj]; exact h2
def Gw (f:Nat) (args:Array Value) (u:Value) (w0:World) (B pb T:Nat) (rest:List Value) (s:Str):Prop :=
  Calls prog f args w0 (De fun v w'=>v=u∧Bd w' B pb T rest s∧Same (Wk w0 B pb) w0 w')
theorem AC (w0:World) (B pb:Nat) (s:Str) (hB:Bd w0 B pb 160 [] s) (c:UInt8) (hl:s.length+1≤140737488355328):Gw 184 #[.pointer (some ⟨pb,0,none⟩),.int .u8 ((c.toNat:Nat):Int)] .nilIface w0 B pb 160 [] (s++[c]):=by
 unfold Gw
 refine Ka func184 O ntmps184 Kb (Ee _ _) ?_
 obtain ⟨v,hO0,hv,hC⟩:=Bm hB
 have hle:=hB.le
 have hBw:=hB.base
 have hlt:=hB.lt
 have hws:=Nat.le_refl w0.heap.size
 have hvl:∀ g,v.ownBlock=some g→g < w0.heap.size:=fun g hg=>(Ko hO0 hg).1
 obtain ⟨A1,c1,rfl⟩:=Fi hO0
 have hF:=FR.start w0 (Wk w0 B pb)
 refine Ia (Ca (S1) (Bc (Ca (Ue O) ?_)))
 refine Pb hC (Cb Fy O O) ?_
 rintro _ w ⟨rfl,hE,hh,hO⟩
 replace hws:=Nat.le_trans hws hE.size
 replace hBw:=Nat.le_trans hBw hE.size
 replace hF:FR w0 (Wk w0 B pb) [(pb,.cells #[.pointer (some ⟨pb,0,none⟩),.slice A1 s.length c1] 160)] w:=(hF.touch hE (fun b hb=>by obtain rfl:=List.mem_singleton.1 hb; exact ⟨fun _=>Mh.2 (.inl rfl),by simp⟩)).addD hh (.inr (Mh.2 (.inl rfl))) Ma
 clear hE hh
 refine Bc (Ca (Ue O) (Ca (Ue O) (Ca (Gg O) (Ca (Ec Yf O) (Tc (Mf isAgg145 O hF.F 0 O O) (Ca (Va O) ?_))))))
 refine Pe 1 hF (Za (cs:=#[.int .u8 ((c.toNat:Nat))]) underlying145 sizeOf5 zeroValue5 Ua Ua Qb) ?_
 clear hF; intro b1 w hb1 hF hE
 have nb1:w0.heap.size≤b1:=by rw [hb1]; exact hws
 replace hws:=Nat.le_trans hws hE.size
 replace hBw:=Nat.le_trans hBw hE.size
 replace hO:=Rj hO hE Ma
 clear hE
 refine YN (news:=[.int .u8 ((c.toNat:Nat):Int)]) Hm hF hO hBw rfl rfl rfl (Xb (hF.cellsAll 0 rfl)) (by simp [Value.oneCell']) U (fun b hb=>⟨fun _=>(hv b hb).1,by have h1:=(hv b hb).2; have h2:=hvl b hb; intro p hp; simp only [List.mem_cons,List.not_mem_nil,or_false] at hp; rcases hp with rfl | rfl <;> grind⟩) ?_
 clear hF hO; intro v2 w hO hF hsz
 replace hws:=Nat.le_trans hws hsz
 replace hBw:=Nat.le_trans hBw hsz
 have hne2:∀ g,v2.ownBlock=some g→g≠pb:=fun g hg=>Ms hO hg (hF.heap (i:=1) rfl) rfl
 obtain ⟨A2,c2,rfl⟩:=Fi hO
 clear hsz
 refine Ca (Gg O) (Ca (Ec Yf O) ?_)
 refine Mq (.slice _ _ _) hF sizeOf145 O O I5 I5 ?_
 clear hF; intro w hF hE
 replace hws:=Nat.le_trans hws hE.size
 replace hBw:=Nat.le_trans hBw hE.size
 replace hO:=Rj hO hE (fun g hg=>by simpa using hne2 g hg)
 clear hE
 refine Bc (Ca (S1) (Ea ?_))
 refine Td (v:=.nilIface) O O ?_
 exact ⟨O,⟨.inl ⟨O,O⟩,hle,_,_,hF.heap (i:=1) O,by simpa [Wo,Lib.byteCells,Kj] using hO,.inr O⟩,hF.same⟩
theorem C5 (w0:World) (B pb:Nat) (s:Str) (hB:Bd w0 B pb 160 [] s) (t:Str) (hl:s.length+t.length≤140737488355328):Gw 150 #[.pointer (some ⟨pb,0,none⟩),.string (bs t)] (.tuple #[.int .i64 ((t.length:Nat):Int),.nilIface]) w0 B pb 160 [] (s++t):=by
 unfold Gw
 refine Ka func150 O ntmps150 Kb (Ee _ _) ?_
 obtain ⟨v,hO0,hv,hC⟩:=Bm hB
 have hle:=hB.le
 have hBw:=hB.base
 have hlt:=hB.lt
 have hws:=Nat.le_refl w0.heap.size
 have hvl:∀ g,v.ownBlock=some g→g < w0.heap.size:=fun g hg=>(Ko hO0 hg).1
 obtain ⟨A1,c1,rfl⟩:=Fi hO0
 have hF:=FR.start w0 (Wk w0 B pb)
 refine Ia (Ca (Wb O) (Ca (S1) (Bc (Ca (Ue O) ?_))))
 refine Pb hC (Cb Fy O O) ?_
 rintro _ w ⟨rfl,hE,hh,hO⟩
 replace hws:=Nat.le_trans hws hE.size
 replace hBw:=Nat.le_trans hBw hE.size
 replace hF:FR w0 (Wk w0 B pb) [(pb,.cells #[.pointer (some ⟨pb,0,none⟩),.slice A1 s.length c1] 160)] w:=(hF.touch hE (fun b hb=>by obtain rfl:=List.mem_singleton.1 hb; exact ⟨fun _=>Mh.2 (.inl rfl),by simp⟩)).addD hh (.inr (Mh.2 (.inl rfl))) Ma
 clear hE hh
 refine Bc (Ca (Ue O) (Ca (Ue O) (Ca (Gg O) (Ca (Ec Yf O) (Tc (Mf isAgg145 O hF.F 0 O O) (Ca (Qc O) ?_))))))
 refine QO (str:=t) Hm V6 underlying9 hF hO hBw rfl rfl U (fun b hb=>⟨fun _=>(hv b hb).1,by have h1:=(hv b hb).2; have h2:=hvl b hb; intro p hp; simp only [List.mem_cons,List.not_mem_nil,or_false] at hp; rcases hp with rfl <;> grind⟩) ?_
 clear hF hO; intro v2 w hO hF hsz
 replace hws:=Nat.le_trans hws hsz
 replace hBw:=Nat.le_trans hBw hsz
 have hne2:∀ g,v2.ownBlock=some g→g≠pb:=fun g hg=>Ms hO hg (hF.heap (i:=0) rfl) rfl
 obtain ⟨A2,c2,rfl⟩:=Fi hO
 clear hsz
 refine Ca (Gg O) (Ca (Ec Yf O) ?_)
 refine Mq (.slice _ _ _) hF sizeOf145 O O Vm I5 ?_
 clear hF; intro w hF hE
 replace hws:=Nat.le_trans hws hE.size
 replace hBw:=Nat.le_trans hBw hE.size
 replace hO:=Rj hO hE (fun g hg=>by simpa using hne2 g hg)
 clear hE
 refine Bc (Ca (Qc O) (Ca (Xl underlying9 O) (Ca (Wb O) (Ca (S1) (Ea ?_)))))
 refine Ub (Rb (Sa (Ld (v:=.int .i64 ((((t):Str).length:Int))) (x:=.nilIface) O O O) ?_))
 exact ⟨O,⟨.inl ⟨O,O⟩,hle,_,_,hF.heap (i:=0) O,by simpa [Wo,Lib.byteCells,Kj] using hO,.inr O⟩,hF.same⟩
theorem TB (w0:World) (B pb:Nat) (s:Str) (hB:Bd w0 B pb 160 [] s) (r:Int) (hr0:-2147483648≤r) (hr1:r≤2147483647) (hl:s.length+4≤140737488355328):Gw 213 #[.pointer (some ⟨pb,0,none⟩),.int .i32 r] (.tuple #[.int .i64 (((Ij r).length:Nat):Int),.nilIface]) w0 B pb 160 [] (s++Ij r):=by
 unfold Gw
 have hrl:=Ks r
 refine Ka func213 O ntmps213 Kb (Ee _ _) ?_
 obtain ⟨v,hO0,hv,hC⟩:=Bm hB
 have hle:=hB.le
 have hBw:=hB.base
 have hlt:=hB.lt
 have hws:=Nat.le_refl w0.heap.size
 have hvl:∀ g,v.ownBlock=some g→g < w0.heap.size:=fun g hg=>(Ko hO0 hg).1
 obtain ⟨A1,c1,rfl⟩:=Fi hO0
 have hF:=FR.start w0 (Wk w0 B pb)
 refine Ia (Ca (Wb O) (Ca (S1) (Bc (Ca (Ue O) ?_))))
 refine Pb hC (Cb Fy O O) ?_
 rintro _ w ⟨rfl,hE,hh,hO⟩
 replace hws:=Nat.le_trans hws hE.size
 replace hBw:=Nat.le_trans hBw hE.size
 replace hF:FR w0 (Wk w0 B pb) [(pb,.cells #[.pointer (some ⟨pb,0,none⟩),.slice A1 s.length c1] 160)] w:=(hF.touch hE (fun b hb=>by obtain rfl:=List.mem_singleton.1 hb; exact ⟨fun _=>Mh.2 (.inl rfl),by simp⟩)).addD hh (.inr (Mh.2 (.inl rfl))) Ma
 clear hE hh
 refine Bc (Ca (Ue O) (Ca (Gg O) (Ca (Ec Yf O) (Tc (Mf isAgg145 O hF.F 0 O O) (Ca (Df underlying145 O) (Ca (Wb O) (Bc ?_)))))))
 refine Ca (Ue O) (Ca (Ue O) (Ca (Gg O) (Ca (Ec Yf O) (Tc (Mf isAgg145 O hF.F 0 O O) (Ca (Va O) ?_)))))
 refine Pb (Qx hO hr0 hr1 U hBw) (Vb JN O O O) ?_
 rintro v2 w2 ⟨hO2,o,hg⟩
 replace hF:=(hF.ext (Same.alloc _ o)).grown hg (fun b hb=>⟨fun _=>(hv b hb).1,by have h1:=(hv b hb).2; have h2:=hvl b hb; intro p hp; simp only [List.mem_cons,List.not_mem_nil,or_false] at hp; rcases hp with rfl <;> grind⟩)
 have hsz:=Nat.le_trans (Same.alloc _ o).size hg.size
 clear hO hg; revert hsz hF hO2; generalize w2=w; intro hO hF hsz
 replace hws:=Nat.le_trans hws hsz
 replace hBw:=Nat.le_trans hBw hsz
 have hne2:∀ g,v2.ownBlock=some g→g≠pb:=fun g hg=>Ms hO hg (hF.heap (i:=0) rfl) rfl
 obtain ⟨A2,c2,rfl⟩:=Fi hO
 clear hsz
 refine Ca (Gg O) (Ca (Ec Yf O) ?_)
 refine Mq (.slice _ _ _) hF sizeOf145 O O Vm I5 ?_
 clear hF; intro w hF hE
 replace hws:=Nat.le_trans hws hE.size
 replace hBw:=Nat.le_trans hBw hE.size
 replace hO:=Rj hO hE (fun g hg=>by simpa using hne2 g hg)
 clear hE
 refine Bc (Ca (Ue O) (Ca (Gg O) (Ca (Ec Yf O) (Tc (Mf isAgg145 O hF.F 0 O O) (Ca (Df underlying145 O) (Ca (Va O) (Ca (Hw (((Ij r).length:Nat)) O O) (Ca (Wb O) (Ca (S1) (Xa ?_))))))))))
 refine Ga ?_
 refine Ub (Rb (Sa (Ld (v:=.int .i64 (((Ij r).length:Nat))) (x:=.nilIface) O O O) ?_))
 exact ⟨O,⟨.inl ⟨O,O⟩,hle,_,_,hF.heap (i:=0) O,by simpa [Wo,Lib.byteCells,Kj] using hO,.inr O⟩,hF.same⟩
theorem DB (w0:World) (B pb:Nat) (m:Bool) (i:Int) (s:Str) (hB:Bd w0 B pb 162 [.bool (m),.int .i64 i] s) (c:UInt8) (hl:s.length+1≤140737488355328):Gw 184 #[.pointer (some ⟨pb,0,none⟩),.int .u8 ((c.toNat:Nat):Int)] .nilIface w0 B pb 162 [.bool (m),.int .i64 i] (s++[c]):=by
 unfold Gw
 refine Ka func184 O ntmps184 Kb (Ee _ _) ?_
 obtain ⟨v,hO0,hv,hC⟩:=Bm hB
 have hle:=hB.le
 have hBw:=hB.base
 have hlt:=hB.lt
 have hws:=Nat.le_refl w0.heap.size
 have hvl:∀ g,v.ownBlock=some g→g < w0.heap.size:=fun g hg=>(Ko hO0 hg).1
 obtain ⟨A1,c1,rfl⟩:=Fi hO0
 have hF:=FR.start w0 (Wk w0 B pb)
 refine Ia (Ca (S1) (Bc (Ca (Ue O) ?_)))
 refine Pb hC (Cb Fy O O) ?_
 rintro _ w ⟨rfl,hE,hh,hO⟩
 replace hws:=Nat.le_trans hws hE.size
 replace hBw:=Nat.le_trans hBw hE.size
 replace hF:FR w0 (Wk w0 B pb) [(pb,.cells #[.pointer (some ⟨pb,0,none⟩),.slice A1 s.length c1,.bool (m),.int .i64 i] 162)] w:=(hF.touch hE (fun b hb=>by obtain rfl:=List.mem_singleton.1 hb; exact ⟨fun _=>Mh.2 (.inl rfl),by simp⟩)).addD hh (.inr (Mh.2 (.inl rfl))) Ma
 clear hE hh
 refine Bc (Ca (Ue O) (Ca (Ue O) (Ca (Gg O) (Ca (Ec Yf O) (Tc (Mf isAgg145 O hF.F 0 O O) (Ca (Va O) ?_))))))
 refine Pe 1 hF (Za (cs:=#[.int .u8 ((c.toNat:Nat))]) underlying145 sizeOf5 zeroValue5 Ua Ua Qb) ?_
 clear hF; intro b1 w hb1 hF hE
 have nb1:w0.heap.size≤b1:=by rw [hb1]; exact hws
 replace hws:=Nat.le_trans hws hE.size
 replace hBw:=Nat.le_trans hBw hE.size
 replace hO:=Rj hO hE Ma
 clear hE
 refine YN (news:=[.int .u8 ((c.toNat:Nat):Int)]) Hm hF hO hBw rfl rfl rfl (Xb (hF.cellsAll 0 rfl)) (by simp [Value.oneCell']) U (fun b hb=>⟨fun _=>(hv b hb).1,by have h1:=(hv b hb).2; have h2:=hvl b hb; intro p hp; simp only [List.mem_cons,List.not_mem_nil,or_false] at hp; rcases hp with rfl | rfl <;> grind⟩) ?_
 clear hF hO; intro v2 w hO hF hsz
 replace hws:=Nat.le_trans hws hsz
 replace hBw:=Nat.le_trans hBw hsz
 have hne2:∀ g,v2.ownBlock=some g→g≠pb:=fun g hg=>Ms hO hg (hF.heap (i:=1) rfl) rfl
 obtain ⟨A2,c2,rfl⟩:=Fi hO
 clear hsz
 refine Ca (Gg O) (Ca (Ec Yf O) ?_)
 refine Mq (.slice _ _ _) hF sizeOf145 O O I5 I5 ?_
 clear hF; intro w hF hE
 replace hws:=Nat.le_trans hws hE.size
 replace hBw:=Nat.le_trans hBw hE.size
 replace hO:=Rj hO hE (fun g hg=>by simpa using hne2 g hg)
 clear hE
 refine Bc (Ca (S1) (Ea ?_))
 refine Td (v:=.nilIface) O O ?_
 exact ⟨O,⟨.inr ⟨O,m,i,O⟩,hle,_,_,hF.heap (i:=1) O,by simpa [Wo,Lib.byteCells,Kj] using hO,.inr O⟩,hF.same⟩
theorem E5 (w0:World) (B pb:Nat) (m:Bool) (i:Int) (s:Str) (hB:Bd w0 B pb 162 [.bool (m),.int .i64 i] s) (t:Str) (hl:s.length+t.length≤140737488355328):Gw 150 #[.pointer (some ⟨pb,0,none⟩),.string (bs t)] (.tuple #[.int .i64 ((t.length:Nat):Int),.nilIface]) w0 B pb 162 [.bool (m),.int .i64 i] (s++t):=by
 unfold Gw
 refine Ka func150 O ntmps150 Kb (Ee _ _) ?_
 obtain ⟨v,hO0,hv,hC⟩:=Bm hB
 have hle:=hB.le
 have hBw:=hB.base
 have hlt:=hB.lt
 have hws:=Nat.le_refl w0.heap.size
 have hvl:∀ g,v.ownBlock=some g→g < w0.heap.size:=fun g hg=>(Ko hO0 hg).1
 obtain ⟨A1,c1,rfl⟩:=Fi hO0
 have hF:=FR.start w0 (Wk w0 B pb)
 refine Ia (Ca (Wb O) (Ca (S1) (Bc (Ca (Ue O) ?_))))
 refine Pb hC (Cb Fy O O) ?_
 rintro _ w ⟨rfl,hE,hh,hO⟩
 replace hws:=Nat.le_trans hws hE.size
 replace hBw:=Nat.le_trans hBw hE.size
 replace hF:FR w0 (Wk w0 B pb) [(pb,.cells #[.pointer (some ⟨pb,0,none⟩),.slice A1 s.length c1,.bool (m),.int .i64 i] 162)] w:=(hF.touch hE (fun b hb=>by obtain rfl:=List.mem_singleton.1 hb; exact ⟨fun _=>Mh.2 (.inl rfl),by simp⟩)).addD hh (.inr (Mh.2 (.inl rfl))) Ma
 clear hE hh
 refine Bc (Ca (Ue O) (Ca (Ue O) (Ca (Gg O) (Ca (Ec Yf O) (Tc (Mf isAgg145 O hF.F 0 O O) (Ca (Qc O) ?_))))))
 refine QO (str:=t) Hm V6 underlying9 hF hO hBw rfl rfl U (fun b hb=>⟨fun _=>(hv b hb).1,by have h1:=(hv b hb).2; have h2:=hvl b hb; intro p hp; simp only [List.mem_cons,List.not_mem_nil,or_false] at hp; rcases hp with rfl <;> grind⟩) ?_
 clear hF hO; intro v2 w hO hF hsz
 replace hws:=Nat.le_trans hws hsz
 replace hBw:=Nat.le_trans hBw hsz
 have hne2:∀ g,v2.ownBlock=some g→g≠pb:=fun g hg=>Ms hO hg (hF.heap (i:=0) rfl) rfl
 obtain ⟨A2,c2,rfl⟩:=Fi hO
 clear hsz
 refine Ca (Gg O) (Ca (Ec Yf O) ?_)
 refine Mq (.slice _ _ _) hF sizeOf145 O O Vm I5 ?_
 clear hF; intro w hF hE
 replace hws:=Nat.le_trans hws hE.size
 replace hBw:=Nat.le_trans hBw hE.size
 replace hO:=Rj hO hE (fun g hg=>by simpa using hne2 g hg)
 clear hE
 refine Bc (Ca (Qc O) (Ca (Xl underlying9 O) (Ca (Wb O) (Ca (S1) (Ea ?_)))))
 refine Ub (Rb (Sa (Ld (v:=.int .i64 ((((t):Str).length:Int))) (x:=.nilIface) O O O) ?_))
 exact ⟨O,⟨.inr ⟨O,m,i,O⟩,hle,_,_,hF.heap (i:=0) O,by simpa [Wo,Lib.byteCells,Kj] using hO,.inr O⟩,hF.same⟩
theorem BC (w0:World) (B pb:Nat) (m:Bool) (i:Int) (s:Str) (hB:Bd w0 B pb 162 [.bool (m),.int .i64 i] s) (r:Int) (hr0:-2147483648≤r) (hr1:r≤2147483647) (hl:s.length+4≤140737488355328):Gw 213 #[.pointer (some ⟨pb,0,none⟩),.int .i32 r] (.tuple #[.int .i64 (((Ij r).length:Nat):Int),.nilIface]) w0 B pb 162 [.bool (m),.int .i64 i] (s++Ij r):=by
 unfold Gw
 have hrl:=Ks r
 refine Ka func213 O ntmps213 Kb (Ee _ _) ?_
 obtain ⟨v,hO0,hv,hC⟩:=Bm hB
 have hle:=hB.le
 have hBw:=hB.base
 have hlt:=hB.lt
 have hws:=Nat.le_refl w0.heap.size
 have hvl:∀ g,v.ownBlock=some g→g < w0.heap.size:=fun g hg=>(Ko hO0 hg).1
 obtain ⟨A1,c1,rfl⟩:=Fi hO0
 have hF:=FR.start w0 (Wk w0 B pb)
 refine Ia (Ca (Wb O) (Ca (S1) (Bc (Ca (Ue O) ?_))))
 refine Pb hC (Cb Fy O O) ?_
 rintro _ w ⟨rfl,hE,hh,hO⟩
 replace hws:=Nat.le_trans hws hE.size
 replace hBw:=Nat.le_trans hBw hE.size
 replace hF:FR w0 (Wk w0 B pb) [(pb,.cells #[.pointer (some ⟨pb,0,none⟩),.slice A1 s.length c1,.bool (m),.int .i64 i] 162)] w:=(hF.touch hE (fun b hb=>by obtain rfl:=List.mem_singleton.1 hb; exact ⟨fun _=>Mh.2 (.inl rfl),by simp⟩)).addD hh (.inr (Mh.2 (.inl rfl))) Ma
 clear hE hh
 refine Bc (Ca (Ue O) (Ca (Gg O) (Ca (Ec Yf O) (Tc (Mf isAgg145 O hF.F 0 O O) (Ca (Df underlying145 O) (Ca (Wb O) (Bc ?_)))))))
 refine Ca (Ue O) (Ca (Ue O) (Ca (Gg O) (Ca (Ec Yf O) (Tc (Mf isAgg145 O hF.F 0 O O) (Ca (Va O) ?_)))))
 refine Pb (Qx hO hr0 hr1 U hBw) (Vb JN O O O) ?_
 rintro v2 w2 ⟨hO2,o,hg⟩
 replace hF:=(hF.ext (Same.alloc _ o)).grown hg (fun b hb=>⟨fun _=>(hv b hb).1,by have h1:=(hv b hb).2; have h2:=hvl b hb; intro p hp; simp only [List.mem_cons,List.not_mem_nil,or_false] at hp; rcases hp with rfl <;> grind⟩)
 have hsz:=Nat.le_trans (Same.alloc _ o).size hg.size
 clear hO hg; revert hsz hF hO2; generalize w2=w; intro hO hF hsz
 replace hws:=Nat.le_trans hws hsz
 replace hBw:=Nat.le_trans hBw hsz
 have hne2:∀ g,v2.ownBlock=some g→g≠pb:=fun g hg=>Ms hO hg (hF.heap (i:=0) rfl) rfl
 obtain ⟨A2,c2,rfl⟩:=Fi hO
 clear hsz
 refine Ca (Gg O) (Ca (Ec Yf O) ?_)
 refine Mq (.slice _ _ _) hF sizeOf145 O O Vm I5 ?_
 clear hF; intro w hF hE
 replace hws:=Nat.le_trans hws hE.size
 replace hBw:=Nat.le_trans hBw hE.size
 replace hO:=Rj hO hE (fun g hg=>by simpa using hne2 g hg)
 clear hE
 refine Bc (Ca (Ue O) (Ca (Gg O) (Ca (Ec Yf O) (Tc (Mf isAgg145 O hF.F 0 O O) (Ca (Df underlying145 O) (Ca (Va O) (Ca (Hw (((Ij r).length:Nat)) O O) (Ca (Wb O) (Ca (S1) (Xa ?_))))))))))
 refine Ga ?_
 refine Ub (Rb (Sa (Ld (v:=.int .i64 (((Ij r).length:Nat))) (x:=.nilIface) O O O) ?_))
 exact ⟨O,⟨.inr ⟨O,m,i,O⟩,hle,_,_,hF.heap (i:=0) O,by simpa [Wo,Lib.byteCells,Kj] using hO,.inr O⟩,hF.same⟩
end Go.Scarf
namespace Go.Scarf
open Go.RowKit Go.Proofs Go.Proofs.Tryz
theorem R2:prog.cellsOf 5=1:=by kernel_rfl
theorem Same.freeze (w:World) (a:Addr) (n:Nat):Same [a.block] w (w.freeze a n):=by
  have h:=Lib.below_freeze (B:=a.block) (Below.refl a.block w) (p:=a) (Nat.le_refl _) n
  refine ⟨h.os,h.tape,h.output,h.size,fun b hb hn=>?_⟩
  have hn':b≠a.block:=by simpa using hn
  unfold World.freeze
  split
  · rfl
  · simp [Array.getElem?_modify,hn'.symm]
theorem HL (w0:World) (B pb:Nat) (s:Str) (hB:Bd w0 B pb 160 [] s) (h0:s≠[]):Calls prog 124 #[.pointer (some ⟨pb,0,none⟩)] w0 (De fun v w'=>v=.string (bs s)∧Same (Wk w0 B pb) w0 w'):=by
  refine Ka func124 O ntmps124 Kb (Sc _) ?_
  obtain ⟨-,hle,ap,v,hh,hO,-⟩:=hB
  have hsl:s.length≠0:=by simpa using h0
  obtain ⟨g,c1,cur,rfl,hbg,hg,hnc,hcm,hcs,htake⟩:∃ g cap cur,v=.slice (some ⟨g,0,none⟩) s.length cap∧B≤g∧w0.heap[g]? = some (.cells cur 5 (0,0))∧s.length≤cap∧cap≤maxLen∧cur.size=cap * 1∧cur.toList.take (s.length * 1)=Lib.byteCells s:=by
    rcases hO.2 with ⟨_,hz⟩ | ⟨g,cap,cur,hv,r⟩
    · exact absurd hz hsl
    · exact ⟨g,cap,cur,hv,r⟩
  have hgm:g∈Wk w0 B pb:=F8 hO rfl
  have hgn:g≠pb:=Ms hO rfl hh (by rfl)
  have hF:FR w0 (Wk w0 B pb) [(pb,.cells #[ap,.slice (some ⟨g,0,none⟩) s.length c1] 160)] w0:=(FR.start w0 (Wk w0 B pb)).addD hh (.inr (Mh.2 (.inl rfl))) Ma
  refine Ha ?_
  refine Fa ?_
  refine Ca (Rd O) ?_
  refine Xa ?_
  refine Ga ?_
  refine Ha ?_
  refine Uc [] (.free 0 (.free 1 (.free 2 (.free 3 (.free 5 (.free 6 (.free 7 (.free 8 (.free 9 (.act 4 (.act 10 (.free 11 .nil)))))))))))) hF ?_
  clear hF; intro w hF hE
  replace hg:=(hE.block g (Ra hg) Ma).trans hg
  replace hO:=Rj hO hE Ma
  clear hE
  refine ⟨fun wq=>FR w0 (Wk w0 B pb) _ wq,hF,?_⟩
  refine Db O (Ue O) ?_
  refine Db O (Gg O) ?_
  refine Db O (Ec Yf O) ?_
  refine Uk O (Mf isAgg145 O C0 0 O O) ?_
  refine Db O (Ue O) ?_
  refine Db O (Gg O) ?_
  refine Db O (Ec Yf O) ?_
  refine Uk O (Mf isAgg145 O C0 0 O O) ?_
  refine Db O (Df underlying145 O) ?_
  refine Xe O (GT O U) hF ?_
  have hu:(Builtin.unsafeString_ #[196,3] 9 #[.pointer (some ⟨g,0,none⟩),.int .i64 s.length]).run prog w=.ok (.string (bs s)) (w.freeze ⟨g,0,none⟩ s.length):=Lib.run_unsafeString_row w 196 3 9 5 underlying196 R2 g cur.size (by simp [World.shape?,hg]) s h0 U (by simp only [maxLen] at hcm; omega) (fun j x hx=>hO.cells (g:=g) rfl j (.int .u8 x.toNat) (by simp [Lib.byteCells,hx]))
  have hEf:FR w0 (Wk w0 B pb) _ (w.freeze ⟨g,0,none⟩ s.length):=hF.touch (Same.freeze w ⟨g,0,none⟩ s.length) (fun b hb=>by obtain rfl:=List.mem_singleton.1 hb; exact ⟨fun _=>hgm,by simpa using hgn.symm⟩)
  refine Xe O (CU O O hu) hEf ?_
  replace hF:=hEf
  refine Db O (Rd O) ?_
  refine Mc ?_
  refine Ga ?_
  refine Td (v:=.string (bs s)) O O ?_
  exact ⟨O,hF.same⟩
theorem LQ (w0:World) (B pb:Nat) (m:Bool) (i:Int) (s:Str) (hB:Bd w0 B pb 162 [.bool (m),.int .i64 i] s) (h0:s≠[]):Calls prog 124 #[.pointer (some ⟨pb,0,none⟩)] w0 (De fun v w'=>v=.string (bs s)∧Same (Wk w0 B pb) w0 w'):=by
  refine Ka func124 O ntmps124 Kb (Sc _) ?_
  obtain ⟨-,hle,ap,v,hh,hO,-⟩:=hB
  have hsl:s.length≠0:=by simpa using h0
  obtain ⟨g,c1,cur,rfl,hbg,hg,hnc,hcm,hcs,htake⟩:∃ g cap cur,v=.slice (some ⟨g,0,none⟩) s.length cap∧B≤g∧w0.heap[g]? = some (.cells cur 5 (0,0))∧s.length≤cap∧cap≤maxLen∧cur.size=cap * 1∧cur.toList.take (s.length * 1)=Lib.byteCells s:=by
    rcases hO.2 with ⟨_,hz⟩ | ⟨g,cap,cur,hv,r⟩
    · exact absurd hz hsl
    · exact ⟨g,cap,cur,hv,r⟩
  have hgm:g∈Wk w0 B pb:=F8 hO rfl
  have hgn:g≠pb:=Ms hO rfl hh (by rfl)
  have hF:FR w0 (Wk w0 B pb) [(pb,.cells #[ap,.slice (some ⟨g,0,none⟩) s.length c1,.bool (m),.int .i64 i] 162)] w0:=(FR.start w0 (Wk w0 B pb)).addD hh (.inr (Mh.2 (.inl rfl))) Ma
  refine Ha ?_
  refine Fa ?_
  refine Ca (Rd O) ?_
  refine Xa ?_
  refine Ga ?_
  refine Ha ?_
  refine Uc [] (.free 0 (.free 1 (.free 2 (.free 3 (.free 5 (.free 6 (.free 7 (.free 8 (.free 9 (.act 4 (.act 10 (.free 11 .nil)))))))))))) hF ?_
  clear hF; intro w hF hE
  replace hg:=(hE.block g (Ra hg) Ma).trans hg
  replace hO:=Rj hO hE Ma
  clear hE
  refine ⟨fun wq=>FR w0 (Wk w0 B pb) _ wq,hF,?_⟩
  refine Db O (Ue O) ?_
  refine Db O (Gg O) ?_
  refine Db O (Ec Yf O) ?_
  refine Uk O (Mf isAgg145 O C0 0 O O) ?_
  refine Db O (Ue O) ?_
  refine Db O (Gg O) ?_
  refine Db O (Ec Yf O) ?_
  refine Uk O (Mf isAgg145 O C0 0 O O) ?_
  refine Db O (Df underlying145 O) ?_
  refine Xe O (GT O U) hF ?_
  have hu:(Builtin.unsafeString_ #[196,3] 9 #[.pointer (some ⟨g,0,none⟩),.int .i64 s.length]).run prog w=.ok (.string (bs s)) (w.freeze ⟨g,0,none⟩ s.length):=Lib.run_unsafeString_row w 196 3 9 5 underlying196 R2 g cur.size (by simp [World.shape?,hg]) s h0 U (by simp only [maxLen] at hcm; omega) (fun j x hx=>hO.cells (g:=g) rfl j (.int .u8 x.toNat) (by simp [Lib.byteCells,hx]))
  have hEf:FR w0 (Wk w0 B pb) _ (w.freeze ⟨g,0,none⟩ s.length):=hF.touch (Same.freeze w ⟨g,0,none⟩ s.length) (fun b hb=>by obtain rfl:=List.mem_singleton.1 hb; exact ⟨fun _=>hgm,by simpa using hgn.symm⟩)
  refine Xe O (CU O O hu) hEf ?_
  replace hF:=hEf
  refine Db O (Rd O) ?_
  refine Mc ?_
  refine Ga ?_
  refine Td (v:=.string (bs s)) O O ?_
  exact ⟨O,hF.same⟩
theorem Zp {w0:World} {B pb T:Nat} {rest:List Value} {s:Str} (hB:Bd w0 B pb T rest s) (c:UInt8) (hl:s.length+1≤140737488355328):Gw 184 #[.pointer (some ⟨pb,0,none⟩),.int .u8 ((c.toNat:Nat):Int)] .nilIface w0 B pb T rest (s++[c]):=by
  rcases hB.shp with ⟨rfl,rfl⟩ | ⟨rfl,m,i,rfl⟩
  · exact AC w0 B pb s hB c hl
  · exact DB w0 B pb m i s hB c hl
theorem El {w0:World} {B pb T:Nat} {rest:List Value} {s:Str} (hB:Bd w0 B pb T rest s) (t:Str) (hl:s.length+t.length≤140737488355328):Gw 150 #[.pointer (some ⟨pb,0,none⟩),.string (bs t)] (.tuple #[.int .i64 ((t.length:Nat):Int),.nilIface]) w0 B pb T rest (s++t):=by
  rcases hB.shp with ⟨rfl,rfl⟩ | ⟨rfl,m,i,rfl⟩
  · exact C5 w0 B pb s hB t hl
  · exact E5 w0 B pb m i s hB t hl
theorem TC {w0:World} {B pb T:Nat} {rest:List Value} {s:Str} (hB:Bd w0 B pb T rest s) (r:Int) (h0:-2147483648≤r) (h1:r≤2147483647) (hl:s.length+4≤140737488355328):Gw 213 #[.pointer (some ⟨pb,0,none⟩),.int .i32 r] (.tuple #[.int .i64 (((Ij r).length:Nat):Int),.nilIface]) w0 B pb T rest (s++Ij r):=by
  rcases hB.shp with ⟨rfl,rfl⟩ | ⟨rfl,m,i,rfl⟩
  · exact TB w0 B pb s hB r h0 h1 hl
  · exact BC w0 B pb m i s hB r h0 h1 hl
theorem CA {w0:World} {B pb T:Nat} {rest:List Value} {s:Str} (hB:Bd w0 B pb T rest s) (h0:s≠[]):Calls prog 124 #[.pointer (some ⟨pb,0,none⟩)] w0 (De fun v w'=>v=.string (bs s)∧Same (Wk w0 B pb) w0 w'):=by
  rcases hB.shp with ⟨rfl,rfl⟩ | ⟨rfl,m,i,rfl⟩
  · exact HL w0 B pb s hB h0
  · exact LQ w0 B pb m i s hB h0
structure BW (w0:World) (Ds:List Nat) (w:World) (B pb T:Nat) (rest:List Value) (s:Str):Prop where
  bd:Bd w B pb T rest s
  sub:∀ x∈Wk w B pb,x < w0.heap.size→x∈Ds
  ge:w0.heap.size≤w.heap.size
section
variable {w0 w w':World} {Ds E:List Nat} {bs_:List (Nat × Obj)} {B pb T:Nat} {rest:List Value} {s t:Str}
theorem BW.start (h:Bd w0 B pb T rest s):BW w0 (Wk w0 B pb) w0 B pb T rest s:=⟨h,fun x hx _=>hx,Nat.le_refl _⟩
theorem BW.own (h:Bd w B pb T rest s) (hb:w0.heap.size≤B) (hg:w0.heap.size≤w.heap.size):BW w0 Ds w B pb T rest s :=
  ⟨h,fun x hx hl=>by
    have:=h.le
    rcases Mh.1 hx with rfl | ⟨-,h2,-⟩ <;> omega,hg⟩
theorem BW.lt (h:BW w0 Ds w B pb T rest s):pb < w.heap.size:=h.bd.lt
theorem BW.wrote (h:BW w0 Ds w B pb T rest s) (hb:Bd w' B pb T rest t) (hs:Same (Wk w B pb) w w'):BW w0 Ds w' B pb T rest t :=
  ⟨hb,fun x hx hl=>by
    rcases Wk.step hs hx with h1 | h1
    · exact h.sub x h1 hl
    · have:=h.ge; omega,Nat.le_trans h.ge hs.size⟩
theorem FR.wrote (hF:FR w0 Ds bs_ w) (h:BW w0 Ds w B pb T rest s) (hs:Same (Wk w B pb) w w') (hb:∀ p∈bs_,Dl p.2=false∧p.1≠pb):FR w0 Ds bs_ w' :=
  hF.touch hs fun x hx=>⟨h.sub x hx,fun p hp e=>by
    have h1:=hb p hp
    rcases Mh.1 hx with h2 | ⟨-,-,h3⟩
    · exact h1.2 (e.trans h2)
    · rw [←e,Vt (hF.memHeap hp),h1.1] at h3; cases h3⟩
theorem Bd.same (h:Bd w B pb T rest s) (hs:Same E w w') (hp:pb∉E) (he:∀ x∈E,Tt w x=false):Bd w' B pb T rest s:=by
  obtain ⟨h1,h2,ap,v,h3,h4,h5⟩:=h
  refine ⟨h1,h2,ap,v,(hs.block pb (Ra h3) hp).trans h3,Rj h4 hs (fun g hg hm=>?_),h5⟩
  have:=(Ko h4 hg).2.2
  rw [he g hm] at this; cases this
theorem Bd.ext (h:Bd w B pb T rest s) (hs:Same [] w w'):Bd w' B pb T rest s:=h.same hs Ma Ma
theorem BW.step (h:BW w0 Ds w B pb T rest s) (hs:Same E w w') (hp:pb∉E) (he:∀ x∈E,Tt w x=false) (he':∀ x∈E,Tt w' x=false):BW w0 Ds w' B pb T rest s :=
  ⟨h.bd.same hs hp he,fun x hx hl=>by
    refine h.sub x (Mh.2 ?_) hl
    have hl2:=Nat.lt_of_lt_of_le hl h.ge
    rcases Mh.1 hx with rfl | ⟨-,h2,h3⟩
    · exact .inl O
    · refine .inr ⟨hl2, h2, ?_⟩
      have hn:x∉E:=fun hm=>by rw [he' x hm] at h3; cases h3
      rw [Tt,←hs.block x hl2 hn]; exact h3,Nat.le_trans h.ge hs.size⟩
theorem BW.ext (h:BW w0 Ds w B pb T rest s) (hs:Same [] w w'):BW w0 Ds w' B pb T rest s:=h.step hs Ma Ma Ma
theorem Rep.off {d:D} {cs:List Value} (h:Rep (fun x=>x∉Wk w B pb) w d cs) (hs:Same (Wk w B pb) w w'):Rep (fun x=>x∉Wk w' B pb) w' d cs :=
  ((h.old).same hs (fun b hb hn=>hn.1 hb)).weaken fun x hx _ hm=>by
    rcases Wk.step hs hm with h1 | h1
    · exact hx.1 h1
    · have:=hx.2; omega
theorem Rep.off_ext {d:D} {cs:List Value} (h:Rep (fun x=>x∉Wk w B pb) w d cs) (hp:pb < w.heap.size) (hs:Same [] w w'):Rep (fun x=>x∉Wk w' B pb) w' d cs:=h.off (hs.mono Ma)
end
end Go.Scarf
namespace Go.Scarf
open Go.RowKit Go.Proofs Go.Proofs.Tryz
section
variable {P:Program} {w:World} {ρ:Operand→Value} {dst:Option Nat} {ty:TypeId} {pos:String} {aft:Array Edge} {g:Option (Nat × Bool)}
theorem ZP {t t':TypeId} {x y:Operand} {k:IntKind} {a b c:Int} (hx:ρ x=.int k a) (hy:ρ y=.int k b) (h:bits .and k a b=c) :
    (execOp ρ ⟨dst,.binOp .and t x y t',ty,pos,aft,g⟩).run P w=.ok (.value (.int k c)) w:=by
  simp [execOp,hx,hy,Oe,binOp,intBits_and,h]
theorem GU {t t':TypeId} {x y:Operand} {k k2:IntKind} {a c:Int} (m:Nat) (hx:ρ x=.int k a) (hy:ρ y=.int k2 m) (hm:m≤k.bits) (h:a.fdiv (2 ^ m)=c) :
    (execOp ρ ⟨dst,.binOp .shr t x y t',ty,pos,aft,g⟩).run P w=.ok (.value (.int k c)) w:=by
  have hg:(eqGuard .shr t x y (.int k a) (.int k2 m)).run P w=.ok () w:=by unfold eqGuard; simp
  have h0:¬((m:Int) < 0):=by omega
  simp [execOp,hx,hy,hg,binOp,Op.shift,h0,Nat.min_eq_left hm,h]
theorem Nv {t e N:Nat} {x y:Operand} {kk:IntKind} {b:Nat} (i:Nat) (ht:P.underlying t=some (.array N e)) (hs:∀ w,(sizeOf e).run P w=.ok 1 w) (hx:ρ x=.pointer (some ⟨b,0,none⟩)) (hy:ρ y=.int kk (i:Int)) (h1:i < N) :
    (execOp ρ ⟨dst,.indexAddr t x y,ty,pos,aft,g⟩).run P w=.ok (.value (.pointer (some ⟨b,i,none⟩))) w:=by
  have h2:(0:Int)≤(i:Int)∧(i:Int) < (N:Int):=by omega
  have e1:(⟨b,0,none⟩:Addr).add i=⟨b,i,none⟩:=by rw [Kk,Nat.zero_add]
  simp [execOp,hx,hy,Instr.indexAt,run_underlying ht,Instr.sureAddr,asIntOf,h2,hs,e1]
  intro hh; omega
theorem GE {t e N:Nat} {x y:Operand} {kk:IntKind} {b:Nat} (i:Nat) (ht:P.underlying t=some (.array N e)) (hs:∀ w,(sizeOf e).run P w=.ok 1 w) (hx:ρ x=.pointer (some ⟨b,0,none⟩)) (hy:ρ y=.int kk (i:Int)) (h1:i < N) :
    (execOp ρ ⟨dst,.slice t x (some y) none none,ty,pos,aft,g⟩).run P w=.ok (.value (.slice (some ⟨b,i,none⟩) (N - i) (N - i))) w:=by
  have h0:¬N=i:=by omega
  have e1:(⟨b,0,none⟩:Addr).add i=⟨b,i,none⟩:=by rw [Kk,Nat.zero_add]
  have e2:(0:Int)≤(i:Int)∧(i:Int)≤(N:Int):=by omega
  simp [execOp,hx,hy,Instr.sliceAt,run_underlying ht,Instr.sureAddr,Instr.sliceBounds,run_sliceBound,hs,e1,h0,e2]
theorem OB {t t' e:Nat} {x:Operand} {a:Addr} {n c:Nat} (s:Str) (ht:P.underlying t=some (.slice e)) (he:P.underlying e=some (.int .u8)) (hd:P.underlying t'=some .string) (hx:ρ x=.slice (some a) n c) (hn:s.length=n)
    (h:∀ j (hj:j < s.length),w.cell? (a.add j)=some (.int .u8 (s[j].toNat:Int))) :
    (execOp ρ ⟨dst,.convert t t' x,ty,pos,aft,g⟩).run P w=.ok (.value (.string (bs s))) w:=by
  have hl:=Pq (P:=P) a w ((s.map fun u=>(u.toNat:Int)).map (Value.int .u8)) (m:=n) (by simp [hn]) (fun j hj=>by simp at hj ⊢; exact h j hj)
  have hb:=run_bytesToString w a n c (s.map fun u=>(u.toNat:Int)) hl
  have e1:∀ (l:Str) (acc:ByteArray),(l.map fun u=>(u.toNat:Int)).foldl (fun r n=>r.push (UInt8.ofNat n.toNat)) acc=⟨acc.data++l.toArray⟩:=by
    intro l
    induction l with
    | nil=>intro acc; simp
    | cons u l ih=>intro acc; rw [List.map_cons,List.foldl_cons,ih]; simp [ByteArray.push]
  rw [e1] at hb
  simp [execOp,hx,run_convert_bytes_string w t t' e _ _ _ ht he hd,hb]
end
def LE:List Value:=List.replicate 65 (.int .u8 0)
def Ex:Str:=[48,49,50,51,52,53,54,55,56,57,97,98,99,100,101,102,103,104,105,106,107,108,109,110,111,112,113,114,115,116,117,118,119,120,121,122]
def dg (k:Nat):UInt8:=Ex.getD k 0
def Dn (r:Nat):Str:=if r < 16 then [dg r] else [dg (r / 16),dg (r % 16)]
theorem M0 {k:Nat} (h:k < Ex.length):Ex[k]=dg k:=by simp [dg,h]
theorem DW:∀ r < 32,IntKind.u64.wrap ((r:Nat):Int)=r:=by decide
theorem EZ:∀ u < 32,bits .and .u64 ((u:Nat):Int) 15=((u % 16:Nat):Int):=by decide
theorem BY (w0:World) (hG:Gl w0):Calls prog 169 #[.int .u64 16] w0 (De fun v w'=>v=.int .i64 4∧Same [] w0 w'):=by
 obtain ⟨e,fz,hbr⟩:=hG.bru
 refine Ka func169 O ntmps169 Kb (Sc _) ?_
 have hF:=FR.start w0 []
 refine Ia (Ca (Wb O) (Ea (Ha (Ia (Ca (Va O) (Ja (v:=.bool false) (Zc (Ig O O) Ua) (Ea (Ie O (Qa ?_)))))))))
 refine Ga (Ia (Ca (Va O) (Ca (Va O) (Ja (v:=.int .u64 18446744073709551600) (L0 O Ua) (Ja (v:=.int .u64 16) (ZP O O Ua) (Ja (v:=.int .u64 4573923408821661840) (Fl O O Ua) (Ja (v:=.int .u64 15) (GU 58 O O Ua Ua) (Ja (v:=.pointer (some (⟨4,15,none⟩))) (Nv 15 underlying232 sizeOf5 O O Ua) ?_))))))))
 refine Ja (v:=.int .u8 4) (Ya isAgg5 O (by rw [Ac (hF.heap0 hbr)]; rfl)) ?_
 refine Ja (v:=.int .i64 4) (Be underlying5 underlying3 O Ua) (Ca (Wb O) (Ea ?_))
 refine Td (v:=.int .i64 4) O O ?_
 exact ⟨O,hF.same⟩
theorem tz_c (w0:World) (hG:Gl w0):Calls prog 140 #[.int .u64 16] w0 (De fun v w'=>v=.int .i64 4∧Same [] w0 w'):=by
 refine Ka func140 O ntmps140 Kb (Sc _) ?_
 have hF:=FR.start w0 []
 refine Ia (Ca (Wb O) (Ea (Ha (Qj O (Ia (Ca (Va O) ?_))))))
 refine Jb hF (BY _ (hG.ext hF.same)) (Cb EV O O) ?_
 clear hF; intro w hF
 refine Ca (Wb O) (Ea ?_)
 refine Td (v:=.int .i64 4) O O ?_
 exact ⟨O,hF.same⟩
theorem WV (w0:World):Calls prog 139 #[.int .i64 16] w0 (De fun v w'=>v=.bool true∧Same [] w0 w'):=by
 refine Ka func139 O ntmps139 Kb (Sc _) ?_
 have hF:=FR.start w0 []
 refine Ia (Ca (Hc O) (Bc (Ca (Va O) (Ca (Va O) (Ja (v:=.int .i64 15) (Gv O O Ua) (Ja (v:=.int .i64 0) (ZP O O Ua) (Ja (v:=.bool true) (Ce (Ig O O) Ua) (Ca (Hc O) (Xa ?_)))))))))
 refine Ga ?_
 refine Td (v:=.bool true) O O ?_
 exact ⟨O,hF.same⟩
theorem V8 (w0:World) (hG:Gl w0) (r:Nat) (hr:r < 32):Calls prog 112 #[.slice none 0 0,.int .u64 (r:Int),.int .i64 16,.bool false,.bool false] w0 (De fun v w'=>v=.tuple #[.slice none 0 0,.string (bs (Dn r))]∧Same [] w0 w'):=by
  refine Ka func112 O ntmps112 Kb (Z8 _ _ _ _ _) ?_
  have hF:=FR.start w0 []
  refine Ha ?_
  refine Fa ?_
  refine Ca (Sh O) ?_
  refine Ca (Rd O) ?_
  refine Xa ?_
  refine Ga ?_
  refine Ha ?_
  refine Ha ?_
  refine Fa ?_
  refine Ca (Va O) ?_
  refine Ja (v:=.bool false) (Zc (E7 O O) Ua) ?_
  refine Ca (Jc O) ?_
  refine Ca (Va O) ?_
  refine Ja (v:=.bool false) (Zc (Ig O O) Ua) ?_
  refine Ca (Gc O O) ?_
  refine Ca (Jc O) ?_
  refine Ca (Va O) ?_
  refine Ja (v:=.bool false) (Zc (Xz O O) Ua) ?_
  refine Ca (Gc O O) ?_
  refine Xa ?_
  refine Ga ?_
  refine Ie O ?_
  refine Qa ?_
  refine Ga ?_
  refine Ha ?_
  refine Fa ?_
  refine Fg (cs:=(List.toArray LE)) hF zeroValue174 Qb ?_
  clear hF; intro b1 w hb1 hF hE
  clear hE
  refine Xa ?_
  refine Ga ?_
  refine Ha ?_
  refine Fa ?_
  refine Ca (Wb O) ?_
  refine Xa ?_
  refine Ga ?_
  refine Ha ?_
  refine Ha ?_
  refine Fa ?_
  refine Ca (Jc O) ?_
  refine Xa ?_
  refine Ga ?_
  refine Ie O ?_
  refine Qa ?_
  refine Ga ?_
  refine Ha ?_
  refine Ha ?_
  refine Fa ?_
  refine Ca (Va O) ?_
  refine Jb hF (WV _) (Cb HX O O) ?_
  clear hF; intro w hF
  refine Xa ?_
  refine Ga ?_
  refine Ae O ?_
  refine Ha ?_
  refine Fa ?_
  refine Ca (Va O) ?_
  refine Ja (v:=.int .u64 16) (Be underlying3 underlying176 O Ua) ?_
  refine Jb hF (tz_c _ (hG.ext hF.same)) (Cb FW O O) ?_
  clear hF; intro w hF
  refine Ja (v:=.int .u64 4) (Be underlying3 underlying176 O Ua) ?_
  refine Ca (Wb O) ?_
  refine Xa ?_
  refine Ga ?_
  refine Ha ?_
  refine Fa ?_
  refine Ca (Va O) ?_
  refine Ja (v:=.int .u64 16) (Be underlying3 underlying142 O Ua) ?_
  refine Ca (Wb O) ?_
  refine Xa ?_
  refine Ga ?_
  refine Ha ?_
  refine Fa ?_
  refine Ca (Va O) ?_
  refine Ja (v:=.int .u64 16) (Be underlying3 underlying176 O Ua) ?_
  refine Ja (v:=.int .u64 15) (Gv O O Ua) ?_
  refine Ca (Wb O) ?_
  refine Xa ?_
  refine Ga ?_
  refine Ha ?_
  refine Ta ?_
  refine Lc (fun μ σ w=>∃ (u:Nat),∃ (i:Nat),∃ (cs:List Value),μ=2 * u∧((u=r∧i=65∧cs=LE)∨(16≤r∧u=r / 16∧i=64∧cs=LE.set 64 (.int .u8 ((dg (r % 16)).toNat:Int))))∧AllEq σ [(0,.slice none 0 0),(1,.int .u64 ((u:Int))),(3,.bool false),(4,.bool false),(10,.slice none 0 0),(11,.string (bs [])),(12,.pointer (some ⟨b1,0,none⟩)),(13,.int .i64 ((i:Int))),(14,.int .u64 4),(15,.int .u64 16),(16,.int .u64 15)]∧FR w0 [] [(b1,.cells (List.toArray cs) 174)] w) _ ⟨r,65,LE,O,(.inl ⟨O,O,O⟩),⟨O,O,O,O,O,O,O,O,O,O,O,trivial⟩,hF⟩ ?_
  clear hF; rintro μ σ w ⟨u,i,cs,rfl,hI,hs,hF⟩
  refine Cg.slots hs ?_
  clear hs; intro σ
  have hcl:cs.length=65:=by rcases hI with ⟨-,-,rfl⟩ | ⟨-,-,-,rfl⟩ <;> simp [LE]
  have hu32:u < 32:=by omega
  refine Ha ?_
  refine Ha ?_
  refine Fa ?_
  refine Ca (Va O) ?_
  refine Ca (Va O) ?_
  refine Ca (Rv O O) ?_
  refine Xa ?_
  refine Ga ?_
  refine Yb O O (fun hc3=>?_) (fun hc3=>?_)
  ·
    refine Qa ?_
    refine Ga ?_
    refine Ta ?_
    refine Ha ?_
    refine Fa ?_
    refine Ca (Va O) ?_
    refine Ca (Hw (((64:Nat):Int)) O O) ?_
    refine Ca (Wb O) ?_
    refine Xa ?_
    refine Ga ?_
    refine Ha ?_
    refine Fa ?_
    refine Ca (Va O) ?_
    refine Ca (Va O) ?_
    refine Ca (Va O) ?_
    refine Ja (v:=.int .u64 (((u % 16:Nat):Int))) (ZP O O (EZ u U)) ?_
    refine Ja (v:=.int .u8 (((dg (u % 16)).toNat:Int))) (by rw [←M0 (show u % 16 < Ex.length by show u % 16 < 36; omega)]; exact Kd (u % 16) underlying9 O O _) ?_
    refine Ja (v:=.pointer (some ⟨b1,64,none⟩)) (Nv 64 underlying174 sizeOf5 O O Ua) ?_
    refine Me 0 (l:=[.int .u8 (((dg (u % 16)).toNat:Nat):Int)]) (cs':=(List.toArray (cs.set 64 (.int .u8 (((dg (u % 16)).toNat:Nat):Int))))) hF sizeOf5 O (v:=.int .u8 (((dg (u % 16)).toNat:Nat):Int)) O O Ed O (by simp [hcl] <;> omega) (by simp [Ok]) ?_
    clear hF; intro w hF hE
    clear hE
    replace hF:FR w0 [] [(b1,.cells (List.toArray (cs.set 64 (.int .u8 (((dg (u % 16)).toNat:Nat):Int)))) 174)] w:=hF
    refine Xa ?_
    refine Ga ?_
    refine Fa ?_
    refine Ca (Va O) ?_
    refine Ca (Va O) ?_
    refine Ja (v:=.int .u64 (((u / 16:Nat):Int))) (GU 4 O O Ua (by rw [Int.fdiv_eq_ediv_of_nonneg _ Ua]; omega)) ?_
    refine Ca (Wb O) ?_
    refine Xa ?_
    refine Eb ?_
    refine Ib ⟨_,?_,u / 16,64,cs.set 64 (.int .u8 (((dg (u % 16)).toNat:Nat):Int)),rfl,(.inr (by rcases hI with ⟨rfl,rfl,rfl⟩ | ⟨h16,rfl,rfl,rfl⟩ <;> first | omega | exact ⟨by omega,rfl,rfl,rfl⟩)),⟨rfl,rfl,rfl,rfl,rfl,rfl,rfl,rfl,rfl,rfl,rfl,trivial⟩,hF⟩
    omega
  ·
    refine Dc (Cc O ?_)
    refine Ga ?_
    refine Ha ?_
    refine Fa ?_
    refine Ca (Va O) ?_
    refine Ca (Hw (((i - 1:Nat):Int)) O O) ?_
    refine Ca (Wb O) ?_
    refine Xa ?_
    refine Ga ?_
    refine Fa ?_
    refine Ca (Va O) ?_
    refine Ca (Va O) ?_
    refine Ja (v:=.int .u8 (((dg u).toNat:Int))) (by rw [←M0 (show u < Ex.length by show u < 36; omega)]; exact Kd u underlying9 O O _) ?_
    refine Ja (v:=.pointer (some ⟨b1,(i - 1),none⟩)) (Nv (i - 1) underlying174 sizeOf5 O O U) ?_
    refine Me 0 (l:=[.int .u8 (((dg (u)).toNat:Nat):Int)]) (cs':=(List.toArray (cs.set (i - 1) (.int .u8 (((dg (u)).toNat:Nat):Int))))) hF sizeOf5 O (v:=.int .u8 (((dg (u)).toNat:Nat):Int)) O O Ed O (by simp [hcl] <;> omega) (by simp [Ok]) ?_
    clear hF; intro w hF hE
    clear hE
    replace hF:FR w0 [] [(b1,.cells (List.toArray (cs.set (i - 1) (.int .u8 (((dg (u)).toNat:Nat):Int)))) 174)] w:=hF
    refine Xa ?_
    refine Ga ?_
    refine Ha ?_
    refine Ha ?_
    refine Fa ?_
    refine Ca (Jc O) ?_
    refine Xa ?_
    refine Ga ?_
    refine Ie O ?_
    refine Qa ?_
    refine Ga ?_
    refine Ha ?_
    refine Ha ?_
    refine Fa ?_
    refine Ca (Jc O) ?_
    refine Xa ?_
    refine Ga ?_
    refine Ie O ?_
    refine Qa ?_
    refine Ga ?_
    refine Ha ?_
    refine Fa ?_
    refine Ca (Va O) ?_
    refine Ja (v:=.slice (some ⟨b1,i - 1,none⟩) (65 - (i - 1)) (65 - (i - 1))) (GE (i - 1) underlying174 sizeOf5 O O U) ?_
    have hfin:(Dn r).length=65 - (i - 1)∧∀ j (hj:j < (Dn r).length),w.cell? ((⟨b1,i - 1,none⟩:Addr).add j)=some (.int .u8 ((Dn r)[j].toNat:Int)):=by
      have hh:=hF.heap (i:=0) rfl
      rcases hI with ⟨rfl,rfl,rfl⟩ | ⟨h16,rfl,rfl,rfl⟩
      · have h1 : Dn u = [dg u] := by rw [Dn, if_pos U]
        refine ⟨by rw [h1]; rfl,fun j hj=>?_⟩
        have hj0:j=0:=by rw [h1] at hj; simpa using hj
        subst hj0
        rw [Kk,Ac hh]; simp [h1,LE]
      · have h1 : Dn r = [dg (r / 16), dg (r % 16)] := by rw [Dn, if_neg U]
        refine ⟨by rw [h1]; rfl,fun j hj=>?_⟩
        have hj2:j=0∨j=1:=by rw [h1] at hj; simp at hj; omega
        rw [Kk,Ac hh]
        rcases hj2 with rfl | rfl <;> simp [h1,LE]
    refine Ja (v:=.string (bs (Dn r))) (OB (Dn r) underlying145 underlying5 underlying9 O hfin.1 hfin.2) ?_
    refine Ca (Rd O) ?_
    refine Xa ?_
    refine Ga ?_
    refine Ub (Rb (Sa (Ld (v:=.slice _ _ _) (x:=.string (bs (Dn r))) O O O) ?_))
    exact ⟨O,hF.same⟩
theorem YO (w0:World) (hG:Gl w0) (r:Nat) (hr:r < 32):Calls prog 82 #[.int .i64 (r:Int),.int .i64 16] w0 (De fun v w'=>v=.string (bs (Dn r))∧Same [] w0 w'):=by
 refine Ka func82 O ntmps82 Kb (Ee _ _) ?_
 have hF:=FR.start w0 []
 refine Ia (Ca (Rd O) (Ea (Ha (Ia (Ca (Va O) (Ja (v:=.bool false) (Zc (Ig O O) Ua) (Ea (Ie O (Qa ?_)))))))))
 refine Ga (Ia (Ca (Va O) (Ja (v:=.int .u64 ((r:Int))) (Be underlying2 underlying142 O (DW r hr)) (Ca (Va O) (Ca (Va O) (Ja (v:=.bool false) (Zc (E7 O O) U) ?_))))))
 refine Jb hF (V8 _ (hG.ext hF.same) r hr) (Tn VX O O O O O O) ?_
 clear hF; intro w hF
 refine Ca (Ul O) (Ca (W4 O O) (Ca (D7 O O) (Ca (Sh O) (Ca (Rd O) (Bc (Ca (Qc O) (Ca (Rd O) (Ea ?_))))))))
 refine Td (v:=.string (bs (Dn r))) O O ?_
 exact ⟨O,hF.same⟩
theorem hex_c (w0:World) (hG:Gl w0) (r:Nat) (hr:r < 32):Calls prog 214 #[.int .i64 (r:Int),.int .i64 16] w0 (De fun v w'=>v=.string (bs (Dn r))∧Same [] w0 w'):=by
 refine Ka func214 O ntmps214 Kb (Ee _ _) ?_
 have hF:=FR.start w0 []
 refine Ia (Ca (Rd O) (Bc (Ca (Va O) (Ca (Va O) ?_))))
 refine Jb hF (YO _ (hG.ext hF.same) r hr) (Vb YZ O O O) ?_
 clear hF; intro w hF
 refine Ca (Rd O) (Ea ?_)
 refine Td (v:=.string (bs (Dn r))) O O ?_
 exact ⟨O,hF.same⟩
def Rg (r:Int):Int:=if r=34 then 34 else if r=92 then 92 else if r=8 then 98 else if r=12 then 102 else if r=10 then 110 else if r=13 then 114 else if r=9 then 116 else 0
theorem QM (w0:World) (r:Int):Calls prog 212 #[.int .i32 r] w0 (De fun v w'=>v=.int .u8 (Rg r)∧Same [] w0 w'):=by
 refine Ka func212 O ntmps212 Kb (Sc _) ?_
 have hF:=FR.start w0 []
 refine Ia (Ca (Wb O) (Ea (Ha (Ia (Ca (Va O) (Ea (Ta (Ha (Ha ?_)))))))))
 refine Fa (Ca (Th O O) (Ca (Hc O) (Ea ?_)))
 refine Yb O O (fun hc0=>?_) (fun hc0=>?_)
 refine Qa (Ga (Ae O (Ia (Ca (Va O) ?_))))
 refine Ja (v:=.int .u8 (Rg r)) (Be underlying21 underlying5 rfl (by rcases (by first | exact .inl (by assumption) | exact .inr (by assumption):r=34∨r=92) with rfl | rfl <;> decide)) ?_
 refine Ca (Wb O) (Ea ?_)
 refine Td (v:=.int .u8 (Rg r)) O O ?_
 refine ⟨?_,hF.same⟩; simp_all [Rg]
 refine Fa (Ca (Th O O) (Ca (Hc O) (Ea ?_)))
 refine Yb O O (fun hc1=>?_) (fun hc1=>?_)
 refine Ia (Ca (Va O) ?_)
 refine Ja (v:=.int .u8 (Rg r)) (Be underlying21 underlying5 rfl (by rcases (by first | exact .inl (by assumption) | exact .inr (by assumption):r=34∨r=92) with rfl | rfl <;> decide)) ?_
 refine Ca (Wb O) (Ea ?_)
 refine Td (v:=.int .u8 (Rg r)) O O ?_
 refine ⟨?_,hF.same⟩; simp_all [Rg]
 refine Ia (Ca (Th O O) (Ca (Hc O) (Ea ?_)))
 refine Yb O O (fun hc2=>?_) (fun hc2=>?_)
 refine Ia (Ca (Wb O) (Ea ?_))
 refine Td (v:=.int .u8 98) O O ?_
 refine ⟨?_,hF.same⟩; simp_all [Rg]
 refine Ia (Ca (Th O O) (Ca (Hc O) (Ea ?_)))
 refine Yb O O (fun hc3=>?_) (fun hc3=>?_)
 refine Ia (Ca (Wb O) (Ea ?_))
 refine Td (v:=.int .u8 102) O O ?_
 refine ⟨?_,hF.same⟩; simp_all [Rg]
 refine Ia (Ca (Th O O) (Ca (Hc O) (Ea ?_)))
 refine Yb O O (fun hc4=>?_) (fun hc4=>?_)
 refine Ia (Ca (Wb O) (Ea ?_))
 refine Td (v:=.int .u8 110) O O ?_
 refine ⟨?_,hF.same⟩; simp_all [Rg]
 refine Ia (Ca (Th O O) (Ca (Hc O) (Ea ?_)))
 refine Yb O O (fun hc5=>?_) (fun hc5=>?_)
 refine Ia (Ca (Wb O) (Ea ?_))
 refine Td (v:=.int .u8 114) O O ?_
 refine ⟨?_,hF.same⟩; simp_all [Rg]
 refine Ia (Ca (Th O O) (Ca (Hc O) (Ea ?_)))
 refine Yb O O (fun hc6=>?_) (fun hc6=>?_)
 refine Ia (Ca (Wb O) (Ea ?_))
 refine Td (v:=.int .u8 116) O O ?_
 refine ⟨?_,hF.same⟩; simp_all [Rg]
 refine Qa (Eb (Ga (Ia (Ca (Wb O) (Ea ?_)))))
 refine Td (v:=.int .u8 0) O O ?_
 refine ⟨?_,hF.same⟩; simp_all [Rg]
end Go.Scarf
namespace Go.Scarf
open Go.RowKit Go.Proofs Go.Proofs.Tryz
def Ft (r:Nat):Str:=if Rg r≠0 then [92,UInt8.ofNat (Rg r).toNat] else if 32≤r then Ij r else [92,117]++Lib.repeatL [48] (4 - (Dn r).length)++Dn r
def Z0:Nat→Str→Nat→Str
  | 0,_,_=>[]
  | f+1,s,p=>if p < s.length then Ft (Utf8.decode (bs s) p).1++Z0 f s (p+(Utf8.decode (bs s) p).2) else []
theorem QH:∀ (f g:Nat) (s:Str) (p:Nat),s.length - p≤f→s.length - p≤g→Z0 f s p=Z0 g s p
  | 0,0,_,_,_,_=>rfl
  | 0,g+1,s,p,h,_=>by rw [Z0,Z0,if_neg U]
  | f+1,0,s,p,_,h=>by rw [Z0,Z0,if_neg U]
  | f + 1, g + 1, s, p, h1, h2 => by
    rw [Z0,Z0]
    split
    · have h3 := Jg s p
      rw [QH f g s _ U U]
    · rfl
def Ut (s:Str) (p:Nat):Str:=Z0 (s.length - p) s p
theorem Pp {s:Str} {p:Nat} (h:p < s.length):Ut s p=Ft (Utf8.decode (bs s) p).1++Ut s (p+(Utf8.decode (bs s) p).2):=by
  have h3:=Jg s p
  obtain ⟨f,hf⟩:∃ f,s.length - p=f+1:=⟨s.length - p - 1,by omega⟩
  rw [Ut,hf,Z0,if_pos h,Ut,QH f (s.length - (p+(Utf8.decode (bs s) p).2)) s _ U U]
theorem Zy {s:Str} {p:Nat} (h:¬p < s.length):Ut s p=[]:=by
  have e:s.length - p=0:=by omega
  rw [Ut,e,Z0]
def Kv (s:Str):Str:=[34]++Ut s 0++[34]
theorem Av (r:Int):0≤Rg r∧Rg r < 256:=by
  unfold Rg
  repeat' split
  all_goals omega
theorem Yn (r:Nat):1≤(Dn r).length∧(Dn r).length≤2:=by unfold Dn; split <;> simp
theorem Es (n:Nat):(Lib.repeatL [48] n).length=n:=by
  induction n with
  | zero=>rfl
  | succ n ih=>simp [Lib.repeatL,ih]; try omega
theorem Aq (r:Nat):(Ft r).length≤6:=by
  unfold Ft
  have h1:=Ks r
  have h2:=Yn r
  repeat' split
  · simp
  · omega
  · simp [Es]; omega
theorem Hi {w0:World} {B pb T:Nat} {rest:List Value} {s:Str} (hB:Bd w0 B pb T rest s) (z:Int) (h0:0≤z) (h1:z < 256) (hl:s.length+1≤140737488355328):Gw 184 #[.pointer (some ⟨pb,0,none⟩),.int .u8 z] .nilIface w0 B pb T rest (s++[UInt8.ofNat z.toNat]):=by
  have h:=Zp hB (UInt8.ofNat z.toNat) hl
  have e:(((UInt8.ofNat z.toNat).toNat:Nat):Int)=z:=by simp only [UInt8.toNat_ofNat']; omega
  rwa [e] at h
theorem XR (w0:World) (hG:Gl w0) (s:Str) (hl:s.length≤17592186044416):Calls prog 183 #[.string (bs s)] w0 (De fun v w'=>v=(if Lib.validD s=true then .tuple #[.string (bs (Kv s)),.int .i64 0] else .tuple #[.string (bs []),.int .i64 2])∧Same [] w0 w'):=by
 refine Ka func183 O ntmps183 Kb (Sc _) ?_
 have hF:=FR.start w0 []
 refine Ia (Ca (Rd O) (Ca (Wb O) (Ea (Ha (Ia (Ca (Qc O) ?_))))))
 refine Pb (QG s U _ (hG.ext hF.same)) (Cb ZT O O) ?_
 rintro _ w ⟨n0,rfl,hE⟩
 replace hF:=hF.ext hE
 clear hE
 refine Ca (Ul O) (Ca (Fm O O) (Ca (Ss O O) (Ca (Wb O) (Ca (Hc O) (Bc (Ca (Jc O) (Ca (Pn O) (Ea ?_))))))))
 refine Mi O O (fun hc0=>?_) (fun hc0=>?_)
 refine Ia (Ca (Rd O) (Ca (Wb O) (Ea ?_)))
 refine Ub (Rb (Sa (Ld (v:=.string (bs [])) (x:=.int .i64 2) O O O) ?_))
 exact ⟨by rw [if_neg (by simpa using hc0)],hF.same⟩
 refine Qa (Ga (Ia ?_))
 refine Fg (cs:=#[.pointer none,.slice none 0 0]) hF zeroValue160 O ?_
 clear hF; rintro b1 w hb1 hF -
 refine Bc ?_
 have hBn:BW w0 [] w b1 b1 160 [] []:=BW.own ⟨.inl ⟨rfl,rfl⟩,Nat.le_refl _,_,_,hF.heap (i:=0) rfl,World.ownsRow_nil _ _ _ _,.inl rfl⟩ (hF.ge (i:=0) rfl) hF.same.size
 have hB:=hBn
 replace hF:=hF.drop 1
 replace hF:FR w0 [] [] w:=hF
 have ho:(0:Nat)≤0∧([]:Str).length≤0:=by simp
 refine Pb (Hi hB.bd (34) U U Ma) (Vb Ip O O O) ?_
 rintro _ w ⟨rfl,hBd,hE⟩
 replace hF:=hF.wrote hB hE Ma
 replace hB:=hB.wrote hBd hE
 clear hBd hE
 refine Ea (Ha (Ia (Ca (Qc O) ?_)))
 refine Vx (str:=s) hF underlying9 O ?_
 clear hF; intro b2 w hb2 hF hE
 have nb2:b2≠b1:=by have:=hB.lt; omega
 replace hB:=hB.ext hE
 clear hE
 refine Ea (Ta ?_)
 refine Lc (fun μ σ w=>∃ (q:Nat),∃ (o:Str),μ=s.length - q∧(o++Ut s q=[34]++Ut s 0)∧(o.length≤1+6 * q∧o.length≤1+6 * s.length)∧(BW w0 [] w b1 b1 160 [] o)∧AllEq σ [(6,.pointer (some ⟨b1,0,none⟩)),(20,.pointer (some ⟨b2,0,none⟩))]∧FR w0 [] [(b2,.stringIter (bs s) (q))] w) _ ⟨0,[34],O,(O),Ma,(hB),Iw,hF⟩ ?_
 clear hF; rintro μ σ w ⟨q,o,rfl,hq,ho,hB,hs,hF⟩
 refine Cg.slots hs ?_
 clear hs; intro σ
 have hr2:Tt w b2=false:=by rw [Vt (hF.heap (i:=0) rfl)]; rfl
 refine Ia ?_
 by_cases hn0:(q) < (s:Str).length
 refine F1 0 (p:=q) (str:=s) hF O O hn0 ?_
 clear hF; intro w hF hE
 replace hB:=hB.step hE (by simpa using nb2.symm) (by simpa using hr2) (by simp [Vt (hF.heap (i:=0) rfl),Dl])
 clear hE
 replace hF:FR w0 [] [(b2,.stringIter (bs s) (q+(Utf8.decode (bs s) (q)).2))] w:=hF
 refine Ca (Ss O O) (Ea (Ha (Ae O (Qa (Ga (Ta (Ia (Ca (Fm O O) (Ca (Wb O) (Ea ?_))))))))))
 refine Ha (Ia (Ca (Va O) ?_))
 refine Pb (QM _ (((Utf8.decode (bs s) q).1:Nat):Int)) (Cb PV O O) ?_
 rintro _ w ⟨rfl,hE⟩
 replace hF:=hF.ext hE
 replace hB:=hB.ext hE
 clear hE
 refine Ca (Wb O) (Bc (Ca (Va O) (Ca (Sq O O) (Ea ?_))))
 refine Yb O O (fun hc2=>?_) (fun hc2=>?_)
 refine Ia ?_
 refine Pb (Hi hB.bd (92) U U (by have h1:=ho.1; have h2:=ho.2; simp; omega)) (Vb Ip O O O) ?_
 rintro _ w ⟨rfl,hBd,hE⟩
 replace hF:=hF.wrote hB hE (by simp [Dl,nb2])
 replace hB:=hB.wrote hBd hE
 clear hBd hE
 refine Bc (Ca (Va O) ?_)
 refine Pb (Hi hB.bd (Rg (((Utf8.decode (bs s) q).1:Nat):Int)) (Av _).1 (Av _).2 (by have h1:=ho.1; have h2:=ho.2; simp; omega)) (Vb Ip O O O) ?_
 rintro _ w ⟨rfl,hBd,hE⟩
 replace hF:=hF.wrote hB hE (by simp [Dl,nb2])
 replace hB:=hB.wrote hBd hE
 have e1:o++[UInt8.ofNat (92:Int).toNat]++[UInt8.ofNat (Rg (((Utf8.decode (bs s) q).1:Nat):Int)).toNat]=o++Ft (Utf8.decode (bs s) q).1:=by rw [Ft,if_pos (by simpa using hc2)]; simp
 rw [e1] at hB
 clear hBd hE
 refine Ea ?_
 refine Dc (Cc O ?_)
 have h1:=Jg s q
 refine Ib ⟨_,?_,q+(Utf8.decode (bs s) q).2,o++Ft (Utf8.decode (bs s) q).1,O,(by rw [List.append_assoc,←Pp U]; exact hq),(by have h1:=Jg s q; have h2:=Aq (Utf8.decode (bs s) q).1; rw [List.length_append]; omega),(hB),Iw,hF⟩
 omega
 refine Qa (Ga (Ha (Ia (Ca (Va O) (Ca (Rv O O) (Ea ?_))))))
 refine Yb O O (fun hc3=>?_) (fun hc3=>?_)
 refine Ia (Ca (Va O) ?_)
 refine Pb (TC hB.bd (((Utf8.decode (bs s) q).1:Nat):Int) U (by have:=Lib.rune_le (bs s) q; omega) (by have h1:=ho.1; have h2:=ho.2; simp; omega)) (Vb HV O O O) ?_
 rintro _ w ⟨rfl,hBd,hE⟩
 replace hF:=hF.wrote hB hE (by simp [Dl,nb2])
 replace hB:=hB.wrote hBd hE
 have e1:o++Ij (((Utf8.decode (bs s) q).1:Nat):Int)=o++Ft (Utf8.decode (bs s) q).1:=by rw [Ft,if_neg (by simpa using hc2),if_pos U]
 rw [e1] at hB
 clear hBd hE
 refine Ea ?_
 refine Dc (Cc O ?_)
 have h1:=Jg s q
 refine Ib ⟨_,?_,q+(Utf8.decode (bs s) q).2,o++Ft (Utf8.decode (bs s) q).1,O,(by rw [List.append_assoc,←Pp U]; exact hq),(by have h1:=Jg s q; have h2:=Aq (Utf8.decode (bs s) q).1; rw [List.length_append]; omega),(hB),Iw,hF⟩
 omega
 refine Qa (Ga (Ia (Ca (Va O) (Ja (v:=.int .i64 ((((Utf8.decode (bs s) q).1:Nat):Int))) (Be underlying21 underlying2 O (Ji U U)) ?_))))
 refine Pb (hex_c _ (hG.ext hF.same) (Utf8.decode (bs s) q).1 U) (Vb MX O O O) ?_
 rintro _ w ⟨rfl,hE⟩
 replace hF:=hF.ext hE
 replace hB:=hB.ext hE
 clear hE
 refine Ca (Rd O) (Ea (Fa (Ca (Qc O) (Ca (Xl underlying9 O) (Ja (v:=.int .i64 (((4 - (Dn (Utf8.decode (bs s) q).1).length:Nat):Int))) (Gv O O (have:=Yn (Utf8.decode (bs s) q).1; Id U U U)) ?_)))))
 refine Pb (M7 ((4 - (Dn (Utf8.decode (bs s) q).1).length:Nat):Int) U U _) (Vb DD O O O) ?_
 rintro _ w ⟨rfl,hE⟩
 replace hF:=hF.ext hE
 replace hB:=hB.ext hE
 clear hE
 refine Ja (v:=.string (bs (([92,117])++(Lib.repeatL [48] (4 - (Dn (Utf8.decode (bs s) q).1).length))))) (Gh O O (by have:=Yn (Utf8.decode (bs s) q).1; simp [Es]; omega)) ?_
 refine Ca (Qc O) ?_
 refine Ja (v:=.string (bs ((([92,117])++(Lib.repeatL [48] (4 - (Dn (Utf8.decode (bs s) q).1).length)))++(Dn (Utf8.decode (bs s) q).1)))) (Gh O O (by have:=Yn (Utf8.decode (bs s) q).1; simp [Es]; omega)) ?_
 refine Pb (El hB.bd _ (by have:=Yn (Utf8.decode (bs s) q).1; have h1:=ho.1; have h2:=ho.2; simp [Es]; omega)) (Vb N4 O O O) ?_
 rintro _ w ⟨rfl,hBd,hE⟩
 replace hF:=hF.wrote hB hE (by simp [Dl,nb2])
 replace hB:=hB.wrote hBd hE
 have e1:o++((([92,117])++(Lib.repeatL [48] (4 - (Dn (Utf8.decode (bs s) q).1).length)))++(Dn (Utf8.decode (bs s) q).1))=o++Ft (Utf8.decode (bs s) q).1:=by rw [Ft,if_neg (by simpa using hc2),if_neg U]
 rw [e1] at hB
 clear hBd hE
 refine Xa (Eb ?_)
 have h1:=Jg s q
 refine Ib ⟨_,?_,q+(Utf8.decode (bs s) q).2,o++Ft (Utf8.decode (bs s) q).1,O,(by rw [List.append_assoc,←Pp U]; exact hq),(by have h1:=Jg s q; have h2:=Aq (Utf8.decode (bs s) q).1; rw [List.length_append]; omega),(hB),Iw,hF⟩
 omega
 refine Fs 0 (p:=q) (str:=s) hF O O hn0 ?_
 refine Ca (Ss O O) (Ea (Ha (Ie O ?_)))
 refine Dc (Cc O ?_)
 refine Ga (Ia ?_)
 refine Pb (Hi hB.bd (34) U U (by have h1:=ho.1; have h2:=ho.2; simp; omega)) (Vb Ip O O O) ?_
 rintro _ w ⟨rfl,hBd,hE⟩
 replace hF:=hF.wrote hB hE (by simp [Dl,nb2])
 replace hB:=hB.wrote hBd hE
 clear hBd hE
 refine Bc ?_
 refine Pb (CA hB.bd Ma) (Cb HO O O) ?_
 rintro _ w ⟨rfl,hE⟩
 replace hF:=hF.wrote hB hE (by simp [Dl,nb2])
 clear hE
 refine Ca (Rd O) (Ca (Wb O) (Ea ?_))
 refine Ub (Rb (Sa (Ld (v:=.string (bs (o++[34]))) (x:=.int .i64 0) O O O) ?_))
 refine ⟨?_,hF.same⟩
 rw [if_pos (by simpa using hc0),Kv,←hq,Zy U,List.append_nil]
end Go.Scarf
namespace Go.Scarf
open Go.RowKit Go.Proofs Go.Proofs.Tryz
def Oh (m:Bool) (ind d:Nat):Str:=if m then [10]++Lib.repeatL [32] (ind * d) else []
def qS (t:Str):Str:=if Lib.validD t=true then Kv t else []
theorem Nt (c:UInt8) (n:Nat):(Lib.repeatL [c] n).length=n:=by
  induction n with
  | zero=>rfl
  | succ n ih=>simp [Lib.repeatL,ih]; try omega
theorem Ox (m:Bool) (ind d:Nat):(Oh m ind d).length≤1+ind * d:=by unfold Oh; split <;> simp [Nt] <;> omega
theorem T9 (s:Str) (p:Nat):(Ut s p).length≤6 * (s.length - p):=by
  induction h:s.length - p using Nat.strongRecOn generalizing p with
  | ind n ih =>
    by_cases hp:p < s.length
    · rw [Pp hp, List.length_append]
      have h1:=Aq (Utf8.decode (bs s) p).1
      have h2:=Jg s p
      have h3:=ih (s.length - (p+(Utf8.decode (bs s) p).2)) U (p+(Utf8.decode (bs s) p).2) rfl
      omega
    · rw [Zy hp]; simp
theorem Uy (s:Str):(qS s).length≤6 * s.length+2:=by
  unfold qS
  split
  · have := T9 s 0
    simp [Kv]; omega
  · simp
theorem JO (t:Str) (c:Nat) (h1:c≤9223372036854775807) (h2:t.length * c≤140737488355328) (w:World):Calls prog 121 #[.string (bs t),.int .i64 (c:Int)] w (De fun v w'=>v=.string (bs (Lib.repeatL t c))∧Same [] w w'):=by
  have h:=strings_Repeat (bs t) c w h1 (by rw [Ro]; exact h2)
  exact Eu h
theorem CM (t:Str) (hl:t.length≤17592186044416) (w0:World) (hG:Gl w0):Calls prog 183 #[.string (bs t)] w0 (De fun v w'=>v=.tuple #[.string (bs (qS t)),.int .i64 (if Lib.validD t=true then 0 else 2)]∧Same [] w0 w'):=by
  refine Bi (XR w0 hG t hl) fun v w' ⟨h1,h2⟩=>⟨?_,h2⟩
  rw [h1,qS]
  split <;> rfl
theorem Bd.mul {w:World} {B pb T:Nat} {m:Bool} {ind:Int} {s:Str} (h:Bd w B pb T [.bool m,.int .i64 ind] s):w.cell? ⟨pb,2,none⟩=some (.bool m):=by
  obtain ⟨ap,v,hh,-⟩:=h.ex
  rw [Ac hh]; rfl
theorem Bd.ind {w:World} {B pb T:Nat} {m:Bool} {ind:Int} {s:Str} (h:Bd w B pb T [.bool m,.int .i64 ind] s):w.cell? ⟨pb,3,none⟩=some (.int .i64 ind):=by
  obtain ⟨ap,v,hh,-⟩:=h.ex
  rw [Ac hh]; rfl
theorem Gl.wrote {w0 w:World} {B pb:Nat} (h:Gl w0) (hs:Same (Wk w0 B pb) w0 w) (hb:8≤B) (hp:B≤pb):Gl w:=h.same hs fun x hx=>by
  rcases Mh.1 hx with rfl | ⟨-,h1,-⟩ <;> omega
theorem LF (w0:World) (B pb:Nat) (m:Bool) (ind:Nat) (s:Str) (hBd:Bd w0 B pb 162 [.bool m,.int .i64 (ind:Int)] s) (d:Nat) (hd:ind * d≤1000000000) (hl:s.length+(Oh m ind d).length≤140737488355328):Gw 185 #[.pointer (some ⟨pb,0,none⟩),.int .i64 (d:Int)] (.tuple #[]) w0 B pb 162 [.bool m,.int .i64 (ind:Int)] (s++Oh m ind d):=by
 unfold Gw
 refine Ka func185 O ntmps185 Kb (Ee _ _) ?_
 have hB:=BW.start hBd
 have hF:=FR.start w0 (Wk w0 B pb)
 refine Ia (Ca (Ue O) (Ca (Gg O) (Ca (Ec L_ O) (Ja (v:=.bool (m)) (Ya isAgg4 O hB.bd.mul) (Ea ?_)))))
 refine Mi O O (fun hc0=>?_) (fun hc0=>?_)
 rw [Oh,if_pos hc0] at hl
 simp only [List.length_append,List.length_cons,List.length_nil,Nt] at hl
 refine Ia (Ca (Ue O) (Ca (Gg O) (Ca (Ec Sj O) ?_)))
 refine Pb (Hi hB.bd 10 Ua Ua U) (Vb Ip O O O) ?_
 rintro _ w ⟨rfl,hBd,hE⟩
 replace hF:=hF.wrote hB hE Ma
 replace hB:=hB.wrote hBd hE
 clear hBd hE
 refine Ea ?_
 refine Uc [] (.free 0 (.free 1 (.free 2 (.free 3 (.free 4 (.free 5 (.free 6 (.free 7 (.free 8 (.act 9 (.act 10 .nil))))))))))) hF ?_
 clear hF; intro w hF hE
 replace hB:=hB.ext hE
 clear hE
 refine ⟨fun wq=>FR w0 (Wk w0 B pb) _ wq∧∃ s',Bd wq B pb 162 [.bool m,.int .i64 (ind:Int)] s',⟨hF,⟨_,hB.bd⟩⟩,?_⟩
 refine Db O (Ue O) (Db O (Gg O) (Db O (Ec Sj O) (Db O (Ue O) (Db O (Gg O) (Db O (Ec EQ O) ?_)))))
 refine Oa rfl (v:=.int .i64 ((ind:Int))) (fun w hC=>Ya isAgg3 rfl (by obtain ⟨-,s_,hs_⟩:=hC; exact hs_.ind)) ?_
 refine Db O (Va O) ?_
 refine Oa O (v:=.int .i64 (((ind * d:Nat):Int))) (fun w hC=>Fl O O (Id (by rw [Int.natCast_mul]) U U)) ?_
 refine Ye O (JO [32] (ind * d) U (by simp; omega) _) (Vb DD O O O) ?_
 rintro _ w ⟨rfl,hE⟩
 replace hF:=hF.ext hE
 replace hB:=hB.ext hE
 clear hE
 refine ⟨⟨hF,⟨_,hB.bd⟩⟩,?_⟩
 refine Ye O (El hB.bd (Lib.repeatL [32] (ind * d)) (by simp [Nt]; omega)) (Vb N4 O O O) ?_
 rintro _ w ⟨rfl,hBd,hE⟩
 replace hF:=hF.wrote hB hE Ma
 replace hB:=hB.wrote hBd hE
 clear hBd hE
 refine ⟨⟨hF,⟨_,hB.bd⟩⟩,?_⟩
 refine Mc ?_
 refine Sf (Wd (Ih O) ?_)
 exact ⟨O,by simpa [Oh,hc0] using hB.bd,hF.same⟩
 refine Qa ?_
 refine Sf (Wd (Ih O) ?_)
 exact ⟨O,by simpa [Oh,hc0] using hB.bd,hF.same⟩
theorem N5 (w0:World) (B pb:Nat) (m:Bool) (ind:Nat) (s:Str) (hBd:Bd w0 B pb 162 [.bool m,.int .i64 (ind:Int)] s) (hG:Gl w0) (h8:8≤B) (t:Str) (ht:t.length≤17592186044416) (hl:s.length+(qS t).length≤140737488355328):Gw 154 #[.pointer (some ⟨pb,0,none⟩),.string (bs t)] (.tuple #[]) w0 B pb 162 [.bool m,.int .i64 (ind:Int)] (s++qS t):=by
 unfold Gw
 refine Ka func154 O ntmps154 Kb (Ee _ _) ?_
 have hB:=BW.start hBd
 have hF:=FR.start w0 (Wk w0 B pb)
 refine Ia (Ca (Qc O) ?_)
 refine Pb (CM t ht _ ((hG.wrote hF.same h8 hBd.le))) (Cb HW O O) ?_
 rintro _ w ⟨rfl,hE⟩
 replace hF:=hF.ext hE
 replace hB:=hB.ext hE
 clear hE
 refine Ca (Ul O) (Ca (D7 O O) (Ca (Fm O O) (Ca (Rd O) (Ca (Wb O) (Ea (Fa (Ca (Ue O) (Ca (Gg O) (Ca (Ec Sj O) (Ca (Qc O) ?_))))))))))
 refine Pb (El hB.bd (qS t) U) (Vb N4 O O O) ?_
 rintro _ w ⟨rfl,hBd,hE⟩
 replace hF:=hF.wrote hB hE Ma
 replace hB:=hB.wrote hBd hE
 clear hBd hE
 refine Xa ?_
 refine Sf (Wd (Ih O) ?_)
 exact ⟨O,hB.bd,hF.same⟩
end Go.Scarf
namespace Go.Scarf
open Go.RowKit Go.Proofs Go.Proofs.Tryz
def Ej (m:Bool) (ind d:Nat):Bool→List Str→Str
  | _,[]=>[]
  | first,p::ps=>(if first then [] else [44])++(Oh m ind (d+1)++(p++Ej m ind d false ps))
def Gn (m:Bool) (ind d:Nat) (o c:UInt8) (ps:List Str):Str:=[o]++(Ej m ind d true ps++((if ps=[] then [] else Oh m ind d)++[c]))
mutual
def Xg (m:Bool) (ind:Nat):Tree→Nat→Str
  | .node k t ks xs,d=>if k=1 then [110,117,108,108] else if k=4 then qS t else if k=5 then Gn m ind d 91 93 (Jq m ind xs (d+1)) else if k=6 then Gn m ind d 123 125 (Cn m ind xs ks (d+1)) else t
def Jq (m:Bool) (ind:Nat):List Tree→Nat→List Str
  | [],_=>[]
  | x::xs,d=>Xg m ind x d::Jq m ind xs d
def Cn (m:Bool) (ind:Nat):List Tree→List Str→Nat→List Str
  | [],_,_=>[]
  | x::xs,ks,d=>(qS (ks.headD [])++([58]++((if m then [32] else [])++Xg m ind x d)))::Cn m ind xs ks.tail d
end
theorem Ah:∀ {xs:List Tree} {x:Tree},x∈xs→Cd x≤Md xs
  | y :: ys, x, h => by
    rw [Md]
    rcases List.mem_cons.1 h with rfl | h
    · omega
    · have:=Ah h; omega
theorem Gr (m:Bool) (ind d:Nat):∀ xs,Jq m ind xs d=xs.map (fun x=>Xg m ind x d)
  | []=>by simp [Jq]
  | x::xs=>by simp [Jq,Gr m ind d xs]
def N_ (m:Bool) (ind d:Nat) (k:Str) (x:Tree):Str:=qS k++([58]++((if m then [32] else [])++Xg m ind x d))
theorem No (m:Bool) (ind d:Nat):∀ xs ks,(Cn m ind xs ks d).length=xs.length
  | [],ks=>by simp [Cn]
  | x::xs,ks=>by simp [Cn,No m ind d xs ks.tail]
theorem Bz (m:Bool) (ind d:Nat):∀ (xs:List Tree) (ks:List Str) (j:Nat) (h:j < xs.length) (hk:j < ks.length) (h':j < (Cn m ind xs ks d).length),(Cn m ind xs ks d)[j]=N_ m ind d ks[j] xs[j]
  | x::xs,k::ks,0,_,_,_=>by simp [Cn,N_]
  | x :: xs, k :: ks, j + 1, h, hk, h' => by
    simp only [Cn,List.tail_cons,List.getElem_cons_succ]
    exact Bz m ind d xs ks j (by simpa using h) (by simpa using hk) (by simpa [Cn] using h')
theorem YK (m:Bool) (ind d:Nat) {ps:List Str} {j:Nat} (h:j < ps.length):Ej m ind d (decide (j=0)) (ps.drop j)=(if j=0 then [] else [44])++(Oh m ind (d+1)++(ps[j]++Ej m ind d (decide (j+1=0)) (ps.drop (j+1)))):=by
  rw [List.drop_eq_getElem_cons h,Ej]
  simp
mutual
def TG:Tree→Prop | .node _ t ks xs=>t.length≤17592186044416∧(∀ k∈ks,k.length≤17592186044416)∧ZC xs
def ZC:List Tree→Prop | []=>True | x::xs=>TG x∧ZC xs
end
theorem Jw:∀ {xs:List Tree},ZC xs→∀ x∈xs,TG x
  | [],_,_,h=>absurd h Ma
  | y :: ys, h, x, hx => by
    rw [ZC] at h
    rcases List.mem_cons.1 hx with rfl | hx
    · exact h.1
    · exact Jw h.2 x hx
def ON (x:Tree):Prop:=∀ (m:Bool) (ind d:Nat) (w0:World) (B pb:Nat) (s:Str) (cs:List Value),Bd w0 B pb 162 [.bool m,.int .i64 (ind:Int)] s→Gl w0→8≤B→Rep (fun b=>b∉Wk w0 B pb) w0 (Vc x) cs→TG x→Fe nodeB x=true →
  ind * (d+Cd x)≤1000000000→d+Cd x≤1000000000→s.length+(Xg m ind x d).length≤140737488355328→Gw 123 #[.pointer (some ⟨pb,0,none⟩),.agg cs.toArray,.int .i64 (d:Int)] (.tuple #[]) w0 B pb 162 [.bool m,.int .i64 (ind:Int)] (s++Xg m ind x d)
def OY (f:Nat) (k:Int) (t:Str) (ks:List Str) (xs:List Tree) (m:Bool) (ind d:Nat) (ps:List Str):Prop:=∀ (j:Nat) (hj:j < ps.length) (w0:World) (B pb:Nat) (s:Str) (A B':Option Addr) (c e:Nat),Bd w0 B pb 162 [.bool m,.int .i64 (ind:Int)] s→Gl w0→8≤B →
  Rep (fun b=>b∉Wk w0 B pb) w0 (Vc (.node k t ks xs)) [.int .i64 k,.string (bs t),.slice A ks.length c,.slice B' xs.length e]→s.length+ps[j].length≤140737488355328 →
  Gw f #[.pointer (some ⟨pb,0,none⟩),.agg #[.int .i64 k,.string (bs t),.slice A ks.length c,.slice B' xs.length e],.int .i64 (j:Int),.int .i64 (d:Int)] (.tuple #[]) w0 B pb 162 [.bool m,.int .i64 (ind:Int)] (s++ps[j])
theorem SV (k:Int) (t:Str) (ks:List Str) (xs:List Tree) (m:Bool) (ind d:Nat) (j:Nat) (hj:j < xs.length) (w0:World) (B pb:Nat) (s:Str) (A B_:Option Addr) (c e:Nat) (hBd:Bd w0 B pb 162 [.bool m,.int .i64 (ind:Int)] s) (hG:Gl w0) (h8:8≤B) (hX:Rep (fun b=>b∉Wk w0 B pb) w0 (Vc (.node k t ks xs)) [.int .i64 k,.string (bs t),.slice A ks.length c,.slice B_ xs.length e]) (hv:∀ x∈xs,ON x) (hok:TG (.node k t ks xs)) (hn:Fe nodeB (.node k t ks xs)=true) (hd:ind * (d+Md xs)≤1000000000) (hd2:d+Md xs≤1000000000) (hl:s.length+(Xg m ind xs[j] d).length≤140737488355328):Gw 156 #[.pointer (some ⟨pb,0,none⟩),.agg #[.int .i64 k,.string (bs t),.slice A ks.length c,.slice B_ xs.length e],.int .i64 (j:Int),.int .i64 (d:Int)] (.tuple #[]) w0 B pb 162 [.bool m,.int .i64 (ind:Int)] (s++Xg m ind xs[j] d):=by
 unfold Gw
 rw [TG] at hok
 refine Ka func156 O ntmps156 Kb (GD _ _ _ _) ?_
 have hB:=BW.start hBd
 have hF:=FR.start w0 (Wk w0 B pb)
 refine Ia ?_
 refine Bh hF O ?_
 clear hF; intro b1 w hb1 hF hE
 have nb1:b1≠pb:=by have:=hB.lt; omega
 replace hX:=hX.off_ext hB.lt hE
 replace hB:=hB.ext hE
 clear hE
 refine Ea (Fa (Ca (Ue O) (Ca (Ec Pc O) (Tc (Mf isAgg22 O hF.F 0 O O) (Ca (Va O) ?_)))))
 obtain ⟨A_,c_,B__,e_,heq_,-,-,hK_,hXs_⟩:=hX.tree_inv
 simp only [List.cons.injEq,Value.slice.injEq,true_and,and_true] at heq_
 obtain ⟨⟨rfl,rfl⟩,rfl,rfl⟩:=heq_
 obtain ⟨ad0,cs0,hA0,hl0,hk0,hx0⟩:=hXs_.tree_elem (i:=j) U
 have ho0:=hx0.one_
 refine Ja (v:=.pointer (some (ad0.add (j * 4)))) (Pa (i:=(j:Int)) Mg O hA0 O U U) (Ja (v:=.agg (List.toArray cs0)) (Fc (l:=cs0) isAgg27 sizeOf27 O hl0 hk0) (Ca (Va O) ?_))
 refine Pb (hv xs[j] (List.getElem_mem hj) m ind d _ B pb s _ hB.bd (hG.wrote hF.same h8 hBd.le) h8 hx0 (Jw hok.2.2 _ (List.getElem_mem hj)) ((Kg hn).2 _ (List.getElem_mem hj)) (by have h1:=Ah (List.getElem_mem hj); exact Nat.le_trans (Nat.mul_le_mul_left ind U) hd) (by have h1:=Ah (List.getElem_mem hj); omega) hl) (Gd L9 O O O O) ?_
 rintro _ w ⟨rfl,hBd2,hE⟩
 replace hF:=hF.wrote hB hE (by simp [Dl,nb1])
 replace hX:=hX.off hE
 replace hB:=hB.wrote hBd2 hE
 clear hBd2 hE
 refine Xa ?_
 refine Sf (Wd (Ih O) ?_)
 exact ⟨O,hB.bd,hF.same⟩
theorem KM (k:Int) (t:Str) (ks:List Str) (xs:List Tree) (m:Bool) (ind d:Nat) (j:Nat) (hj:j < xs.length) (hjk:j < ks.length) (w0:World) (B pb:Nat) (s:Str) (A B_:Option Addr) (c e:Nat) (hBd:Bd w0 B pb 162 [.bool m,.int .i64 (ind:Int)] s) (hG:Gl w0) (h8:8≤B) (hX:Rep (fun b=>b∉Wk w0 B pb) w0 (Vc (.node k t ks xs)) [.int .i64 k,.string (bs t),.slice A ks.length c,.slice B_ xs.length e]) (hv:∀ x∈xs,ON x) (hok:TG (.node k t ks xs)) (hn:Fe nodeB (.node k t ks xs)=true) (hd:ind * (d+Md xs)≤1000000000) (hd2:d+Md xs≤1000000000) (hl:s.length+(N_ m ind d ks[j] xs[j]).length≤140737488355328):Gw 157 #[.pointer (some ⟨pb,0,none⟩),.agg #[.int .i64 k,.string (bs t),.slice A ks.length c,.slice B_ xs.length e],.int .i64 (j:Int),.int .i64 (d:Int)] (.tuple #[]) w0 B pb 162 [.bool m,.int .i64 (ind:Int)] (s++N_ m ind d ks[j] xs[j]):=by
 unfold Gw
 rw [TG] at hok
 rw [N_] at hl
 simp only [List.length_append,List.length_cons,List.length_nil] at hl
 refine Ka func157 O ntmps157 Kb (GD _ _ _ _) ?_
 have hB:=BW.start hBd
 have hF:=FR.start w0 (Wk w0 B pb)
 refine Ia ?_
 refine Bh hF O ?_
 clear hF; intro b1 w hb1 hF hE
 have nb1:b1≠pb:=by have:=hB.lt; omega
 replace hX:=hX.off_ext hB.lt hE
 replace hB:=hB.ext hE
 clear hE
 refine Bc (Ca (Ue O) (Ca (Ec Af O) (Tc (Mf isAgg25 O hF.F 0 O O) (Ca (Va O) ?_))))
 obtain ⟨A_,c_,B__,e_,heq_,-,-,hK_,hXs_⟩:=hX.tree_inv
 simp only [List.cons.injEq,Value.slice.injEq,true_and,and_true] at heq_
 obtain ⟨⟨rfl,rfl⟩,rfl,rfl⟩:=heq_
 obtain ⟨ad0,hA0,hk0,hx0⟩:=hK_.str_elem (i:=j) U
 refine Ja (v:=.pointer (some (ad0.add (j * 1)))) (Pa (i:=(j:Int)) Gk O hA0 O U U) (Ja (v:=.string (bs (ks[j]))) (Ya isAgg9 O hk0) ?_)
 refine Pb (N5 _ B pb m ind s hB.bd (hG.wrote hF.same h8 hBd.le) h8 ks[j] (hok.2.1 _ (List.getElem_mem hjk)) U) (Vb EM O O O) ?_
 rintro _ w ⟨rfl,hBd2,hE⟩
 replace hF:=hF.wrote hB hE (by simp [Dl,nb1])
 replace hX:=hX.off hE
 replace hB:=hB.wrote hBd2 hE
 clear hBd2 hE
 refine Bc (Ca (Ue O) (Ca (Gg O) (Ca (Ec Sj O) ?_)))
 refine Pb (Hi hB.bd 58 Ua Ua (by rw [List.length_append]; omega)) (Vb Ip O O O) ?_
 rintro _ w ⟨rfl,hBd2,hE⟩
 replace hF:=hF.wrote hB hE (by simp [Dl,nb1])
 replace hX:=hX.off hE
 replace hB:=hB.wrote hBd2 hE
 clear hBd2 hE
 refine Ea (Ha (Ia (Ca (Ue O) (Ca (Gg O) (Ca (Ec L_ O) (Ja (v:=.bool (m)) (Ya isAgg4 O hB.bd.mul) (Ea ?_)))))))
 refine Mi O O (fun hc0=>?_) (fun hc0=>?_)
 refine Fa (Ca (Ue O) (Ca (Gg O) (Ca (Ec Sj O) ?_)))
 refine Pb (Hi hB.bd 32 Ua Ua (by simp only [List.length_append,List.length_cons,List.length_nil]; (first | rw [if_pos hc0] at hl | rw [if_neg (by simp [hc0])] at hl); simp only [List.length_cons,List.length_nil] at hl; omega)) (Vb Ip rfl rfl rfl) ?_
 rintro _ w ⟨rfl,hBd2,hE⟩
 replace hF:=hF.wrote hB hE (by simp [Dl,nb1])
 replace hX:=hX.off hE
 replace hB:=hB.wrote hBd2 hE
 clear hBd2 hE
 refine Ea (Fa (Ca (Ue O) (Ca (Ec Pc O) (Tc (Mf isAgg22 O hF.F 0 O O) (Ca (Va O) ?_)))))
 obtain ⟨A_,c_,B__,e_,heq_,-,-,hK_,hXs_⟩:=hX.tree_inv
 simp only [List.cons.injEq,Value.slice.injEq,true_and,and_true] at heq_
 obtain ⟨⟨rfl,rfl⟩,rfl,rfl⟩:=heq_
 obtain ⟨ad1,cs1,hA1,hl1,hk1,hx1⟩:=hXs_.tree_elem (i:=j) U
 have ho1:=hx1.one_
 refine Ja (v:=.pointer (some (ad1.add (j * 4)))) (Pa (i:=(j:Int)) Mg O hA1 O U U) (Ja (v:=.agg (List.toArray cs1)) (Fc (l:=cs1) isAgg27 sizeOf27 O hl1 hk1) (Ca (Va O) ?_))
 refine Pb (hv xs[j] (List.getElem_mem hj) m ind d _ B pb _ _ hB.bd (hG.wrote hF.same h8 hBd.le) h8 hx1 (Jw hok.2.2 _ (List.getElem_mem hj)) ((Kg hn).2 _ (List.getElem_mem hj)) (by have h1:=Ah (List.getElem_mem hj); exact Nat.le_trans (Nat.mul_le_mul_left ind U) hd) (by have h1:=Ah (List.getElem_mem hj); omega) (by simp only [List.length_append,List.length_cons,List.length_nil]; (first | rw [if_pos hc0] at hl | rw [if_neg (by simp [hc0])] at hl); simp only [List.length_cons,List.length_nil] at hl; omega)) (Gd L9 rfl rfl rfl rfl) ?_
 rintro _ w ⟨rfl,hBd2,hE⟩
 replace hF:=hF.wrote hB hE (by simp [Dl,nb1])
 replace hX:=hX.off hE
 replace hB:=hB.wrote hBd2 hE
 clear hBd2 hE
 refine Xa ?_
 refine Sf (Wd (Ih O) ?_)
 exact ⟨O,by simpa [N_,hc0] using hB.bd,hF.same⟩
 refine Qa (Ga (Fa (Ca (Ue O) (Ca (Ec Pc O) (Tc (Mf isAgg22 O hF.F 0 O O) (Ca (Va O) ?_))))))
 obtain ⟨A_,c_,B__,e_,heq_,-,-,hK_,hXs_⟩:=hX.tree_inv
 simp only [List.cons.injEq,Value.slice.injEq,true_and,and_true] at heq_
 obtain ⟨⟨rfl,rfl⟩,rfl,rfl⟩:=heq_
 obtain ⟨ad2,cs2,hA2,hl2,hk2,hx2⟩:=hXs_.tree_elem (i:=j) U
 have ho2:=hx2.one_
 refine Ja (v:=.pointer (some (ad2.add (j * 4)))) (Pa (i:=(j:Int)) Mg O hA2 O U U) (Ja (v:=.agg (List.toArray cs2)) (Fc (l:=cs2) isAgg27 sizeOf27 O hl2 hk2) (Ca (Va O) ?_))
 refine Pb (hv xs[j] (List.getElem_mem hj) m ind d _ B pb _ _ hB.bd (hG.wrote hF.same h8 hBd.le) h8 hx2 (Jw hok.2.2 _ (List.getElem_mem hj)) ((Kg hn).2 _ (List.getElem_mem hj)) (by have h1:=Ah (List.getElem_mem hj); exact Nat.le_trans (Nat.mul_le_mul_left ind U) hd) (by have h1:=Ah (List.getElem_mem hj); omega) (by simp only [List.length_append,List.length_cons,List.length_nil]; (first | rw [if_pos hc0] at hl | rw [if_neg (by simp [hc0])] at hl); simp only [List.length_cons,List.length_nil] at hl; omega)) (Gd L9 rfl rfl rfl rfl) ?_
 rintro _ w ⟨rfl,hBd2,hE⟩
 replace hF:=hF.wrote hB hE (by simp [Dl,nb1])
 replace hX:=hX.off hE
 replace hB:=hB.wrote hBd2 hE
 clear hBd2 hE
 refine Xa ?_
 refine Sf (Wd (Ih O) ?_)
 exact ⟨O,by simpa [N_,hc0] using hB.bd,hF.same⟩
end Go.Scarf
namespace Go.Scarf
open Go.RowKit Go.Proofs Go.Proofs.Tryz
theorem FK (m:Bool) (ind d:Nat) (b:Bool):Ej m ind d b []=[]:=by cases b <;> rfl
theorem NH (f:Nat) (hen:Ob prog f) (k:Int) (t:Str) (ks:List Str) (xs:List Tree) (m:Bool) (ind d:Nat) (bo bc:UInt8) (ps:List Str) (hps:ps.length=xs.length) (hI:OY f k t ks xs m ind (d+1) ps) (w0:World) (B pb:Nat) (s:Str) (A B_:Option Addr) (c e:Nat) (hBd:Bd w0 B pb 162 [.bool m,.int .i64 (ind:Int)] s) (hG:Gl w0) (h8:8≤B) (hX:Rep (fun b=>b∉Wk w0 B pb) w0 (Vc (.node k t ks xs)) [.int .i64 k,.string (bs t),.slice A ks.length c,.slice B_ xs.length e]) (hd1:ind * (d+1)≤1000000000) (hd2:d+1≤1000000000) (hxl:xs.length≤9223372036854775807) (hlim:s.length+(Gn m ind d bo bc ps).length≤140737488355328):Gw 155 #[.pointer (some ⟨pb,0,none⟩),.agg #[.int .i64 k,.string (bs t),.slice A ks.length c,.slice B_ xs.length e],.int .i64 (d:Int),.string (bs [bo,bc]),.func (.func f) #[.pointer (some ⟨pb,0,none⟩)] #[]] (.tuple #[]) w0 B pb 162 [.bool m,.int .i64 (ind:Int)] (s++Gn m ind d bo bc ps):=by
 unfold Gw
 rw [Gn] at hlim
 simp only [List.length_append,List.length_cons,List.length_nil] at hlim
 refine Ka func155 O ntmps155 Kb (Z8 _ _ _ _ _) ?_
 have hB:=BW.start hBd
 have hF:=FR.start w0 (Wk w0 B pb)
 refine Ia ?_
 refine Bh hF O ?_
 clear hF; intro b1 w hb1 hF hE
 have nb1:b1≠pb:=by have:=hB.lt; omega
 replace hX:=hX.off_ext hB.lt hE
 replace hB:=hB.ext hE
 clear hE
 refine Ea (Ha ?_)
 refine Uc [] (.free 0 (.free 1 (.free 2 (.free 3 (.free 4 (.act 5 .nil)))))) hF ?_
 clear hF; intro w hF hE
 replace hX:=hX.off_ext hB.lt hE
 replace hB:=hB.ext hE
 clear hE
 refine ⟨fun wq=>FR w0 (Wk w0 B pb) _ wq,hF,?_⟩
 refine Db O (Ue O) (Db O (Gg O) (Db O (Ec Sj O) (Db O (Qc O) ?_)))
 refine Oa O (v:=.int .u8 (((bo.toNat:Nat):Int))) (fun w hC=>Kd (s:=[bo,bc]) 0 underlying9 O O Ma) ?_
 refine Ye O (Zp hB.bd bo U) (Vb Ip O O O) ?_
 rintro _ w ⟨rfl,hBd2,hE⟩
 replace hF:=hF.wrote hB hE (by simp [Dl,nb1])
 replace hX:=hX.off hE
 replace hB:=hB.wrote hBd2 hE
 clear hBd2 hE
 refine ⟨hF,?_⟩
 refine Mc (Ga (Ha (Ia (Ca (Ec Pc O) (Tc (Mf isAgg22 O hF.F 0 O O) (Ca (Df underlying22 O) (Ca (Va O) (Ea (Ta ?_)))))))))
 refine Lc (fun μ σ w=>∃ (j:Nat),∃ (o:Str),μ=xs.length - j∧(j≤xs.length)∧(o++Ej m ind d (decide (j=0)) (ps.drop j)=s++([bo]++Ej m ind d true ps))∧(BW w0 (Wk w0 B pb) w B pb 162 [.bool m,.int .i64 (ind:Int)] (o))∧(Rep (fun b=>b∉Wk w B pb) w (Vc (.node k t ks xs)) [.int .i64 k,.string (bs t),.slice A ks.length c,.slice B_ xs.length e])∧AllEq σ [(0,.pointer (some ⟨pb,0,none⟩)),(2,.int .i64 ((d:Int))),(3,.string (bs ([bo,bc]))),(4,.func (.func f) #[.pointer (some ⟨pb,0,none⟩)] #[]),(6,.pointer (some ⟨b1,0,none⟩)),(19,.int .i64 ((xs.length:Nat))),(20,.int .i64 ((j:Int)))]∧FR w0 (Wk w0 B pb) [(b1,.cells #[.int .i64 k,.string (bs t),.slice A ks.length c,.slice B_ xs.length e] 27)] w) _ ⟨0,s++[bo],O,(Nat.zero_le _),Ma,(hB),(hX),BG,hF⟩ ?_
 clear hF; rintro μ σ w ⟨j,o,rfl,hj,hq,hB,hX,hs,hF⟩
 refine Cg.slots hs ?_
 clear hs; intro σ
 refine Ia (Ca (Yg O O) (Ea (Ha ?_)))
 refine Yb O O (fun hc0=>?_) (fun hc0=>?_)
 have hjp:j < ps.length:=by omega
 have hjd:=YK m ind d hjp
 have hL:=congrArg List.length hq
 rw [hjd] at hL
 have hif:(if j=0 then ([]:Str) else [44]).length=if j=0 then 0 else 1:=by split <;> rfl
 simp only [List.length_append,List.length_cons,List.length_nil,hif] at hL
 refine Qa (Ga (Ha (Ta (Ia (Ca (Va O) (Ca (Wb O) (Ea (Ha (Ia (Ca (Va O) ?_))))))))))
 refine Ca (Ho O O) (Ea ?_)
 refine Yb O O (fun hc1=>?_) (fun hc1=>?_)
 refine Fa (Ca (Ue O) (Ca (Gg O) (Ca (Ec Sj O) ?_)))
 refine Pb (Hi hB.bd 44 Ua Ua (by rw [if_neg U] at hL; omega)) (Vb Ip O O O) ?_
 rintro _ w ⟨rfl,hBd2,hE⟩
 replace hF:=hF.wrote hB hE (by simp [Dl,nb1])
 replace hX:=hX.off hE
 replace hB:=hB.wrote hBd2 hE
 clear hBd2 hE
 refine Bc (Ca (Ue O) (Ca (Va O) (Ca (If (((d+1:Nat):Int)) O O) ?_)))
 refine Pb (LF _ B pb m ind _ hB.bd (d+1) hd1 (by (try simp only [List.length_append,List.length_cons,List.length_nil]); first | (rw [if_neg U] at hL; omega) | (rw [if_pos U] at hL; omega))) (Vb HE rfl rfl rfl) ?_
 rintro _ w ⟨rfl,hBd2,hE⟩
 replace hF:=hF.wrote hB hE (by simp [Dl,nb1])
 replace hX:=hX.off hE
 replace hB:=hB.wrote hBd2 hE
 clear hBd2 hE
 refine Ea (Fa (Ca (XC) (Tc (Wj isAgg27 sizeOf27 O hF.F 0 O O) (Ca (Va O) (Ca (Va O) (Ca (If (((d+1:Nat):Int)) O O) ?_))))))
 refine Pb (hI j hjp _ B pb _ A B_ c e hB.bd (hG.wrote hF.same h8 hBd.le) h8 hX (by (try simp only [List.length_append,List.length_cons,List.length_nil]); first | (rw [if_neg U] at hL; omega) | (rw [if_pos U] at hL; omega))) (DC rfl hen rfl rfl rfl rfl) ?_
 rintro _ w ⟨rfl,hBd2,hE⟩
 replace hF:=hF.wrote hB hE (by simp [Dl,nb1])
 replace hX:=hX.off hE
 replace hB:=hB.wrote hBd2 hE
 clear hBd2 hE
 replace hB:BW w0 (Wk w0 B pb) w B pb 162 [.bool m,.int .i64 (ind:Int)] (o++((if j=0 then [] else [44])++(Oh m ind (d+1)++ps[j]))):=by first | (have h0:¬j=0:=U; rw [if_neg h0]; simpa using hB) | (have h0:j=0:=U; rw [if_pos h0]; simpa using hB)
 refine Xa (Eb (Ga (Fa (Ca (Sl O O) (Ca (Va O) (Xa ?_))))))
 refine Ib ⟨_,?_,j+1,o++((if j=0 then [] else [44])++(Oh m ind (d+1)++ps[j])),O,U,(by have h:=hq; rw [hjd] at h; simpa [List.append_assoc] using h),(hB),(hX),BG,hF⟩
 omega
 refine Qa (Ga (Ia (Ca (Ue O) (Ca (Va O) (Ca (If (((d+1:Nat):Int)) O O) ?_)))))
 refine Pb (LF _ B pb m ind _ hB.bd (d+1) hd1 (by (try simp only [List.length_append,List.length_cons,List.length_nil]); first | (rw [if_neg U] at hL; omega) | (rw [if_pos U] at hL; omega))) (Vb HE rfl rfl rfl) ?_
 rintro _ w ⟨rfl,hBd2,hE⟩
 replace hF:=hF.wrote hB hE (by simp [Dl,nb1])
 replace hX:=hX.off hE
 replace hB:=hB.wrote hBd2 hE
 clear hBd2 hE
 refine Ea (Fa (Ca (XC) (Tc (Wj isAgg27 sizeOf27 O hF.F 0 O O) (Ca (Va O) (Ca (Va O) (Ca (If (((d+1:Nat):Int)) O O) ?_))))))
 refine Pb (hI j hjp _ B pb _ A B_ c e hB.bd (hG.wrote hF.same h8 hBd.le) h8 hX (by (try simp only [List.length_append,List.length_cons,List.length_nil]); first | (rw [if_neg U] at hL; omega) | (rw [if_pos U] at hL; omega))) (DC rfl hen rfl rfl rfl rfl) ?_
 rintro _ w ⟨rfl,hBd2,hE⟩
 replace hF:=hF.wrote hB hE (by simp [Dl,nb1])
 replace hX:=hX.off hE
 replace hB:=hB.wrote hBd2 hE
 clear hBd2 hE
 replace hB:BW w0 (Wk w0 B pb) w B pb 162 [.bool m,.int .i64 (ind:Int)] (o++((if j=0 then [] else [44])++(Oh m ind (d+1)++ps[j]))):=by first | (have h0:¬j=0:=U; rw [if_neg h0]; simpa using hB) | (have h0:j=0:=U; rw [if_pos h0]; simpa using hB)
 refine Xa (Eb (Ga (Fa (Ca (Sl O O) (Ca (Va O) (Xa ?_))))))
 refine Ib ⟨_,?_,j+1,o++((if j=0 then [] else [44])++(Oh m ind (d+1)++ps[j])),O,U,(by have h:=hq; rw [hjd] at h; simpa [List.append_assoc] using h),(hB),(hX),BG,hF⟩
 omega
 have hq2:o=s++([bo]++Ej m ind d true ps):=by have h:=hq; rw [List.drop_eq_nil_of_le U,FK,List.append_nil] at h; exact h
 refine Dc (Cc O ?_)
 refine Ga (Ha (Ia (Ca (Ec Pc O) (Tc (Mf isAgg22 O hF.F 0 O O) (Ca (Df underlying22 O) (Ca (Ho O O) (Ea ?_)))))))
 refine Yb O O (fun hc2=>?_) (fun hc2=>?_)
 have hpn:ps≠[]:=by intro hp; rw [hp] at hps; simp at hps; omega
 refine Fa (Ca (Ue O) (Ca (Va O) ?_))
 refine Pb (LF _ B pb m ind _ hB.bd d (Nat.le_trans (Nat.mul_le_mul_left ind U) hd1) (by have hp:ps≠[]:=(by intro hp; rw [hp] at hps; simp at hps; omega); rw [if_neg hp] at hlim; rw [hq2]; (try simp only [List.length_append,List.length_cons,List.length_nil]); omega)) (Vb HE rfl rfl rfl) ?_
 rintro _ w ⟨rfl,hBd2,hE⟩
 replace hF:=hF.wrote hB hE (by simp [Dl,nb1])
 replace hX:=hX.off hE
 replace hB:=hB.wrote hBd2 hE
 clear hBd2 hE
 refine Ea ?_
 refine Uc [] (.free 0 (.free 1 (.free 2 (.free 3 (.free 4 (.act 5 .nil)))))) hF ?_
 clear hF; intro w hF hE
 replace hX:=hX.off_ext hB.lt hE
 replace hB:=hB.ext hE
 clear hE
 refine ⟨fun wq=>FR w0 (Wk w0 B pb) _ wq,hF,?_⟩
 refine Db O (Ue O) (Db O (Gg O) (Db O (Ec Sj O) (Db O (Qc O) ?_)))
 refine Oa O (v:=.int .u8 (((bc.toNat:Nat):Int))) (fun w hC=>Kd (s:=[bo,bc]) 1 underlying9 O O Ma) ?_
 refine Ye rfl (Zp hB.bd bc (by rw [hq2]; (try simp only [List.length_append,List.length_cons,List.length_nil]); first | (rw [if_neg hpn] at hlim; omega) | omega)) (Vb Ip rfl rfl rfl) ?_
 rintro _ w ⟨rfl,hBd2,hE⟩
 replace hF:=hF.wrote hB hE (by simp [Dl,nb1])
 replace hX:=hX.off hE
 replace hB:=hB.wrote hBd2 hE
 clear hBd2 hE
 refine ⟨hF,?_⟩
 refine Mc ?_
 refine Sf (Wd (Ih O) ?_)
 refine ⟨O,?_,hF.same⟩
 have hb:=hB.bd
 rw [hq2] at hb
 rw [Gn,if_neg hpn]
 simpa [List.append_assoc] using hb
 have hpz:ps=[]:=List.eq_nil_of_length_eq_zero U
 refine Qa (Ga ?_)
 refine Uc [] (.free 0 (.free 1 (.free 2 (.free 3 (.free 4 (.act 5 .nil)))))) hF ?_
 clear hF; intro w hF hE
 replace hX:=hX.off_ext hB.lt hE
 replace hB:=hB.ext hE
 clear hE
 refine ⟨fun wq=>FR w0 (Wk w0 B pb) _ wq,hF,?_⟩
 refine Db O (Ue O) (Db O (Gg O) (Db O (Ec Sj O) (Db O (Qc O) ?_)))
 refine Oa O (v:=.int .u8 (((bc.toNat:Nat):Int))) (fun w hC=>Kd (s:=[bo,bc]) 1 underlying9 O O Ma) ?_
 refine Ye rfl (Zp hB.bd bc (by rw [hq2]; (try simp only [List.length_append,List.length_cons,List.length_nil]); first | (rw [if_neg hpn] at hlim; omega) | omega)) (Vb Ip rfl rfl rfl) ?_
 rintro _ w ⟨rfl,hBd2,hE⟩
 replace hF:=hF.wrote hB hE (by simp [Dl,nb1])
 replace hX:=hX.off hE
 replace hB:=hB.wrote hBd2 hE
 clear hBd2 hE
 refine ⟨hF,?_⟩
 refine Mc ?_
 refine Sf (Wd (Ih O) ?_)
 refine ⟨O,?_,hF.same⟩
 have hb:=hB.bd
 rw [hq2] at hb
 rw [Gn,if_pos hpz]
 simpa [List.append_assoc] using hb
theorem OD (k:Int) (t:Str) (ks:List Str) (xs:List Tree) (ih:∀ x∈xs,ON x) (m:Bool) (ind d:Nat) (w0:World) (B pb:Nat) (s:Str) (A B_:Option Addr) (c e:Nat) (hBd:Bd w0 B pb 162 [.bool m,.int .i64 (ind:Int)] s) (hG:Gl w0) (h8:8≤B) (hX:Rep (fun b=>b∉Wk w0 B pb) w0 (Vc (.node k t ks xs)) [.int .i64 k,.string (bs t),.slice A ks.length c,.slice B_ xs.length e]) (hok:TG (.node k t ks xs)) (hn:Fe nodeB (.node k t ks xs)=true) (hd:ind * (d+Cd (.node k t ks xs))≤1000000000) (hd2:d+Cd (.node k t ks xs)≤1000000000) (hxl:xs.length≤9223372036854775807) (hl:s.length+(Xg m ind (.node k t ks xs) d).length≤140737488355328):Gw 123 #[.pointer (some ⟨pb,0,none⟩),.agg #[.int .i64 k,.string (bs t),.slice A ks.length c,.slice B_ xs.length e],.int .i64 (d:Int)] (.tuple #[]) w0 B pb 162 [.bool m,.int .i64 (ind:Int)] (s++Xg m ind (.node k t ks xs) d):=by
 unfold Gw
 refine Ka func123 O ntmps123 Kb (Dp _ _ _) ?_
 have hB:=BW.start hBd
 have hF:=FR.start w0 (Wk w0 B pb)
 refine Ia ?_
 refine Bh hF O ?_
 clear hF; intro b1 w hb1 hF hE
 have nb1:b1≠pb:=by have:=hB.lt; omega
 replace hX:=hX.off_ext hB.lt hE
 replace hB:=hB.ext hE
 clear hE
 refine Bc (Ca (Ec Ke O) (Tc (Hl isAgg3 O hF.F 0 O O) (Ea (Ta (Ia (Ca (Th O O) (Ca (Hc O) (Xa ?_))))))))
 refine Ga ?_
 refine Yb O O (fun hc0=>?_) (fun hc0=>?_)
 refine Fa (Ca (Ue O) (Ca (Gg O) (Ca (Ec Sj O) ?_)))
 have hkk_:k=1:=by omega
 refine Pb (El hB.bd [110,117,108,108] (by rw [Xg,if_pos hkk_] at hl; exact hl)) (Vb N4 O O O) ?_
 rintro _ w ⟨rfl,hBd2,hE⟩
 replace hF:=hF.wrote hB hE (by simp [Dl,nb1])
 replace hX:=hX.off hE
 replace hB:=hB.wrote hBd2 hE
 clear hBd2 hE
 refine Xa (Eb ?_)
 refine Sf (Wd (Ih O) ?_)
 refine ⟨O,?_,hF.same⟩
 rw [Xg]
 first | (rw [if_pos hkk_]; exact hB.bd) | (rw [if_neg U,if_pos hkk_]; exact hB.bd) | (rw [if_neg U,if_neg U,if_pos hkk_]; exact hB.bd) | (rw [if_neg U,if_neg U,if_neg U,if_pos hkk_]; exact hB.bd) | (rw [if_neg U,if_neg U,if_neg U,if_neg U]; exact hB.bd)
 refine Ia (Ca (Th O O) (Ca (Hc O) (Ea ?_)))
 refine Yb O O (fun hc1=>?_) (fun hc1=>?_)
 refine Fa (Ca (Ue O) (Ca (Ec Of O) (Tc (Tp isAgg9 O hF.F 0 O O) ?_)))
 have hkk_:k=4:=by omega
 refine Pb (N5 _ B pb m ind s hB.bd (hG.wrote hF.same h8 hBd.le) h8 t (by rw [TG] at hok; exact hok.1) (by rw [Xg,if_neg U,if_pos hkk_] at hl; exact hl)) (Vb EM O O O) ?_
 rintro _ w ⟨rfl,hBd2,hE⟩
 replace hF:=hF.wrote hB hE (by simp [Dl,nb1])
 replace hX:=hX.off hE
 replace hB:=hB.wrote hBd2 hE
 clear hBd2 hE
 refine Xa (Eb ?_)
 refine Sf (Wd (Ih O) ?_)
 refine ⟨O,?_,hF.same⟩
 rw [Xg]
 first | (rw [if_pos hkk_]; exact hB.bd) | (rw [if_neg U,if_pos hkk_]; exact hB.bd) | (rw [if_neg U,if_neg U,if_pos hkk_]; exact hB.bd) | (rw [if_neg U,if_neg U,if_neg U,if_pos hkk_]; exact hB.bd) | (rw [if_neg U,if_neg U,if_neg U,if_neg U]; exact hB.bd)
 refine Ia (Ca (Th O O) (Ca (Hc O) (Ea ?_)))
 refine Yb O O (fun hc2=>?_) (fun hc2=>?_)
 refine Fa (Ca (Ue O) (Tc (Wj isAgg27 sizeOf27 O hF.F 0 O O) (Ca (Va O) (Ca (Ue O) (Ja (v:=.func (.func 156) #[.pointer (some ⟨pb,0,none⟩)] #[]) (Nw O) ?_)))))
 have hkk_:k=5:=by omega
 refine Pb (NH 156 PW k t ks xs m ind d 91 93 (Jq m ind xs (d+1)) (by rw [Gr,List.length_map]) (fun j hj w1 B1 p1 s1 A1 B1_ c1 e1 hb1_ hg1 h81 hx1 hl1=>by have hj2:j < xs.length:=(by rw [Gr,List.length_map] at hj; exact hj); have hg:(Jq m ind xs (d+1))[j]=Xg m ind xs[j] (d+1):=(by simp only [Gr,List.getElem_map]); rw [hg] at hl1 ⊢; exact SV k t ks xs m ind (d+1) j hj2 w1 B1 p1 s1 A1 B1_ c1 e1 hb1_ hg1 h81 hx1 ih hok hn (by rw [Cd] at hd; exact Nat.le_trans (Nat.mul_le_mul_left ind U) hd) (by rw [Cd] at hd2; omega) hl1) _ B pb s A B_ c e hB.bd (hG.wrote hF.same h8 hBd.le) h8 hX (by have h1:=hd; rw [Cd] at h1; exact Nat.le_trans (Nat.mul_le_mul_left ind U) h1) (by rw [Cd] at hd2; omega) hxl (by rw [Xg] at hl; simpa [hkk_] using hl)) (Tn TO O O O O O O) ?_
 rintro _ w ⟨rfl,hBd2,hE⟩
 replace hF:=hF.wrote hB hE (by simp [Dl,nb1])
 replace hX:=hX.off hE
 replace hB:=hB.wrote hBd2 hE
 clear hBd2 hE
 refine Xa (Eb ?_)
 refine Sf (Wd (Ih O) ?_)
 refine ⟨O,?_,hF.same⟩
 rw [Xg]
 first | (rw [if_pos hkk_]; exact hB.bd) | (rw [if_neg U,if_pos hkk_]; exact hB.bd) | (rw [if_neg U,if_neg U,if_pos hkk_]; exact hB.bd) | (rw [if_neg U,if_neg U,if_neg U,if_pos hkk_]; exact hB.bd) | (rw [if_neg U,if_neg U,if_neg U,if_neg U]; exact hB.bd)
 refine Ia (Ca (Th O O) (Ca (Hc O) (Ea ?_)))
 refine Yb O O (fun hc3=>?_) (fun hc3=>?_)
 refine Fa (Ca (Ue O) (Tc (Wj isAgg27 sizeOf27 O hF.F 0 O O) (Ca (Va O) (Ca (Ue O) (Ja (v:=.func (.func 157) #[.pointer (some ⟨pb,0,none⟩)] #[]) (Nw O) ?_)))))
 have hkk_:k=6:=by omega
 have hkl:ks.length=xs.length:=(Us (hkk_ ▸ (Kg hn).1)).2
 refine Pb (NH 157 KV k t ks xs m ind d 123 125 (Cn m ind xs ks (d+1)) (by rw [No]) (fun j hj w1 B1 p1 s1 A1 B1_ c1 e1 hb1_ hg1 h81 hx1 hl1=>by have hj2:j < xs.length:=(by rw [No] at hj; exact hj); have hg:=Bz m ind (d+1) xs ks j hj2 U hj; rw [hg] at hl1 ⊢; exact KM k t ks xs m ind (d+1) j hj2 U w1 B1 p1 s1 A1 B1_ c1 e1 hb1_ hg1 h81 hx1 ih hok hn (by rw [Cd] at hd; exact Nat.le_trans (Nat.mul_le_mul_left ind U) hd) (by rw [Cd] at hd2; omega) hl1) _ B pb s A B_ c e hB.bd (hG.wrote hF.same h8 hBd.le) h8 hX (by have h1:=hd; rw [Cd] at h1; exact Nat.le_trans (Nat.mul_le_mul_left ind U) h1) (by rw [Cd] at hd2; omega) hxl (by rw [Xg] at hl; simpa [hkk_] using hl)) (Tn TO O O O O O O) ?_
 rintro _ w ⟨rfl,hBd2,hE⟩
 replace hF:=hF.wrote hB hE (by simp [Dl,nb1])
 replace hX:=hX.off hE
 replace hB:=hB.wrote hBd2 hE
 clear hBd2 hE
 refine Xa (Eb ?_)
 refine Sf (Wd (Ih O) ?_)
 refine ⟨O,?_,hF.same⟩
 rw [Xg]
 first | (rw [if_pos hkk_]; exact hB.bd) | (rw [if_neg U,if_pos hkk_]; exact hB.bd) | (rw [if_neg U,if_neg U,if_pos hkk_]; exact hB.bd) | (rw [if_neg U,if_neg U,if_neg U,if_pos hkk_]; exact hB.bd) | (rw [if_neg U,if_neg U,if_neg U,if_neg U]; exact hB.bd)
 refine Uc [] (.free 0 (.free 1 (.free 2 (.free 3 (.free 4 (.act 5 .nil)))))) hF ?_
 clear hF; intro w hF hE
 replace hX:=hX.off_ext hB.lt hE
 replace hB:=hB.ext hE
 clear hE
 refine ⟨fun wq=>FR w0 (Wk w0 B pb) _ wq,hF,?_⟩
 refine Db O (Ue O) (Db O (Gg O) (Db O (Ec Sj O) (Db O (Ec Of O) (Uk O (Tp isAgg9 O C0 0 O O) ?_))))
 refine Ye O (El hB.bd t (by rw [Xg,if_neg U,if_neg U,if_neg U,if_neg U] at hl; exact hl)) (Vb N4 O O O) ?_
 rintro _ w ⟨rfl,hBd2,hE⟩
 replace hF:=hF.wrote hB hE (by simp [Dl,nb1])
 replace hX:=hX.off hE
 replace hB:=hB.wrote hBd2 hE
 clear hBd2 hE
 refine ⟨hF,?_⟩
 refine Mc (Eb ?_)
 refine Sf (Wd (Ih O) ?_)
 refine ⟨O,?_,hF.same⟩
 rw [Xg]
 first | (rw [if_pos hkk_]; exact hB.bd) | (rw [if_neg U,if_pos hkk_]; exact hB.bd) | (rw [if_neg U,if_neg U,if_pos hkk_]; exact hB.bd) | (rw [if_neg U,if_neg U,if_neg U,if_pos hkk_]; exact hB.bd) | (rw [if_neg U,if_neg U,if_neg U,if_neg U]; exact hB.bd)
theorem YR (x:Tree):ON x:=Tree.ind (Q:=ON) (fun k t ks xs ih m ind d w0 B pb s cs hBd hG h8 hX hok hn hd hd2 hl=>by
  obtain ⟨A,c,B_,e,rfl,-,-,-,hXs⟩:=hX.tree_inv
  have h1:=hXs.slice_len
  exact OD k t ks xs ih m ind d w0 B pb s A B_ c e hBd hG h8 hX hok hn hd hd2 U hl) x
end Go.Scarf
namespace Go.Scarf
open Go.RowKit Go.Proofs Go.Proofs.Tryz
theorem WE {t:Str} (h:Aj t=true):t≠[]:=by
  rintro rfl
  revert h
  decide
theorem TR (m:Bool) (ind:Nat) (x:Tree) (d:Nat) (h:Je x=true):Xg m ind x d≠[]:=by
  obtain ⟨k,t,ks,xs⟩:=x
  unfold Je at h
  rw [Bool.and_eq_true] at h
  have h1:=(Kg h.2).1
  unfold rnodeB at h1
  rw [Bool.and_eq_true,decide_eq_true_eq] at h1
  obtain ⟨h7,h1⟩:=h1
  have h7':k≠7:=h7
  rw [Xg]
  split
  · simp
  split
  · rename_i h4
    subst h4
    simp [nodeB] at h1
    rw [qS,if_pos h1.2]; simp [Kv]
  split
  · simp [Gn]
  split
  · simp [Gn]
  · rename_i g1 g4 g5 g6
    simp only [nodeB,if_neg g5,if_neg g6,if_neg g1,if_neg g4,if_neg h7'] at h1
    split at h1
    · cases h1
    split at h1
    · rw [Bool.or_eq_true, decide_eq_true_eq, decide_eq_true_eq] at h1
      rcases h1 with rfl | rfl <;> simp
    split at h1
    · exact WE h1
    · cases h1
theorem JJ {x:Tree} (h:Je x=true):Fe nodeB x=true:=by
  unfold Je at h
  rw [Bool.and_eq_true] at h
  refine Tree.ind (Q:=fun x=>Fe rnodeB x=true→Fe nodeB x=true) (fun k t ks xs ih h=>?_) x h.2
  rw [Fe,Bool.and_eq_true] at h ⊢
  have h1:=h.1
  unfold rnodeB at h1
  rw [Bool.and_eq_true] at h1
  refine ⟨h1.2,?_⟩
  have key:∀ ys:List Tree,(∀ y∈ys,y∈xs)→Tq rnodeB ys=true→Tq nodeB ys=true:=by
    intro ys
    induction ys with
    | nil=>intro _ _; rfl
    | cons y ys ihy =>
      intro hm hs
      rw [Tq,Bool.and_eq_true] at hs ⊢
      exact ⟨ih y (hm y Ma) hs.1,ihy (fun z hz=>hm z (by simp [hz])) hs.2⟩
  exact key xs (fun _ h=>h) h.2
theorem Iq {x:Tree} (h:Je x=true):Cd x≤32:=by
  unfold Je Rl at h
  simp only [Bool.and_eq_true,decide_eq_true_eq] at h
  exact h.1.2
theorem XI (x:Tree) (S:Nat→Prop) (w0:World) (cs:List Value) (rx:Rep S w0 (Vc x) cs) (hG:Gl w0) (hk:U4 x) (hq:TG x) (hsz:Oc x≤1000000000) (hlim:Je x=true→(Xg false 0 x 0).length≤140737488355328):Calls prog 96 #[.agg cs.toArray] w0 (De fun v w'=>v=(if Je x=true then .tuple #[.string (bs (Xg false 0 x 0)),.int .i64 0] else .tuple #[.string (bs []),.int .i64 1])∧Same [] w0 w'):=by
 have hl:cs.length=4:=rx.length.trans (Dd x)
 have ho:=rx.one_
 refine Ka func96 O ntmps96 Kb (Sc _) ?_
 have hF:=FR.start w0 []
 refine Ia ?_
 refine Io (v:=.agg (List.toArray cs)) (cs:=(List.toArray cs)) hF O O ?_
 clear hF; rintro b1 w hb1 hF -
 refine Ca (Rd O) (Ca (Wb O) (Ea (Ha (Ia (Ja (v:=.agg (List.toArray cs)) (Fc (l:=cs) isAgg27 sizeOf27 O hl (hF.cellsAll 0 O)) ?_)))))
 refine Jb hF (N8 x U _ _ _ (hF.rep rx) hk (hG.ext hF.same)) (Cb MP O O) ?_
 clear hF; intro w hF
 refine Ca (Pn O) (Ea ?_)
 refine Mi O O (fun hc0=>?_) (fun hc0=>?_)
 refine Ia (Ca (Rd O) (Ca (Wb O) (Ea ?_)))
 refine Ub (Rb (Sa (Ld (v:=.string (bs [])) (x:=.int .i64 1) O O O) ?_))
 exact ⟨by rw [if_neg (by simpa using hc0)],hF.same⟩
 refine Qa (Ga (Ia ?_))
 refine Fg (cs:=#[.pointer none,.slice none 0 0,.bool false,.int .i64 0]) hF zeroValue162 O ?_
 clear hF; rintro b2 w hb2 hF -
 refine Bc (Ja (v:=.agg (List.toArray cs)) (Fc (l:=cs) isAgg27 sizeOf27 O hl (hF.cellsAll 1 O)) ?_)
 have hB:BW w0 [] w b2 b2 162 [.bool false,.int .i64 ((0:Nat):Int)] []:=BW.own ⟨.inr ⟨rfl,_,_,rfl⟩,Nat.le_refl _,_,_,hF.heap (i:=0) rfl,World.ownsRow_nil _ _ _ _,.inl rfl⟩ (hF.ge (i:=0) rfl) hF.same.size
 have nb1:b1≠b2:=Wi hF.desc (i:=1) (j:=0) rfl rfl Ua
 have hge:=hF.ge (i:=0) rfl
 replace hF:FR w0 [] [(b1,.cells cs.toArray 27)] w:=hF.drop 1
 have hXo:Rep (fun b=>b∉Wk w b2 b2) w (Vc x) cs:=(rx.old.same hF.same Ma).weaken fun b hb _ hm=>by have h1:=hb.2; rcases Mh.1 hm with rfl | ⟨-,h2,-⟩ <;> omega
 refine Pb (YR x false 0 0 _ b2 b2 [] cs hB.bd (hG.ext hF.same) (by have:=hG.size; omega) hXo hq (JJ (by simpa using hc0)) U (by have:=Iq (x:=x) (by simpa using hc0); omega) (by simpa using hlim (by simpa using hc0))) (Gd L9 O O O O) ?_
 rintro _ w ⟨rfl,hBd2,hE⟩
 replace hF:=hF.wrote hB hE (by simp [Dl,nb1])
 replace hB:=hB.wrote hBd2 hE
 clear hBd2 hE
 refine Bc (Ca (Ec Sj O) ?_)
 refine Pb (CA hB.bd (by simpa using TR false 0 x 0 (by simpa using hc0))) (Cb HO O O) ?_
 rintro _ w ⟨rfl,hE⟩
 replace hF:=hF.wrote hB hE (by simp [Dl,nb1])
 clear hE
 refine Ca (Rd O) (Ca (Wb O) (Ea ?_))
 refine Ub (Rb (Sa (Ld (v:=.string (bs ([]++Xg false 0 x 0))) (x:=.int .i64 0) O O O) ?_))
 exact ⟨by rw [if_pos (by simpa using hc0)]; rfl,hF.same⟩
end Go.Scarf
