/- A part of the proof. -/
import Derived.Laws.RangeAny
import Derived.Laws.RangeString
import Derived.KernelRfl
import Derived.Test.YthhhbkkelnaekaaGreatDoorMem
import Derived.WideLaws
import Derived.Laws.Small
import Derived.Laws.AppendOwn
import Derived.Laws.IdiomRangeMap
import Derived.WalkSpells
import Derived.LaidEqlPtr
import Derived.Sort.KeysCollected
set_option linter.all false
namespace Go.Scarf
open Go.RowKit
section
variable {P:Program} {R:Exit→Act→World→Prop} {n:Nat} {k:Kt} {s:Nat→Value} {w:World} {ops rest:List Oper}
variable {d:Nat} {dst:Option Nat} {op:Op} {ty:TypeId} {pos:String} {aft:Array Edge} {g:Option (Nat × Bool)} {ρ:Operand→Value}
variable {w0:World} {Ds:List Nat} {bs_:List (Nat × Obj)} {C:World→Prop} {zs:List Nat} {order:Ord}
theorem Xv {F:(Nat→Value)→Prop} {b:Bool} (hx:s d=.bool b) (ht:b=true→F (Xi s d (.bool true))) (hf:b=false→F (Xi s d (.bool false))):F s:=by
  cases b with
  | true=>have:=ht rfl; rwa [S3 s d _ hx] at this
  | false=>have:=hf rfl; rwa [S3 s d _ hx] at this
theorem Jf {b:Bool} (hx:s d=.bool b) (ht:b=true→Og P R n ops k rest (Xi s d (.bool true)) w) (hf:b=false→Og P R n ops k rest (Xi s d (.bool false)) w):Og P R n ops k rest s w :=
  Xv (F:=fun s=>Og P R n ops k rest s w) hx ht hf
theorem Hb {p:Prop} {_:Decidable p} (hx:s d=.bool (decide p)) (ht:p→Og P R n ops k rest (Xi s d (.bool true)) w) (hf:¬p→Og P R n ops k rest (Xi s d (.bool false)) w):Og P R n ops k rest s w :=
  Jf hx (fun h=>ht (of_decide_eq_true h)) (fun h=>hf (of_decide_eq_false h))
theorem KI {c:Code} {b:Bool} (hx:s d=.bool b) (ht:b=true→Cg P R n c k (Xi s d (.bool true)) w) (hf:b=false→Cg P R n c k (Xi s d (.bool false)) w):Cg P R n c k s w :=
  Xv (F:=fun s=>Cg P R n c k s w) hx ht hf
theorem CN {c:Code} {p:Prop} {_:Decidable p} (hx:s d=.bool (decide p)) (ht:p→Cg P R n c k (Xi s d (.bool true)) w) (hf:¬p→Cg P R n c k (Xi s d (.bool false)) w):Cg P R n c k s w :=
  KI hx (fun h=>ht (of_decide_eq_true h)) (fun h=>hf (of_decide_eq_false h))
theorem KR {b:Bool} (hx:s d=.bool b) (ht:b=true→Dg P R n ops k zs order C (Xi s d (.bool true)) w) (hf:b=false→Dg P R n ops k zs order C (Xi s d (.bool false)) w):Dg P R n ops k zs order C s w :=
  Xv (F:=fun s=>Dg P R n ops k zs order C s w) hx ht hf
theorem Ik {p:Prop} {_:Decidable p} (hx:s d=.bool (decide p)) (ht:p→Dg P R n ops k zs order C (Xi s d (.bool true)) w) (hf:¬p→Dg P R n ops k zs order C (Xi s d (.bool false)) w):Dg P R n ops k zs order C s w :=
  KR hx (fun h=>ht (of_decide_eq_true h)) (fun h=>hf (of_decide_eq_false h))
theorem Vw {t:TypeId} {a:Addr} {l:List Value} {m:Nat} (ha:∀ w,(isAgg t).run P w=.ok true w) (hs:∀ w,(sizeOf t).run P w=.ok m w) (hm:l.length=m)
    (hc:∀ j (h:j < l.length),w.cell? (a.add j)=some l[j]):(loadVar t a).run P w=.ok (.agg l.toArray) w:=by
  simp [loadVar,ha,hs,Pq a w l hm hc]
variable {fn:Func}
theorem Bn {t T:Nat} {a:Addr} {l:List Value} {m:Nat} (h:fn.results=#[.cell t T]) (hx:ev n s (.tmp t)=.pointer (some a)) (ha:∀ w,(isAgg T).run P w=.ok true w) (hs:∀ w,(sizeOf T).run P w=.ok m w) (hm:l.length=m)
    (hc:∀ j (h:j < l.length),w.cell? (a.add j)=some l[j]):(results fn (Wm n s).tmps).run P w=.ok (.agg l.toArray) w:=by
  have h1:=Kh n s t
  rw [hx,Array.getD_eq_getD_getElem?] at h1
  simp [results,h,h1,asAddr,Vw ha hs hm hc]
theorem Ve {t T u:Nat} {a:Addr} {l:List Value} {m:Nat} {v:Value} (h:fn.results=#[.cell t T,.tmp u]) (hx:ev n s (.tmp t)=.pointer (some a)) (ha:∀ w,(isAgg T).run P w=.ok true w) (hs:∀ w,(sizeOf T).run P w=.ok m w) (hm:l.length=m)
    (hc:∀ j (h:j < l.length),w.cell? (a.add j)=some l[j]) (hv:ev n s (.tmp u)=v):(results fn (Wm n s).tmps).run P w=.ok (.tuple #[.agg l.toArray,v]) w:=by
  have h1:=Kh n s t
  have h2:=Kh n s u
  rw [hx,Array.getD_eq_getD_getElem?] at h1
  rw [hv,Array.getD_eq_getD_getElem?] at h2
  simp [results,h,h1,h2,asAddr,Vw ha hs hm hc]
theorem Vx {t:TypeId} {x:Operand} {str:Str} (hF:FR w0 Ds bs_ w) (ht:P.underlying t=some .string) (hx:ev n s x=.string (bs str))
    (h:∀ b w',b=w.heap.size→FR w0 Ds ((b,.stringIter (bs str) 0)::bs_) w'→Same [] w w'→Og P R n ops k rest (Xi s d (.pointer (some ⟨b,0,none⟩))) w')
    (hw:Kc ops n s ⟨some d,.range t x,ty,pos,aft,g⟩=true:=by rfl):Og P R n ops k (⟨some d,.range t x,ty,pos,aft,g⟩::rest) s w:=by
  refine Ja (w':=w.alloc (.stringIter (bs str) 0)) ?_ (h _ _ O (hF.alloc _) (Same.alloc w _)) hw
  have hu:∀ w,(underlying t).run P w=.ok .string w:=run_underlying ht
  simp [execOp,Instr.range,hu,hx,newObj,Sem.run]
theorem Y0 {b:Nat} {a:ByteArray} {p q:Nat} (h:w.heap[b]? = some (.stringIter a p)):(setObj b (.stringIter a q)).run P w=.ok () { w with heap:=w.heap.setIfInBounds b (.stringIter a q) }:=by
  simp [setObj,Sem.run,h]
theorem Ps {b:Nat} {a:ByteArray} {p:Nat} (h:w.heap[b]? = some (.stringIter a p)):(getObj b).run P w=.ok (.stringIter a p) w:=by
  simp [getObj,Sem.run,h]
theorem Hr (w:World) (b:Nat) (o:Obj):Same [b] w { w with heap:=w.heap.setIfInBounds b o } :=
  ⟨rfl,rfl,rfl,by simp,fun c _ hn=>by
    show (w.heap.setIfInBounds b o)[c]? = _
    rw [Array.getElem?_setIfInBounds_ne]
    simp at hn; omega⟩
theorem F1 (i:Nat) {x:Operand} {b p:Nat} {str:Str} (hF:FR w0 Ds bs_ w) (hx:ev n s x=.pointer (some ⟨b,0,none⟩)) (hi:bs_[i]? = some (b,.stringIter (bs str) p)) (hp:p < str.length)
    (h:∀ w',FR w0 Ds (bs_.set i (b,.stringIter (bs str) (p+(Utf8.decode (bs str) p).2))) w'→Same [b] w w' →
      Og P R n ops k rest (Xi s d (.tuple #[.bool true,.int .i64 (p:Int),.int .i32 ((Utf8.decode (bs str) p).1:Int)])) w')
    (hw:Kc ops n s ⟨some d,.next x true,ty,pos,aft,g⟩=true:=by rfl):Og P R n ops k (⟨some d,.next x true,ty,pos,aft,g⟩::rest) s w:=by
  have hh:=hF.heap hi
  refine Ja (w':={ w with heap:=w.heap.setIfInBounds b (.stringIter (bs str) (p+(Utf8.decode (bs str) p).2)) }) ?_ (h _ (hF.change i hi (Hr w b _) ?_) (Hr w b _)) hw
  · have hp' : p < (bs str).size := hp
    generalize bs str=u at *
    simp [execOp,Instr.next,hx,Ps hh,hp',Y0 hh,goInt]
  · have := Ra hh
    simp [this]
theorem Fs (i:Nat) {x:Operand} {b p:Nat} {str:Str} (hF:FR w0 Ds bs_ w) (hx:ev n s x=.pointer (some ⟨b,0,none⟩)) (hi:bs_[i]? = some (b,.stringIter (bs str) p)) (hp:¬p < str.length)
    (h:Og P R n ops k rest (Xi s d (.tuple #[.bool false])) w)
    (hw:Kc ops n s ⟨some d,.next x true,ty,pos,aft,g⟩=true:=by rfl):Og P R n ops k (⟨some d,.next x true,ty,pos,aft,g⟩::rest) s w:=by
  have hh:=hF.heap hi
  refine Ja ?_ h hw
  have hp':¬p < (bs str).size:=hp
  generalize bs str=u at *
  simp [execOp,Instr.next,hx,Ps hh,hp']
end
section
variable {P:Program} {f:FuncId} {args:Array Value} {w:World} {v:Value}
theorem Gt (h:Calls P f args w fun e w'=>e=.returned v∧w'=w):Calls P f args w (De fun u w'=>u=v∧Same [] w w') :=
  h.mono fun _ _ ⟨he,hw⟩=>⟨v,he,rfl,by subst hw; exact .refl _ _⟩
theorem Eu (h:Calls P f args w fun e w'=>e=.returned v∧Below w.heap.size w w'):Calls P f args w (De fun u w'=>u=v∧Same [] w w') :=
  h.mono fun _ _ ⟨he,hw⟩=>⟨v,he,rfl,.of_below hw⟩
theorem Ng {v':Value} (h:Calls P f args w (De fun u w'=>u=v∧Same [] w w')) (e:v=v'):Calls P f args w (De fun u w'=>u=v'∧Same [] w w'):=e ▸ h
theorem Bi {Q Q':Value→World→Prop} (h:Calls P f args w (De Q)) (hq:∀ v w',Q v w'→Q' v w'):Calls P f args w (De Q') :=
  h.mono fun _ _ ⟨v,he,hh⟩=>⟨v,he,hq v _ hh⟩
end
section
variable {P:Program} {R:Exit→Act→World→Prop} {n:Nat} {k:Kt} {s:Nat→Value} {w:World} {ops:List Oper} {zs:List Nat}
variable {C:World→Prop} {rest:Ord} {i d:Nat} {op:Op} {ty:TypeId} {pos:String} {aft:Array Edge} {g:Option (Nat × Bool)}
variable {w0:World} {Ds:List Nat} {bs_ bs':List (Nat × Obj)}
theorem FR.sub (h:FR w0 Ds bs_ w) (hs:bs'.Sublist bs_):FR w0 Ds bs' w:=⟨h.same,fun p hp=>h.own p (hs.subset hp),h.desc.sublist hs⟩
theorem ZW {f:FuncId} {args:Array Value} {w':World} {Q:Value→World→Prop} (hc:Calls P f args w' (De Q)) (hrun:(execOp (ev n s) ⟨some d,op,ty,pos,aft,g⟩).run P w=.ok (.enter f args) w')
    (h:∀ v w'',Q v w''→C w''∧Dg P R n ops k zs rest C (Xi s d v) w'')
    (hi:ops[i]? = some ⟨some d,op,ty,pos,aft,g⟩:=by rfl) (hw:Kc ops n s ⟨some d,op,ty,pos,aft,g⟩=true:=by rfl) (hz:zs.contains i=false:=by rfl):Dg P R n ops k zs (.act i rest) C s w :=
  TS hrun hc (fun v w'' hq=>⟨C,fun _ h=>h,(h v w'' hq).1,(h v w'' hq).2⟩) hi hw hz
theorem d_act {v:Value} {w':World} (hrun:(execOp (ev n s) ⟨some d,op,ty,pos,aft,g⟩).run P w=.ok (.value v) w') (hC:C w') (h:Dg P R n ops k zs rest C (Xi s d v) w')
    (hi:ops[i]? = some ⟨some d,op,ty,pos,aft,g⟩:=by rfl) (hw:Kc ops n s ⟨some d,op,ty,pos,aft,g⟩=true:=by rfl) (hz:zs.contains i=false:=by rfl):Dg P R n ops k zs (.act i rest) C s w :=
  TY C (fun _ h=>h) hrun hC h hi hw hz
theorem Z6 {t:TypeId} {x y:Operand} {v:Value} {l:List Value} {b off ii:Nat} {cs cs':Array Value} {T:TypeId} {dst:Option Nat} (hF:FR w0 Ds bs_ w) (hs:∀ w,(sizeOf t).run P w=.ok l.length w)
    (hx:ev n s x=.pointer (some ⟨b,off,none⟩)) (hy:ev n s y=v) (hl:v.cells=l.toArray) (hv:∀ v∈l,one v=true) (hi:bs_[ii]? = some (b,.cells cs T)) (hsz:off+l.length≤cs.size) (hcs:Ok cs off l=cs') :
    ∃ w',(execOp (ev n s) ⟨dst,.store t x y,ty,pos,aft,g⟩).run P w=.ok .skip w'∧FR w0 Ds (bs_.set ii (b,.cells cs' T)) w'∧Same [b] w w':=by
  have hh:=hF.heap hi
  have hsp:=Ri b off (fz:=(0,0)) l 0 w cs hh
  refine ⟨_,Hu hs hx hy hl hv fun j hj=>?_,?_,hsp.2⟩
  · have e : (⟨b, off, none⟩ : Addr).add j = ⟨b, off + j, none⟩ := by unfold Addr.add; split <;> simp_all
    rw [e,Ac hh]
    exact ⟨⟨cs[off+j]'U,by simp⟩,Bj hh _⟩
  · subst hcs
    exact hF.change ii hi hsp.2 (by simpa using hsp.1)
theorem EO (ii:Nat) {t:TypeId} {x y:Operand} {v:Value} {l:List Value} {b off:Nat} {cs cs':Array Value} {T:TypeId} (hF:FR w0 Ds bs_ w) (hs:∀ w,(sizeOf t).run P w=.ok l.length w)
    (hx:ev n s x=.pointer (some ⟨b,off,none⟩)) (hy:ev n s y=v) (hl:v.cells=l.toArray) (hv:∀ v∈l,one v=true) (hbi:bs_[ii]? = some (b,.cells cs T)) (hsz:off+l.length≤cs.size) (hcs:Ok cs off l=cs')
    (h:∀ w',FR w0 Ds (bs_.set ii (b,.cells cs' T)) w'→Same [b] w w'→Dg P R n ops k zs rest (fun _=>True) s w')
    (hi:ops[i]? = some ⟨none,.store t x y,ty,pos,aft,g⟩:=by rfl) (hw:Kc ops n s ⟨none,.store t x y,ty,pos,aft,g⟩=true:=by rfl) (hz:zs.contains i=true:=by rfl) :
    Dg P R n ops k zs (.act i rest) C s w:=by
  obtain ⟨w',h1,h2,h3⟩:=Z6 (dst:=none) (ty:=ty) (pos:=pos) (aft:=aft) (g:=g) hF hs hx hy hl hv hbi hsz hcs
  exact XG h1 (h w' h2 h3) hi hw hz
theorem RR (ii:Nat) {t:TypeId} {x y:Operand} {v:Value} {l:List Value} {b off:Nat} {cs cs':Array Value} {T:TypeId} (hF:FR w0 Ds bs_ w) (hs:∀ w,(sizeOf t).run P w=.ok l.length w)
    (hx:ev n s x=.pointer (some ⟨b,off,none⟩)) (hy:ev n s y=v) (hl:v.cells=l.toArray) (hv:∀ v∈l,one v=true) (hbi:bs_[ii]? = some (b,.cells cs T)) (hsz:off+l.length≤cs.size) (hcs:Ok cs off l=cs')
    (h:∀ w',FR w0 Ds (bs_.set ii (b,.cells cs' T)) w'→Same [b] w w'→C w'∧Dg P R n ops k zs rest C s w')
    (hi:ops[i]? = some ⟨none,.store t x y,ty,pos,aft,g⟩:=by rfl) (hw:Kc ops n s ⟨none,.store t x y,ty,pos,aft,g⟩=true:=by rfl) (hz:zs.contains i=false:=by rfl) :
    Dg P R n ops k zs (.act i rest) C s w:=by
  obtain ⟨w',h1,h2,h3⟩:=Z6 (dst:=none) (ty:=ty) (pos:=pos) (aft:=aft) (g:=g) hF hs hx hy hl hv hbi hsz hcs
  unfold Dg Dw IR
  rw [hi]
  simp only [hw,if_true,h1]
  unfold Dk
  rw [hz]
  have h4:=(h w' h2 h3).2
  unfold Dg at h4
  exact ⟨C,fun _ h=>h,(h w' h2 h3).1,h4⟩
end
section
variable {P:Program} {R:Exit→Act→World→Prop} {n:Nat} {k:Kt} {s:Nat→Value} {w:World} {ops:List Oper} {zs:List Nat}
variable {C:World→Prop} {rest:Ord} {i d:Nat} {op:Op} {ty:TypeId} {pos:String} {aft:Array Edge} {g:Option (Nat × Bool)}
variable {w0:World} {Ds:List Nat} {bs_ bs':List (Nat × Obj)}
theorem Oa {v:Value} (hi:ops[i]? = some ⟨some d,op,ty,pos,aft,g⟩) (hrun:∀ w,C w→(execOp (ev n s) ⟨some d,op,ty,pos,aft,g⟩).run P w=.ok (.value v) w) (h:Dg P R n ops k zs rest C (Xi s d v) w) (hw:Kc ops n s ⟨some d,op,ty,pos,aft,g⟩=true:=by rfl) :
    Dg P R n ops k zs (.free i rest) C s w:=BX hrun h hi hw
theorem Jd (hi:ops[i]? = some ⟨some d,op,ty,pos,aft,g⟩) (h:Dg P R n ops k zs rest C (Xi s d undef) w) (hw:Kc ops n s ⟨some d,op,ty,pos,aft,g⟩=false:=by rfl):Dg P R n ops k zs (.free i rest) C s w:=HY h hi hw
theorem AQ (hi:ops[i]? = some ⟨some d,op,ty,pos,aft,g⟩) (h:Dg P R n ops k zs rest C (Xi s d undef) w) (hC:C w) (hw:Kc ops n s ⟨some d,op,ty,pos,aft,g⟩=false:=by rfl) (hz:zs.contains i=false:=by rfl):Dg P R n ops k zs (.act i rest) C s w:=IW h hC hi hw hz
theorem Ye {f:FuncId} {args:Array Value} {w':World} {Q:Value→World→Prop} (hi:ops[i]? = some ⟨some d,op,ty,pos,aft,g⟩) (hc:Calls P f args w' (De Q)) (hrun:(execOp (ev n s) ⟨some d,op,ty,pos,aft,g⟩).run P w=.ok (.enter f args) w')
    (h:∀ v w'',Q v w''→C w''∧Dg P R n ops k zs rest C (Xi s d v) w'') (hw:Kc ops n s ⟨some d,op,ty,pos,aft,g⟩=true:=by rfl) (hz:zs.contains i=false:=by rfl):Dg P R n ops k zs (.act i rest) C s w:=ZW hc hrun h hi hw hz
theorem Xe {v:Value} {w':World} (hi:ops[i]? = some ⟨some d,op,ty,pos,aft,g⟩) (hrun:(execOp (ev n s) ⟨some d,op,ty,pos,aft,g⟩).run P w=.ok (.value v) w') (hC:C w') (h:Dg P R n ops k zs rest C (Xi s d v) w') (hw:Kc ops n s ⟨some d,op,ty,pos,aft,g⟩=true:=by rfl) (hz:zs.contains i=false:=by rfl) :
    Dg P R n ops k zs (.act i rest) C s w:=d_act hrun hC h hi hw hz
theorem Ad {t:TypeId} {x y:Operand} {v:Value} {l:List Value} {b off:Nat} {cs cs':Array Value} {T:TypeId} (hi:ops[i]? = some ⟨none,.store t x y,ty,pos,aft,g⟩) (ii:Nat) (hF:FR w0 Ds bs_ w) (hs:∀ w,(sizeOf t).run P w=.ok l.length w)
    (hx:ev n s x=.pointer (some ⟨b,off,none⟩)) (hy:ev n s y=v) (hl:v.cells=l.toArray) (hv:∀ v∈l,one v=true) (hbi:bs_[ii]? = some (b,.cells cs T)) (hsz:off+l.length≤cs.size) (hcs:Ok cs off l=cs')
    (h:∀ w',FR w0 Ds (bs_.set ii (b,.cells cs' T)) w'→Same [b] w w'→Dg P R n ops k zs rest (fun _=>True) s w') (hw:Kc ops n s ⟨none,.store t x y,ty,pos,aft,g⟩=true:=by rfl) (hz:zs.contains i=true:=by rfl) :
    Dg P R n ops k zs (.act i rest) C s w:=EO ii hF hs hx hy hl hv hbi hsz hcs h hi hw hz
theorem Rm {t:TypeId} {x y:Operand} {v:Value} {l:List Value} {b off:Nat} {cs cs':Array Value} {T:TypeId} (hi:ops[i]? = some ⟨none,.store t x y,ty,pos,aft,g⟩) (ii:Nat) (hF:FR w0 Ds bs_ w) (hs:∀ w,(sizeOf t).run P w=.ok l.length w)
    (hx:ev n s x=.pointer (some ⟨b,off,none⟩)) (hy:ev n s y=v) (hl:v.cells=l.toArray) (hv:∀ v∈l,one v=true) (hbi:bs_[ii]? = some (b,.cells cs T)) (hsz:off+l.length≤cs.size) (hcs:Ok cs off l=cs')
    (h:∀ w',FR w0 Ds (bs_.set ii (b,.cells cs' T)) w'→Same [b] w w'→C w'∧Dg P R n ops k zs rest C s w') (hw:Kc ops n s ⟨none,.store t x y,ty,pos,aft,g⟩=true:=by rfl) (hz:zs.contains i=false:=by rfl) :
    Dg P R n ops k zs (.act i rest) C s w:=RR ii hF hs hx hy hl hv hbi hsz hcs h hi hw hz
end
end Go.Scarf
namespace Go.Scarf
open Go.RowKit
section
variable {P:Program} {R:Exit→Act→World→Prop} {n:Nat} {k:Kt} {s:Nat→Value} {w:World} {ops rest:List Oper}
variable {d:Nat} {ty:TypeId} {pos:String} {aft:Array Edge} {g:Option (Nat × Bool)}
variable {w0:World} {Ds:List Nat} {bs_:List (Nat × Obj)} {ρ:Operand→Value} {dst:Option Nat}
theorem Za {t e len size:Nat} {parts:Array (Nat × Operand)} {z:Value} {cs:Array Value} (ht:P.underlying t=some (.slice e)) (hs:∀ w,(sizeOf e).run P w=.ok size w) (hz:∀ w,(zeroValue e).run P w=.ok z w)
    (h1:(len * size≤16777216)=True) (h0:(len * size=0)=False)
    (hf:Instr.fill (fun i=>some (i * size,size)) ((Array.range (len * size)).map (z.cells[· % z.cells.size]!)) (parts.toList.map fun x=>(x.1,ρ x.2))=some cs) :
    (execOp ρ ⟨dst,.buildSlice t len parts,ty,pos,aft,g⟩).run P w=.ok (.value (.slice (some ⟨w.heap.size,0,none⟩) len len)) (w.alloc (.cells cs e)):=by
  have hu:∀ w,(underlying t).run P w=.ok (.slice e) w:=run_underlying ht
  have h1':¬2 ^ 24 < len * size:=by have:=of_eq_true h1; omega
  have h0':¬len * size=0:=by rw [h0]; simp
  simp [execOp,Instr.buildSlice,hu,hs,hz,h1',h0',hf,newRow,newObj,Sem.run]
theorem St {v:Nat→Value} {o:Obj} {op:Op} (hF:FR w0 Ds bs_ w) (hrun:(execOp (ev n s) ⟨some d,op,ty,pos,aft,g⟩).run P w=.ok (.value (v w.heap.size)) (w.alloc o))
    (h:∀ b w',b=w.heap.size→FR w0 Ds ((b,o)::bs_) w'→Same [] w w'→Og P R n ops k rest (Xi s d (v b)) w')
    (hw:Kc ops n s ⟨some d,op,ty,pos,aft,g⟩=true:=by rfl):Og P R n ops k (⟨some d,op,ty,pos,aft,g⟩::rest) s w :=
  Ja hrun (h _ _ rfl (hF.alloc _) (Same.alloc w _)) hw
theorem Cm {C:World→Prop} {order:Ord} {zs:List Nat} {i:Nat} {v:Nat→Value} {o:Obj} {op:Op} (hi:ops[i]? = some ⟨some d,op,ty,pos,aft,g⟩) (hF:FR w0 Ds bs_ w) (hrun:(execOp (ev n s) ⟨some d,op,ty,pos,aft,g⟩).run P w=.ok (.value (v w.heap.size)) (w.alloc o))
    (h:∀ b w',b=w.heap.size→FR w0 Ds ((b,o)::bs_) w'→Same [] w w'→C w'∧Dg P R n ops k zs order C (Xi s d (v b)) w')
    (hw:Kc ops n s ⟨some d,op,ty,pos,aft,g⟩=true:=by rfl) (hz:zs.contains i=false:=by rfl):Dg P R n ops k zs (.act i order) C s w :=
  let r:=h _ _ rfl (hF.alloc _) (Same.alloc w _)
  Xe hi hrun r.1 r.2 hw hz
theorem Kk (b o m:Nat):(⟨b,o,none⟩:Addr).add m=⟨b,o+m,none⟩:=by
  unfold Addr.add; split <;> simp_all
theorem Gb {t e m:Nat} {x y:Operand} {kk:IntKind} {b o len cap:Nat} {i:Int} (o':Nat) (ht:Vk P t e m) (hx:ρ x=.slice (some ⟨b,o,none⟩) len cap) (hy:ρ y=.int kk i) (h0:0≤i) (h1:i < len) (ho:o+i.toNat * m=o') :
    (execOp ρ ⟨dst,.indexAddr t x y,ty,pos,aft,g⟩).run P w=.ok (.value (.pointer (some ⟨b,o',none⟩))) w:=by
  rw [Yz ht hx hy h0 h1,Kk,ho]
theorem ZK {t t':TypeId} {x:Operand} (ht:P.underlying t=some (.interface (P.methodsAt t))) (hx:ρ x=.nilIface) (hy:ρ (.const .nilIface)=.nilIface):(execOp ρ ⟨dst,.binOp .neq t x (.const .nilIface) t',ty,pos,aft,g⟩).run P w=.ok (.value (.bool false)) w:=by
  have h:=run_neq_nil_nil (P:=P) (w:=w) t ht
  have hg:(eqGuard .neq t x (.const .nilIface) .nilIface .nilIface).run P w=.ok () w:=by simp [eqGuard]
  simp only [execOp,hx,hy,Sem.run_bind,hg,Result.andThen_ok,h,Sem.run_pure]
theorem RA {t t':TypeId} {x:Operand} {tp:TypeId} {p:Value} (ht:P.underlying t=some (.interface (P.methodsAt t))) (hx:ρ x=.iface tp p) (hy:ρ (.const .nilIface)=.nilIface):(execOp ρ ⟨dst,.binOp .neq t x (.const .nilIface) t',ty,pos,aft,g⟩).run P w=.ok (.value (.bool true)) w:=by
  have h:=run_neq_held_nil (P:=P) (w:=w) t tp p ht
  have hg:(eqGuard .neq t x (.const .nilIface) (.iface tp p) .nilIface).run P w=.ok () w:=by simp [eqGuard]
  simp only [execOp,hx,hy,Sem.run_bind,hg,Result.andThen_ok,h,Sem.run_pure]
theorem VN {x y:Operand} {ats:Array TypeId} {k:IntKind} {a b:Int} (hx:ρ x=.int k a) (hy:ρ y=.int k b):(execOp ρ ⟨dst,.call ⟨.builtin .max,#[x,y],ats⟩,ty,pos,aft,g⟩).run P w=.ok (.value (.int k (max a b))) w:=by
  have e:(if b > a then b else a)=max a b:=by rw [Int.max_def]; split <;> split <;> omega
  have h:=run_max_int2 (P:=P) w ats ty k k a b
  rw [e] at h
  simp [execOp,resolve,invoke,builtin,hx,hy,h]
theorem J4 {x y:Operand} {ats:Array TypeId} {k:IntKind} {a b:Int} (hx:ρ x=.int k a) (hy:ρ y=.int k b):(execOp ρ ⟨dst,.call ⟨.builtin .min,#[x,y],ats⟩,ty,pos,aft,g⟩).run P w=.ok (.value (.int k (min a b))) w:=by
  have e:(if b < a then b else a)=min a b:=by rw [Int.min_def]; split <;> split <;> omega
  have h:=run_min_int2 (P:=P) w ats ty k k a b
  rw [e] at h
  simp [execOp,resolve,invoke,builtin,hx,hy,h]
theorem Sx {fn:Fn} {x:Operand} {v:Value} (hx:ρ x=v):(execOp ρ ⟨dst,.makeFunc fn #[] #[x],ty,pos,aft,g⟩).run P w=.ok (.value (.func fn #[] #[v])) w:=Zv Ma (by simp [hx])
theorem Nw {fn:Fn} {x:Operand} {v:Value} (hx:ρ x=v):(execOp ρ ⟨dst,.makeFunc fn #[x] #[],ty,pos,aft,g⟩).run P w=.ok (.value (.func fn #[v] #[])) w:=Zv (by simp [hx]) Ma
theorem Qo {fn:Fn} {x y:Operand} {v u:Value} (hx:ρ x=v) (hy:ρ y=u):(execOp ρ ⟨dst,.makeFunc fn #[] #[x,y],ty,pos,aft,g⟩).run P w=.ok (.value (.func fn #[] #[v,u])) w:=Zv Ma (by simp [hx,hy])
theorem S8:∀ (l pre:List Value) (cs:Array Value),cs.size=pre.length+l.length→cs.toList.take pre.length=pre→Ok cs pre.length l=(pre++l).toArray
  | [], pre, cs, hs, hp => by
    simp only [List.length_nil,Nat.add_zero] at hs
    have:cs.toList=pre:=by rw [List.take_of_length_le (by have:=Array.length_toList (xs:=cs); omega)] at hp; exact hp
    simp only [Ok,List.append_nil]
    rw [←this]
  | v :: l, pre, cs, hs, hp => by
    simp only [List.length_cons] at hs
    have hlt:pre.length < (cs.toList.set pre.length v).length:=by have:=Array.length_toList (xs:=cs); rw [List.length_set]; omega
    have ih:=S8 l (pre++[v]) (cs.setIfInBounds pre.length v) (by simp; omega) (by
      rw [Array.toList_setIfInBounds,List.length_append,List.length_singleton,List.take_succ_eq_append_getElem hlt,List.getElem_set_self,List.take_set_of_le (Nat.le_refl _),hp])
    rw [Ok,show pre++v::l=pre++[v]++l by simp,←ih]
    simp
theorem Wq {cs:Array Value} {l:List Value} (h:cs.size=l.length):Ok cs 0 l=l.toArray:=by
  have:=S8 l [] cs (by simpa using h) Ma
  simpa using this
end
end Go.Scarf
namespace Go.Scarf
open Go.RowKit
def Y (P:Program) (ρ:Operand→Value) (op:Op) (v:Value):Prop:=∀ dst ty pos aft g w,(execOp ρ ⟨dst,op,ty,pos,aft,g⟩).run P w=.ok (.value v) w
def YC (C:World→Prop) (P:Program) (ρ:Operand→Value) (op:Op) (v:Value):Prop:=∀ dst ty pos aft g w,C w→(execOp ρ ⟨dst,op,ty,pos,aft,g⟩).run P w=.ok (.value v) w
section
variable {P:Program} {ρ:Operand→Value} {x y z:Operand} {t t' e b off m m_ c_ j:Nat} {cs vs:Array Value} {kk:IntKind} {A:Option Addr}
theorem Va {a:Int} (hx:ρ x=.int kk a):Y P ρ (.move x) (.int kk a):=fun _ _ _ _ _ _=>Is hx
theorem Jc {a:Bool} (hx:ρ x=.bool a):Y P ρ (.move x) (.bool a):=fun _ _ _ _ _ _=>Is hx
theorem Qc {a:ByteArray} (hx:ρ x=.string a):Y P ρ (.move x) (.string a):=fun _ _ _ _ _ _=>Is hx
theorem Yd (hx:ρ x=.slice A m_ c_):Y P ρ (.move x) (.slice A m_ c_):=fun _ _ _ _ _ _=>Is hx
theorem Ue {a:Option Addr} (hx:ρ x=.pointer a):Y P ρ (.move x) (.pointer a):=fun _ _ _ _ _ _=>Is hx
theorem Ul (hx:ρ x=.tuple cs):Y P ρ (.move x) (.tuple cs):=fun _ _ _ _ _ _=>Is hx
theorem XC  : Y P ρ (.move x) (ρ x):=fun _ _ _ _ _ _=>Is rfl
theorem Wb {a:Int} (hx:ρ x=.int kk a):Y P ρ (.assign x) (.int kk a):=fun _ _ _ _ _ _=>Co hx
theorem Hc {a:Bool} (hx:ρ x=.bool a):Y P ρ (.assign x) (.bool a):=fun _ _ _ _ _ _=>Co hx
theorem Rd {a:ByteArray} (hx:ρ x=.string a):Y P ρ (.assign x) (.string a):=fun _ _ _ _ _ _=>Co hx
theorem Sh (hx:ρ x=.slice A m_ c_):Y P ρ (.assign x) (.slice A m_ c_):=fun _ _ _ _ _ _=>Co hx
theorem I_ {a:Option Addr} (hx:ρ x=.pointer a):Y P ρ (.assign x) (.pointer a):=fun _ _ _ _ _ _=>Co hx
theorem S1  : Y P ρ (.assign x) (ρ x):=fun _ _ _ _ _ _=>Co rfl
theorem Ic {a:Bool} (hc:ρ x=.bool true) (hx:ρ y=.bool a):Y P ρ (.pick x y z) (.bool a):=fun _ _ _ _ _ _=>PS hc hx
theorem Gc {a:Bool} (hc:ρ x=.bool false) (hx:ρ z=.bool a):Y P ρ (.pick x y z) (.bool a):=fun _ _ _ _ _ _=>CS hc hx
theorem Fm {a:Int} (hx:ρ x=.tuple vs) (hv:vs[j]? = some (.int kk a)):Y P ρ (.extract x j) (.int kk a):=fun _ _ _ _ _ _=>Gj hx hv
theorem Ss {a:Bool} (hx:ρ x=.tuple vs) (hv:vs[j]? = some (.bool a)):Y P ρ (.extract x j) (.bool a):=fun _ _ _ _ _ _=>Gj hx hv
theorem D7 {a:ByteArray} (hx:ρ x=.tuple vs) (hv:vs[j]? = some (.string a)):Y P ρ (.extract x j) (.string a):=fun _ _ _ _ _ _=>Gj hx hv
theorem W4 (hx:ρ x=.tuple vs) (hv:vs[j]? = some (.slice A m_ c_)):Y P ρ (.extract x j) (.slice A m_ c_):=fun _ _ _ _ _ _=>Gj hx hv
theorem RQ (hx:ρ x=.tuple vs) (hv:vs[j]? = some (.agg cs)):Y P ρ (.extract x j) (.agg cs):=fun _ _ _ _ _ _=>Gj hx hv
theorem yxp {a:Option Addr} (hx:ρ x=.tuple vs) (hv:vs[j]? = some (.pointer a)):Y P ρ (.extract x j) (.pointer a):=fun _ _ _ _ _ _=>Gj hx hv
theorem MY {v:Value} (hx:ρ x=.tuple vs) (hv:vs[j]? = some (v)):Y P ρ (.extract x j) (v):=fun _ _ _ _ _ _=>Gj hx hv
theorem Ec {o:Nat} (hf:Vd P t j off) (hx:ρ x=.pointer (some ⟨b,o,none⟩)):Y P ρ (.fieldAddr t x j) (.pointer (some ⟨b,o+off,none⟩)):=fun _ _ _ _ _ _=>Lh hf hx
theorem Gg {a:Addr} (hx:ρ x=.pointer (some a)):Y P ρ (.nilCheck x) (.pointer (some a)):=fun _ _ _ _ _ _=>Hd hx
theorem Yg {a b:Int} (hx:ρ x=.int kk a) (hy:ρ y=.int kk b):Y P ρ (.binOp .lss t x y t') (.bool (decide (a < b))):=fun _ _ _ _ _ _=>E7 hx hy
theorem J1 {a b:Int} (hx:ρ x=.int kk a) (hy:ρ y=.int kk b):Y P ρ (.binOp .leq t x y t') (.bool (decide (a≤b))):=fun _ _ _ _ _ _=>BU hx hy
theorem Ho {a b:Int} (hx:ρ x=.int kk a) (hy:ρ y=.int kk b):Y P ρ (.binOp .gtr t x y t') (.bool (decide (b < a))):=fun _ _ _ _ _ _=>Xz hx hy
theorem Rv {a b:Int} (hx:ρ x=.int kk a) (hy:ρ y=.int kk b):Y P ρ (.binOp .geq t x y t') (.bool (decide (b≤a))):=fun _ _ _ _ _ _=>Z_ hx hy
theorem Th {a b:Int} (hx:ρ x=.int kk a) (hy:ρ y=.int kk b):Y P ρ (.binOp .eql t x y t') (.bool (decide (a=b))):=fun _ _ _ _ _ _=>Ig hx hy
theorem Sq {a b:Int} (hx:ρ x=.int kk a) (hy:ρ y=.int kk b):Y P ρ (.binOp .neq t x y t') (.bool (decide (a≠b))):=fun _ _ _ _ _ _=>Ir hx hy
theorem Ay {a b:Str} (hx:ρ x=.string (bs a)) (hy:ρ y=.string (bs b)):Y P ρ (.binOp .eql t x y t') (.bool (decide (a=b))):=fun _ _ _ _ _ _=>CW hx hy
theorem yns {a b:Str} (hx:ρ x=.string (bs a)) (hy:ρ y=.string (bs b)):Y P ρ (.binOp .neq t x y t') (.bool (decide (a≠b))):=fun _ _ _ _ _ _=>YU hx hy
theorem yss {a b:Str} (hx:ρ x=.string (bs a)) (hy:ρ y=.string (bs b)):Y P ρ (.binOp .lss t x y t') (.bool (Lr a b)):=fun _ _ _ _ _ _=>MV hx hy
theorem ynd {p:Prop} {_:Decidable p} (hx:ρ x=.bool (decide p)):Y P ρ (.unOp .not t x) (.bool (decide (¬p))):=fun _ _ _ _ _ _=>GW hx
theorem Pn {b:Bool} (hx:ρ x=.bool b):Y P ρ (.unOp .not t x) (.bool (!b)):=fun _ _ _ _ _ _=>NY hx
theorem Df (ht:P.underlying t=some (.slice e)) (hx:ρ x=.slice A m_ c_):Y P ρ (.call ⟨.builtin .len,#[x],#[t]⟩) (.int .i64 m_):=fun _ _ _ _ _ _=>YA ht hx
theorem Xl {a:Str} (ht:P.underlying t=some .string) (hx:ρ x=.string (bs a)):Y P ρ (.call ⟨.builtin .len,#[x],#[t]⟩) (.int .i64 (a.length:Int)):=fun _ _ _ _ _ _=>Z7 ht hx
theorem If {a b:Int} (e:Int) (hx:ρ x=.int .i64 a) (hy:ρ y=.int .i64 b) (h:IntKind.i64.wrap (a+b)=e:=by exact Id U U U):Y P ρ (.binOp .add t x y t') (.int .i64 e):=fun _ _ _ _ _ _=>Il hx hy h
theorem Sl {a b:Int} (hx:ρ x=.int .i64 a) (hy:ρ y=.int .i64 b) (h:IntKind.i64.wrap (a+b)=a+b:=by exact Ji U U):Y P ρ (.binOp .add t x y t') (.int .i64 (a+b)):=fun _ _ _ _ _ _=>Il hx hy h
theorem Hw {a b:Int} (e:Int) (hx:ρ x=.int .i64 a) (hy:ρ y=.int .i64 b) (h:IntKind.i64.wrap (a - b)=e:=by exact Id U U U):Y P ρ (.binOp .sub t x y t') (.int .i64 e):=fun _ _ _ _ _ _=>Gv hx hy h
theorem Fo {a b:Int} (hx:ρ x=.int .i64 a) (hy:ρ y=.int .i64 b) (h:IntKind.i64.wrap (a - b)=a - b:=by exact Ji U U):Y P ρ (.binOp .sub t x y t') (.int .i64 (a - b)):=fun _ _ _ _ _ _=>Gv hx hy h
end
section
variable {P:Program} {R:Exit→Act→World→Prop} {n:Nat} {k:Kt} {s:Nat→Value} {w w0:World} {ops rest:List Oper} {Ds:List Nat} {bs_:List (Nat × Obj)}
variable {d i:Nat} {ty:TypeId} {pos:String} {aft:Array Edge} {g:Option (Nat × Bool)} {zs:List Nat} {C:World→Prop} {order:Ord} {op:Op} {v:Value} {x y:Code}
theorem Ca (hy:Y P (ev n s) op v) (h:Og P R n ops k rest (Xi s d v) w) (hw:Kc ops n s ⟨some d,op,ty,pos,aft,g⟩=true:=by rfl):Og P R n ops k (⟨some d,op,ty,pos,aft,g⟩::rest) s w:=Ja (hy ..) h hw
theorem Db (hi:ops[i]? = some ⟨some d,op,ty,pos,aft,g⟩) (hy:Y P (ev n s) op v) (h:Dg P R n ops k zs order C (Xi s d v) w) (hw:Kc ops n s ⟨some d,op,ty,pos,aft,g⟩=true:=by rfl):Dg P R n ops k zs (.free i order) C s w:=Oa hi (fun w _=>hy _ _ _ _ _ w) h hw
theorem Tc (hy:YC (fun w'=>w'=w) P (ev n s) op v) (h:Og P R n ops k rest (Xi s d v) w) (hw:Kc ops n s ⟨some d,op,ty,pos,aft,g⟩=true:=by rfl):Og P R n ops k (⟨some d,op,ty,pos,aft,g⟩::rest) s w:=Ja (hy _ _ _ _ _ w rfl) h hw
theorem Uk (hi:ops[i]? = some ⟨some d,op,ty,pos,aft,g⟩) (hy:YC C P (ev n s) op v) (h:Dg P R n ops k zs order C (Xi s d v) w) (hw:Kc ops n s ⟨some d,op,ty,pos,aft,g⟩=true:=by rfl):Dg P R n ops k zs (.free i order) C s w:=Oa hi (fun w hC=>hy _ _ _ _ _ w hC) h hw
theorem FR.F (hF:FR w0 Ds bs_ w):∀ w',w'=w→FR w0 Ds bs_ w':=fun _ h=>h ▸ hF
theorem C0 {F:World→Prop} (w:World) (h:F w):F w:=h
theorem C1 {F G:World→Prop} (w:World) (h:F w∧G w):F w:=h.1
theorem Yb {p:Prop} {_:Decidable p} (hx:ev n s (.tmp d)=.bool (decide p)) (hd:Nat.blt d n=true) (ht:p→Cg P R n x k (Xi s d (.bool true)) w) (hf:¬p→Cg P R n y k (Xi s d (.bool false)) w):Cg P R n (.cond (.tmp d) x y) k s w :=
  CN (by simpa [ev,hd] using hx) (fun h=>Ae (by simp [ev,Xi,hd]) (ht h)) (fun h=>Ie (by simp [ev,Xi,hd]) (hf h))
theorem Mi {b:Bool} (hx:ev n s (.tmp d)=.bool b) (hd:Nat.blt d n=true) (ht:b=true→Cg P R n x k (Xi s d (.bool true)) w) (hf:b=false→Cg P R n y k (Xi s d (.bool false)) w):Cg P R n (.cond (.tmp d) x y) k s w :=
  KI (by simpa [ev,hd] using hx) (fun h=>Ae (by simp [ev,Xi,hd]) (ht h)) (fun h=>Ie (by simp [ev,Xi,hd]) (hf h))
variable {ρ:Operand→Value} {q:Operand} {t b off m:Nat} {T:TypeId} {fz:Nat × Nat} {ct:Array Value}
theorem Hl {kk:IntKind} {a:Int} (ha:∀ w,(isAgg t).run P w=.ok false w) (hx:ρ q=.pointer (some ⟨b,off,none⟩)) (hF:∀ w,C w→FR w0 Ds bs_ w) (ii:Nat) (hb:bs_[ii]? = some (b,.cells ct T fz)) (hv:ct[off]? = some (.int kk a)):YC C P ρ (.load t q) (.int kk a):=fun _ _ _ _ _ w h=>Ya ha hx ((hF w h).cell ii hb hv)
theorem RV {a:Bool} (ha:∀ w,(isAgg t).run P w=.ok false w) (hx:ρ q=.pointer (some ⟨b,off,none⟩)) (hF:∀ w,C w→FR w0 Ds bs_ w) (ii:Nat) (hb:bs_[ii]? = some (b,.cells ct T fz)) (hv:ct[off]? = some (.bool a)):YC C P ρ (.load t q) (.bool a):=fun _ _ _ _ _ w h=>Ya ha hx ((hF w h).cell ii hb hv)
theorem Tp {a:ByteArray} (ha:∀ w,(isAgg t).run P w=.ok false w) (hx:ρ q=.pointer (some ⟨b,off,none⟩)) (hF:∀ w,C w→FR w0 Ds bs_ w) (ii:Nat) (hb:bs_[ii]? = some (b,.cells ct T fz)) (hv:ct[off]? = some (.string a)):YC C P ρ (.load t q) (.string a):=fun _ _ _ _ _ w h=>Ya ha hx ((hF w h).cell ii hb hv)
theorem Mf {A:Option Addr} {m_ c_:Nat} (ha:∀ w,(isAgg t).run P w=.ok false w) (hx:ρ q=.pointer (some ⟨b,off,none⟩)) (hF:∀ w,C w→FR w0 Ds bs_ w) (ii:Nat) (hb:bs_[ii]? = some (b,.cells ct T fz)) (hv:ct[off]? = some (.slice A m_ c_)):YC C P ρ (.load t q) (.slice A m_ c_):=fun _ _ _ _ _ w h=>Ya ha hx ((hF w h).cell ii hb hv)
theorem TQ {a:Option Addr} (ha:∀ w,(isAgg t).run P w=.ok false w) (hx:ρ q=.pointer (some ⟨b,off,none⟩)) (hF:∀ w,C w→FR w0 Ds bs_ w) (ii:Nat) (hb:bs_[ii]? = some (b,.cells ct T fz)) (hv:ct[off]? = some (.pointer a)):YC C P ρ (.load t q) (.pointer a):=fun _ _ _ _ _ w h=>Ya ha hx ((hF w h).cell ii hb hv)
theorem ylu {v:Value} (ha:∀ w,(isAgg t).run P w=.ok false w) (hx:ρ q=.pointer (some ⟨b,off,none⟩)) (hF:∀ w,C w→FR w0 Ds bs_ w) (ii:Nat) (hb:bs_[ii]? = some (b,.cells ct T fz)) (hv:ct[off]? = some v):YC C P ρ (.load t q) v:=fun _ _ _ _ _ w h=>Ya ha hx ((hF w h).cell ii hb hv)
theorem Wj {l:List Value} (ha:∀ w,(isAgg t).run P w=.ok true w) (hs:∀ w,(sizeOf t).run P w=.ok m w) (hx:ρ q=.pointer (some ⟨b,0,none⟩)) (hF:∀ w,C w→FR w0 Ds bs_ w) (ii:Nat) (hb:bs_[ii]? = some (b,.cells l.toArray T fz)) (hm:l.length=m):YC C P ρ (.load t q) (.agg l.toArray):=fun _ _ _ _ _ w h=>Fc ha hs hx hm ((hF w h).cellsAll ii hb)
end
inductive AtI {α:Type}:Nat→List α→α→α→List α→Prop
  | z {a a':α} {l:List α}:AtI 0 (a::l) a a' (a'::l)
  | s {i:Nat} {x a a':α} {l l':List α}:AtI i l a a' l'→AtI (i+1) (x::l) a a' (x::l')
theorem AtI.get {α:Type} {i:Nat} {l l':List α} {a a':α} (h:AtI i l a a' l'):l[i]? = some a:=by
  induction h with
  | z=>rfl
  | s _ ih=>simpa using ih
theorem AtI.set {α:Type} {i:Nat} {l l':List α} {a a':α} (h:AtI i l a a' l'):l.set i a'=l':=by
  induction h with
  | z=>rfl
  | s _ ih=>simp [ih]
theorem AtI.lt {α:Type} {i:Nat} {l l':List α} {a a':α} (h:AtI i l a a' l'):i < l.length:=(List.getElem?_eq_some_iff.1 h.get).1
theorem AtI.app {α:Type} {i:Nat} {l l' post:List α} {a a':α} (h:AtI i l a a' l'):AtI i (l++post) a a' (l'++post):=by
  induction h with
  | z=>exact .z
  | s _ ih=>exact .s ih
theorem Y3 {l:List Value} {i:Nat} {v:Value}:Ok l.toArray i [v]=(l.set i v).toArray:=by simp [Ok]
theorem Vm {α:Type} {x y:α} {l:List α}:AtI 0 (x::l) x y (y::l):=.z
theorem I5 {α:Type} {a x y:α} {l:List α}:AtI 1 (a::x::l) x y (a::y::l):=.s (.z)
theorem ZR {α:Type} {a b x y:α} {l:List α}:AtI 2 (a::b::x::l) x y (a::b::y::l):=.s (.s (.z))
theorem TX {α:Type} {a b c x y:α} {l:List α}:AtI 3 (a::b::c::x::l) x y (a::b::c::y::l):=.s (.s (.s (.z)))
theorem sI4 {α:Type} {a b c d x y:α} {l:List α}:AtI 4 (a::b::c::d::x::l) x y (a::b::c::d::y::l):=.s (.s (.s (.s (.z))))
section
variable {P:Program} {R:Exit→Act→World→Prop} {n:Nat} {k:Kt} {s:Nat→Value} {w w0:World} {ops rest:List Oper} {Ds:List Nat} {bs_ bs':List (Nat × Obj)}
variable {d i:Nat} {ty:TypeId} {pos:String} {aft:Array Edge} {g:Option (Nat × Bool)} {zs:List Nat} {C:World→Prop} {order:Ord} {x y:Operand} {t b off ii m:Nat} {l l':List Value} {u:Value} {T:TypeId}
theorem Mq (v:Value) (hF:FR w0 Ds bs_ w) (hs:∀ w,(sizeOf t).run P w=.ok 1 w) (hx:ev n s x=.pointer (some ⟨b,off,none⟩)) (hy:ev n s y=v) (hb:AtI ii bs_ (b,.cells l.toArray T) (b,.cells l'.toArray T) bs') (hc:AtI off l u v l') (h:∀ w',FR w0 Ds bs' w'→Same [b] w w'→Og P R n ops k rest s w') (hv:v.cells=#[v]:=by rfl) (ho:one v=true:=by rfl) (hw:Kc ops n s ⟨none,.store t x y,ty,pos,aft,g⟩=true:=by rfl):Og P R n ops k (⟨none,.store t x y,ty,pos,aft,g⟩::rest) s w :=
  Me ii hF (l:=[v]) hs hx hy hv (by simpa using ho) hb.get (by simpa using Nat.succ_le_of_lt hc.lt) (by rw [Y3,hc.set]) (by rw [hb.set]; exact h) hw
theorem Ll (hF:FR w0 Ds bs_ w) (hs:∀ w,(sizeOf t).run P w=.ok m w) (hx:ev n s x=.pointer (some ⟨b,0,none⟩)) (hy:ev n s y=.agg l'.toArray) (hb:AtI ii bs_ (b,.cells l.toArray T) (b,.cells l'.toArray T) bs') (h:∀ w',FR w0 Ds bs' w'→Same [b] w w'→Og P R n ops k rest s w') (hm:l'.length=m:=by rfl) (hl:l.length=l'.length:=by rfl) (ho:l'.all one=true:=by rfl) (hw:Kc ops n s ⟨none,.store t x y,ty,pos,aft,g⟩=true:=by rfl):Og P R n ops k (⟨none,.store t x y,ty,pos,aft,g⟩::rest) s w :=
  Me ii hF (l:=l') (by rw [hm]; exact hs) hx hy rfl (List.all_eq_true.1 ho) hb.get (by simp [hl]) (Wq (by simpa using hl)) (by rw [hb.set]; exact h) hw
theorem Tu (hi:ops[i]? = some ⟨none,.store t x y,ty,pos,aft,g⟩) (hF:FR w0 Ds bs_ w) (hs:∀ w,(sizeOf t).run P w=.ok m w) (hx:ev n s x=.pointer (some ⟨b,0,none⟩)) (hy:ev n s y=.agg l'.toArray) (hb:AtI ii bs_ (b,.cells l.toArray T) (b,.cells l'.toArray T) bs') (h:∀ w',FR w0 Ds bs' w'→Same [b] w w'→C w'∧Dg P R n ops k zs order C s w') (hm:l'.length=m:=by rfl) (hl:l.length=l'.length:=by rfl) (ho:l'.all one=true:=by rfl) (hw:Kc ops n s ⟨none,.store t x y,ty,pos,aft,g⟩=true:=by rfl) (hz:zs.contains i=false:=by rfl):Dg P R n ops k zs (.act i order) C s w :=
  Rm hi ii hF (l:=l') (by rw [hm]; exact hs) hx hy rfl (List.all_eq_true.1 ho) hb.get (by simp [hl]) (Wq (by simpa using hl)) (by rw [hb.set]; exact h) hw hz
theorem WZ (v:Value) (hi:ops[i]? = some ⟨none,.store t x y,ty,pos,aft,g⟩) (hF:FR w0 Ds bs_ w) (hs:∀ w,(sizeOf t).run P w=.ok 1 w) (hx:ev n s x=.pointer (some ⟨b,off,none⟩)) (hy:ev n s y=v) (hb:AtI ii bs_ (b,.cells l.toArray T) (b,.cells l'.toArray T) bs') (hc:AtI off l u v l') (h:∀ w',FR w0 Ds bs' w'→Same [b] w w'→Dg P R n ops k zs order (fun _=>True) s w') (hv:v.cells=#[v]:=by rfl) (ho:one v=true:=by rfl) (hw:Kc ops n s ⟨none,.store t x y,ty,pos,aft,g⟩=true:=by rfl) (hz:zs.contains i=true:=by rfl):Dg P R n ops k zs (.act i order) C s w :=
  Ad hi ii hF (l:=[v]) hs hx hy hv (by simpa using ho) hb.get (by simpa using Nat.succ_le_of_lt hc.lt) (by rw [Y3,hc.set]) (by rw [hb.set]; exact h) hw hz
theorem FV (hi:ops[i]? = some ⟨none,.store t x y,ty,pos,aft,g⟩) (hF:FR w0 Ds bs_ w) (hs:∀ w,(sizeOf t).run P w=.ok m w) (hx:ev n s x=.pointer (some ⟨b,0,none⟩)) (hy:ev n s y=.agg l'.toArray) (hb:AtI ii bs_ (b,.cells l.toArray T) (b,.cells l'.toArray T) bs') (h:∀ w',FR w0 Ds bs' w'→Same [b] w w'→Dg P R n ops k zs order (fun _=>True) s w') (hm:l'.length=m:=by rfl) (hl:l.length=l'.length:=by rfl) (ho:l'.all one=true:=by rfl) (hw:Kc ops n s ⟨none,.store t x y,ty,pos,aft,g⟩=true:=by rfl) (hz:zs.contains i=true:=by rfl):Dg P R n ops k zs (.act i order) C s w :=
  Ad hi ii hF (l:=l') (by rw [hm]; exact hs) hx hy rfl (List.all_eq_true.1 ho) hb.get (by simp [hl]) (Wq (by simpa using hl)) (by rw [hb.set]; exact h) hw hz
theorem WX (v:Value) (hF:FR w0 Ds bs_ w) (hy:ev n s x=v) (h:∀ b w',b=w.heap.size→FR w0 Ds ((b,.cells #[v] t)::bs_) w'→Same [] w w'→Og P R n ops k rest (Xi s d (.pointer (some ⟨b,0,none⟩))) w') (hv:v.cells=#[v]:=by rfl) (hw:Kc ops n s ⟨some d,.box t x,ty,pos,aft,g⟩=true:=by rfl):Og P R n ops k (⟨some d,.box t x,ty,pos,aft,g⟩::rest) s w:=Io hF hy hv h hw
theorem Bh {cs:Array Value} (hF:FR w0 Ds bs_ w) (hy:ev n s x=.agg cs) (h:∀ b w',b=w.heap.size→FR w0 Ds ((b,.cells cs t)::bs_) w'→Same [] w w'→Og P R n ops k rest (Xi s d (.pointer (some ⟨b,0,none⟩))) w') (hw:Kc ops n s ⟨some d,.box t x,ty,pos,aft,g⟩=true:=by rfl):Og P R n ops k (⟨some d,.box t x,ty,pos,aft,g⟩::rest) s w:=Io hF hy rfl h hw
theorem TZ (v:Value) {z:Value} {ty':TypeId} {pos':String} {aft':Array Edge} (hF:FR w0 Ds bs_ w) (hz:∀ w,(zeroValue t).run P w=.ok z w) (hs:∀ w,(sizeOf t).run P w=.ok 1 w) (hy:ev n (Xi s d (.pointer (some ⟨w.heap.size,0,none⟩))) y=v) (h:∀ b w',b=w.heap.size→FR w0 Ds ((b,.cells #[v] t)::bs_) w'→Same [] w w'→Og P R n ops k rest (Xi s d (.pointer (some ⟨b,0,none⟩))) w') (hzl:z.cells.size=1:=by rfl) (hv:v.cells=#[v]:=by rfl) (ho:one v=true:=by rfl) (hdn:Nat.blt d n=true:=by rfl):Og P R n ops k (⟨some d,.alloc t,ty,pos,aft,none⟩::⟨none,.store t (.tmp d) y,ty',pos',aft',none⟩::rest) s w:=Tx (l:=[v]) hF hz hs hzl hy hv (by simpa using ho) hdn h
theorem Ym {z:Value} {ty':TypeId} {pos':String} {aft':Array Edge} (hF:FR w0 Ds bs_ w) (hz:∀ w,(zeroValue t).run P w=.ok z w) (hs:∀ w,(sizeOf t).run P w=.ok m w) (hy:ev n (Xi s d (.pointer (some ⟨w.heap.size,0,none⟩))) y=.agg l.toArray) (h:∀ b w',b=w.heap.size→FR w0 Ds ((b,.cells l.toArray t)::bs_) w'→Same [] w w'→Og P R n ops k rest (Xi s d (.pointer (some ⟨b,0,none⟩))) w') (hm:l.length=m:=by rfl) (hzl:z.cells.size=l.length:=by rfl) (ho:l.all one=true:=by rfl) (hdn:Nat.blt d n=true:=by rfl):Og P R n ops k (⟨some d,.alloc t,ty,pos,aft,none⟩::⟨none,.store t (.tmp d) y,ty',pos',aft',none⟩::rest) s w:=Tx (l:=l) hF hz (by rw [hm]; exact hs) hzl hy rfl (List.all_eq_true.1 ho) hdn h
theorem Ff {id:Nat} (order:Ord) (hF:FR w0 Ds bs_ w) (h:∀ w',FR w0 Ds bs_ w'→Dg P R n ops k zs order (fun w=>FR w0 Ds bs_ w) s w') (hm:P.follows .mixedOrders=true:=by kernel_rfl) (hs:Region.noSelect ops.toArray=true:=by kernel_rfl) (hB:Om .any ops.toArray zs true ops.toArray.size order (Array.replicate ops.toArray.size false)=true:=by kernel_rfl):Cg P R n (.region id ops.toArray true) k s w:=FG zs order hm hF hs hB fun w' h1 _=>⟨_,h1,h w' h1⟩
theorem Uc {id:Nat} (zs:List Nat) (order:Ord) (hF:FR w0 Ds bs_ w) (h:∀ w',FR w0 Ds bs_ w'→Same [] w w'→∃ C:World→Prop,C w'∧Dg P R n ops k zs order C s w') (hm:P.follows .mixedOrders=true:=by kernel_rfl) (hs:Region.noSelect ops.toArray=true:=by kernel_rfl) (hB:Om .any ops.toArray zs true ops.toArray.size order (Array.replicate ops.toArray.size false)=true:=by kernel_rfl):Cg P R n (.region id ops.toArray true) k s w:=FG zs order hm hF hs hB h
end
end Go.Scarf
namespace Go.Scarf
open Go.RowKit
def SlB (e m:Nat) (A:Option Addr) (n c:Nat) (xs:List Value) (sb:List (Nat × Obj)):Prop :=
  xs.length=n * m∧((n=0∧c=0∧sb=[]) ∨
    ∃ g cur,A=some ⟨g,0,none⟩∧sb=[(g,.cells cur e)]∧n≤c∧c≤maxLen∧cur.size=c * m∧cur.toList.take (n * m)=xs)
theorem SlB.nil (e m:Nat):SlB e m none 0 0 [] []:=⟨by simp,.inl ⟨rfl,rfl,rfl⟩⟩
theorem SlB.zero (e m:Nat) (A:Option Addr):SlB e m A 0 0 [] []:=⟨by simp,.inl ⟨rfl,rfl,rfl⟩⟩
theorem SlB.len {e m n c:Nat} {A:Option Addr} {xs:List Value} {sb:List (Nat × Obj)} (h:SlB e m A n c xs sb):xs.length=n * m:=h.1
theorem SlB.cap {e m n c:Nat} {A:Option Addr} {xs:List Value} {sb:List (Nat × Obj)} (h:SlB e m A n c xs sb):n≤c∧c≤maxLen:=by
  rcases h.2 with ⟨rfl,rfl,-⟩ | ⟨g,cur,-,-,h1,h2,-⟩
  · exact ⟨Nat.le_refl _,Nat.zero_le _⟩
  · exact ⟨h1,h2⟩
section
variable {P:Program} {w0 w:World} {Ds:List Nat} {pre post sb bs:List (Nat × Obj)}
theorem FR.memHeap (h:FR w0 Ds bs w) {p:Nat × Obj} (hp:p∈bs):w.heap[p.1]? = some p.2:=(h.own p hp).1
theorem SlB.cells {e m n c:Nat} {A:Option Addr} {xs:List Value} (h:SlB e m A n c xs sb) (hF:FR w0 Ds (pre++(sb++post)) w) :
    ∀ ad,A=some ad→∀ j u,xs[j]? = some u→w.cell? (ad.add j)=some u:=by
  rintro ad rfl j u hu
  rcases h.2 with ⟨hn,-⟩ | ⟨g,cur,hA,rfl,-,-,-,htake⟩
  · have:=h.1; subst hn; rw [Nat.zero_mul] at this; rw [List.eq_nil_of_length_eq_zero this] at hu; cases hu
  · injection hA with hA; subst hA
    have hg:=hF.memHeap (p:=(g,.cells cur e)) Ma
    rw [Kk,Nat.zero_add,cell_of_row w g j cur e (0,0) hg]
    rw [←htake,List.getElem?_take] at hu
    split at hu
    · simpa using hu
    · cases hu
theorem FR.insert {w':World} {o:Obj} (h:FR w0 Ds (pre++(sb++post)) w) (hs:Same [] w w') (hb:w'.heap[w.heap.size]? = some o):FR w0 Ds (pre++([(w.heap.size,o)]++post)) w':=by
  have hlt:∀ p∈pre++(sb++post),p.1 < w.heap.size:=fun p hp=>Ra (h.memHeap hp)
  refine ⟨h.same.trans (hs.mono Ma),fun p hp=>?_,?_⟩
  · simp only [List.mem_append, List.mem_singleton] at hp
    rcases hp with hp | rfl | hp
    · have h1 := h.own p (by simp [hp])
      exact ⟨(hs.block p.1 (Ra h1.1) Ma).trans h1.1,h1.2⟩
    · exact ⟨hb,.inl h.same.size⟩
    · have h1 := h.own p (by simp [hp])
      exact ⟨(hs.block p.1 (Ra h1.1) Ma).trans h1.1,h1.2⟩
  · have hd := h.desc
    rw [List.pairwise_append] at hd ⊢
    obtain ⟨h1,h2,h3⟩:=hd
    refine ⟨h1,?_,?_⟩
    · rw [List.pairwise_append] at h2 ⊢
      refine ⟨by simp,h2.2.1,?_⟩
      intro p hp q hq
      simp only [List.mem_singleton] at hp
      subst hp
      have:=hlt q (by simp [hq])
      show q.1≠w.heap.size
      omega
    · intro p hp q hq
      simp only [List.mem_append,List.mem_singleton] at hq
      rcases hq with rfl | hq
      · have := hlt p (by simp [hp])
        show w.heap.size≠p.1
        omega
      · exact h3 p hp q (by simp [hq])
theorem FR.changeMid {w':World} {g:Nat} {o o':Obj} (h:FR w0 Ds (pre++([(g,o)]++post)) w) (hs:Same [g] w w') (hn:w'.heap[g]? = some o'):FR w0 Ds (pre++([(g,o')]++post)) w':=by
  have hi:(pre++([(g,o)]++post))[pre.length]? = some (g,o):=by simp
  have:=h.change pre.length hi hs hn
  simpa [List.set_append] using this
theorem G4 {t ty e m bytes:Nat} {i:TypeInfo} {z:Value} {A A2:Option Addr} {n c k c2:Nat} {xs news:List Value}
    (ht:P.underlying t=some (.slice e)) (hi:P.info? e=some i) (hz:i.zero=some z) (hsize:i.size=m) (hby:i.bytes=bytes) (hzs:z.cells.size=m)
    (hF:FR w0 Ds (pre++(sb++post)) w) (hS:SlB e m A n c xs sb)
    (hl:news.length=k * m) (hnews:k≠0→∃ a,A2=some a∧∀ j u,news[j]? = some u→w.cell? (a.add j)=some u) (h1:∀ u∈news,u.oneCell'=true)
    (h63:n+k≤maxLen) (hbytes:(n+k) * bytes≤140737488355328) :
    ∃ A' c' sb' w', (Builtin.append_ #[t, t] ty #[.slice A n c, .slice A2 k c2]).run P w = .ok (.slice A' (n + k) c') w' ∧ SlB e m A' (n + k) c' (xs ++ news) sb' ∧ FR w0 Ds (pre ++ (sb' ++ post)) w' ∧
      Same (sb.map (·.1)) w w'∧(∀ p∈sb',p.1∈sb.map (·.1)∨w.heap.size≤p.1):=by
  subst hsize
  subst hby
  by_cases hk:k=0
  · subst hk
    have hn:news=[]:=List.eq_nil_of_length_eq_zero (by simpa using hl)
    subst hn
    refine ⟨A,c,sb,w,?_,by simpa using hS,hF,Same.refl _ _,fun p hp=>.inl (List.mem_map_of_mem hp)⟩
    have hnc:=hS.cap.1
    have hf:(Builtin.firstCells i.size 0 (.slice A2 0 c2)).run P w=.ok #[] w:=by
      cases A2 <;> simp [Builtin.firstCells,loadCells,loadCellsFrom]
    cases A <;> simp [Builtin.append_,run_underlying ht,sizeOf,typeInfo,hi,Builtin.lenOf,hnc,hf,storeCells]
  obtain ⟨a,rfl,hnw⟩:=hnews hk
  clear hnews
  have hlen:(xs++news).length=(n+k) * i.size:=by rw [List.length_append,hS.1,hl,Nat.add_mul]
  simp only [maxLen] at h63
  have grown:∀ (old:Nat),old < n+k →
      SlB e i.size (some ⟨w.heap.size,0,none⟩) (n+k) (grownCap w (n+k) old e) (xs++news) [(w.heap.size,.cells (xs.toArray++news.toArray++Builtin.zeroCells z.cells (grownCap w (n+k) old e - (n+k))) e)] ∧
      FR w0 Ds (pre++([(w.heap.size,.cells (xs.toArray++news.toArray++Builtin.zeroCells z.cells (grownCap w (n+k) old e - (n+k))) e)]++post)) (w.drew.alloc (.cells (xs.toArray++news.toArray++Builtin.zeroCells z.cells (grownCap w (n+k) old e - (n+k))) e)) ∧
      Same (sb.map (·.1)) w (w.drew.alloc (.cells (xs.toArray++news.toArray++Builtin.zeroCells z.cells (grownCap w (n+k) old e - (n+k))) e)):=by
    intro old ho
    have hge:=grownCap_ge w (n+k) old e
    have hcm:grownCap w (n+k) old e≤maxLen:=grownCap_le_maxLen w (n+k) old e (by simp only [maxLen]; omega)
    have hsm:Same [] w (w.drew.alloc (.cells (xs.toArray++news.toArray++Builtin.zeroCells z.cells (grownCap w (n+k) old e - (n+k))) e)):=(Same.drew w).trans (Same.alloc w.drew _)
    refine ⟨⟨hlen,.inr ⟨w.heap.size,_,O,O,hge,hcm,?_,?_⟩⟩,hF.insert hsm (heap_alloc_new w.drew _),hsm.mono Ma⟩
    · simp only [Array.size_append, List.size_toArray, size_zeroCells, hzs, hS.1, hl, ← Nat.add_mul]
      congr 1
      omega
    · simp only [Array.toList_append, List.append_assoc]
      rw [←List.append_assoc,←hlen]
      exact List.take_left
  rcases hS.2 with ⟨rfl,rfl,rfl⟩ | ⟨g,cur,rfl,rfl,hnc,hcm,hcs,htake⟩
  · have hx : xs = [] := List.eq_nil_of_length_eq_zero (by simpa using hS.1)
    subst hx
    have hgr:=grown 0 U
    cases A with
    | none =>
      have hr:=run_append_nil (P:=P) w t ty e i z ht hi hz a k c2 news hl hnw U U (by have hb:=hbytes; simp only [Nat.zero_add] at hb; omega)
      simp only [Nat.zero_add,List.nil_append,Array.empty_append] at hgr ⊢
      exact ⟨_,_,_,_,hr,hgr.1,hgr.2.1,hgr.2.2,fun p hp=>.inr (by simp only [List.mem_singleton] at hp; subst hp; exact Nat.le_refl _)⟩
    | some a0 =>
      have hr:=run_append_grow (P:=P) w t ty e i z ht hi hz a0 0 0 [] Ma (fun j u hu=>by cases hu) a k c2 news hl hnw U U (growslice_fits U hbytes)
      exact ⟨_,_,_,_,hr,hgr.1,hgr.2.1,hgr.2.2,fun p hp=>.inr (by simp only [List.mem_singleton] at hp; subst hp; exact Nat.le_refl _)⟩
  · have hg : w.heap[g]? = some (.cells cur e) := hF.memHeap (p := (g, .cells cur e)) Ma
    by_cases hroom:n+k≤c
    · have hfit : n * i.size + news.length ≤ cur.size := by rw [hl, hcs, ← Nat.add_mul]; exact Nat.mul_le_mul_right _ hroom
      have hr:=run_append_room (P:=P) w t ty e i ht hi g n c cur hg a k c2 news hl hnw h1 hroom hfit
      have hsm:Same [g] w (w.setRow g (cur.toList.take (n * i.size)++news++cur.toList.drop (n * i.size+news.length)).toArray) :=
        ⟨rfl,rfl,rfl,by simp [World.setRow],fun b _ hb=>setRow_other w g b _ (by simpa using hb)⟩
      refine ⟨_,_,[(g,.cells (cur.toList.take (n * i.size)++news++cur.toList.drop (n * i.size+news.length)).toArray e)],_,hr,⟨hlen,.inr ⟨g,_,O,O,hroom,hcm,?_,?_⟩⟩,hF.changeMid hsm (setRow_heap w g cur _ e _ hg),by simpa using hsm,fun p hp=>.inl (by simp at hp ⊢; exact congrArg Prod.fst hp)⟩
      · simp only [List.size_toArray, List.length_append, List.length_take, List.length_drop, Array.length_toList]
        omega
      · rw [htake, ← hlen]
        exact List.take_left
    · have holds : ∀ j u, xs[j]? = some u → w.cell? ((⟨g, 0, none⟩ : Addr).add j) = some u := hS.cells hF _ rfl
      have hr:=run_append_grow (P:=P) w t ty e i z ht hi hz ⟨g,0,none⟩ n c xs hS.1 holds a k c2 news hl hnw U U (growslice_fits U hbytes)
      have hgr:=grown c U
      exact ⟨_,_,_,_,hr,hgr.1,hgr.2.1,hgr.2.2,fun p hp=>.inr (by simp only [List.mem_singleton] at hp; subst hp; exact Nat.le_refl _)⟩
end
end Go.Scarf
namespace Go.Scarf
open Go.RowKit
abbrev MapL:=List (Str × Value)
def Wr (x:(Str × Value) × Nat):MapEntry:=⟨.string (bs x.1.1),x.1.2,x.2⟩
def Ud (l:MapL) (n:Nat):List MapEntry:=(l.zipIdx n).map Wr
def Nn (l:MapL):Obj:=.map (Ud l 0).toArray l.length
def Lk (l:MapL) (k:Str):Option Value:=(l.find? (fun x=>decide (x.1=k))).map (·.2)
theorem SR (a b:Str):(bs a == bs b)=decide (a=b):=by
  show (a.toArray == b.toArray)=_
  by_cases h:a=b
  · subst h; simp
  · simp [h]
theorem W1 (k:Str):∀ (l:MapL) (n i:Nat),Instr.findNow .string (.string (bs k)) (Ud l n) i=some ((l.findIdx? (fun x=>decide (x.1=k))).bind fun j=>(l[j]?).map fun x=>(i+j,x.2))
  | [],n,i=>by simp [Ud,Instr.findNow]
  | x :: l, n, i => by
    have ih:=W1 k l (n+1) (i+1)
    unfold Ud at ih ⊢
    rw [List.zipIdx_cons,List.map_cons,Instr.findNow,List.findIdx?_cons]
    have hs:Instr.sameNow .string (.string (bs k)) (Wr (x,n)).key=some (decide (x.1=k)):=by
      simp only [Wr,Instr.sameNow,SR]
      congr 1
      by_cases h:k=x.1
      · simp [h]
      · simp [h,show ¬x.1=k from fun e=>h e.symm]
    rw [hs]
    by_cases h:x.1=k
    · simp [h,Wr]
    · simp only [h, decide_false, Bool.false_eq_true, if_false]
      rw [ih]
      cases hf:List.findIdx? (fun x=>decide (x.1=k)) l with
      | none=>simp
      | some j=>simp; congr 1; funext y; congr 1; omega
theorem ML (l:MapL) (k:Str):((l.findIdx? (fun x=>decide (x.1=k))).bind fun j=>l[j]?)=l.find? (fun x=>decide (x.1=k)):=by
  induction l with
  | nil=>rfl
  | cons x l ih =>
    rw [List.findIdx?_cons,List.find?_cons]
    by_cases h:x.1=k
    · simp [h]
    · simp only [h, decide_false, Bool.false_eq_true, if_false]
      rw [←ih]
      cases List.findIdx? (fun x=>decide (x.1=k)) l <;> simp
section
variable {P:Program} {R:Exit→Act→World→Prop} {n:Nat} {k:Kt} {s:Nat→Value} {w:World} {ops rest:List Oper}
variable {d:Nat} {ty:TypeId} {pos:String} {aft:Array Edge} {g:Option (Nat × Bool)}
variable {w0:World} {Ds:List Nat} {bs_:List (Nat × Obj)} {ρ:Operand→Value} {dst:Option Nat}
theorem Ov {b:Nat} {l:MapL} (h:w.heap[b]? = some (Nn l)):(getObj b).run P w=.ok (.map (Ud l 0).toArray l.length) w:=by
  simp [getObj,Sem.run,h,Nn]
theorem J5 (m:Nat) {kt:TypeId} {e:Bool} {x:Str} (hk:P.underlying kt=some .string):(Instr.checkKey e (m+1) kt (.string (bs x))).run P w=.ok () w:=by
  simp [Instr.checkKey,run_underlying hk]
theorem Yr {kt:TypeId} {e:Bool} {x:Str} (hk:P.underlying kt=some .string):(Instr.checkKey e 10000 kt (.string (bs x))).run P w=.ok () w:=J5 9999 hk
theorem Jt {kt:TypeId} {l:MapL} {x:Str} (hk:P.underlying kt=some .string) :
    (Instr.findKey kt (.string (bs x)) (Ud l 0)).run P w=.ok ((l.findIdx? (fun y=>decide (y.1=x))).bind fun j=>(l[j]?).map fun y=>(j,y.2)) w:=by
  simp only [Instr.findKey,Sem.run_bind,run_underlying hk,Result.andThen_ok,W1,Nat.zero_add]
  rfl
theorem K6 (l:MapL) (x:Str):((l.findIdx? (fun y=>decide (y.1=x))).bind fun j=>(l[j]?).map fun y=>(j,y.2)).map (·.2)=Lk l x:=by
  unfold Lk
  rw [←ML]
  cases List.findIdx? (fun y=>decide (y.1=x)) l with
  | none=>rfl
  | some j=>simp only [Option.bind_some,Option.map_map]; rfl
theorem VL {t kt e b:Nat} {x y:Operand} {l:MapL} {key:Str} {z:Value} (ht:P.underlying t=some (.map kt e)) (hk:P.underlying kt=some .string) (hz:∀ w,(zeroValue e).run P w=.ok z w)
    (hx:ρ x=.map (some b)) (hy:ρ y=.string (bs key)) (hb:w.heap[b]? = some (Nn l)) :
    (execOp ρ ⟨dst,.lookup t x y false,ty,pos,aft,g⟩).run P w=.ok (.value ((Lk l key).getD z)) w:=by
  have h:=K6 l key
  cases hf:((l.findIdx? (fun y=>decide (y.1=key))).bind fun j=>(l[j]?).map fun y=>(j,y.2)) with
  | none=>rw [hf] at h; simp only [Option.map_none] at h; rw [←h]; simp [execOp,Instr.lookup,hx,hy,run_underlying ht,Ov hb,Yr hk,Jt hk,hf,hz]
  | some q=>rw [hf] at h; simp only [Option.map_some] at h; rw [←h]; simp [execOp,Instr.lookup,hx,hy,run_underlying ht,Ov hb,Yr hk,Jt hk,hf]
theorem S6 {t kt e:Nat} {x:Operand} {k:IntKind} {i:Int} (ht:P.underlying t=some (.map kt e)) (hx:ρ x=.int k i) :
    (execOp ρ ⟨dst,.makeMap t (some x),ty,pos,aft,g⟩).run P w=.ok (.value (.map (some w.heap.size))) (w.alloc (Nn [])):=by
  simp [execOp,Instr.makeMap,hx,run_underlying ht,asInt,asIntOf,newObj,Sem.run,Nn,Ud]
theorem Dz (l:MapL) (x:Str × Value) (n:Nat):Ud (l++[x]) n=Ud l n++[⟨.string (bs x.1),x.2,n+l.length⟩]:=by
  simp [Ud,List.zipIdx_append,Wr]
theorem NE {b:Nat} {l:MapL} {o:Obj} (h:w.heap[b]? = some (Nn l)) (ho:∃ es c,o=.map es c):(setObj b o).run P w=.ok () { w with heap:=w.heap.setIfInBounds b o }:=by
  obtain ⟨es,c,rfl⟩:=ho
  simp [setObj,Sem.run,h,Nn]
theorem Q_ {t kt e b:Nat} {x y z:Operand} {l:MapL} {key:Str} {v:Value} (ht:P.underlying t=some (.map kt e)) (hk:P.underlying kt=some .string)
    (hx:ρ x=.map (some b)) (hy:ρ y=.string (bs key)) (hv:ρ z=v) (hb:w.heap[b]? = some (Nn l)) (hn:Lk l key=none) :
    (execOp ρ ⟨dst,.mapUpdate t x y z,ty,pos,aft,g⟩).run P w=.ok .skip { w with heap:=w.heap.setIfInBounds b (Nn (l++[(key,v)])) }:=by
  have h:=K6 l key
  rw [hn] at h
  have hf:((l.findIdx? (fun y=>decide (y.1=key))).bind fun j=>(l[j]?).map fun y=>(j,y.2))=none:=by
    cases hf:((l.findIdx? (fun y=>decide (y.1=key))).bind fun j=>(l[j]?).map fun y=>(j,y.2)) with
    | none=>rfl
    | some q=>rw [hf] at h; cases h
  have ho:Nn (l++[(key,v)])=.map (Ud l 0++[(⟨.string (bs key),v,l.length⟩:MapEntry)]).toArray (l.length+1):=by
    simp [Nn,Dz]
  have hs:=NE (P:=P) (o:=Nn (l++[(key,v)])) hb ⟨_,_,rfl⟩
  rw [ho] at hs ⊢
  simp [execOp,Instr.mapUpdate,hx,hy,hv,run_underlying ht,Ov hb,Yr hk,Jt hk,hf,hs]
theorem Nx (l:MapL) (n:Nat):(Ud l n).map (·.born)=List.range' n l.length:=by
  induction l generalizing n with
  | nil=>rfl
  | cons x l ih =>
    have:=ih (n+1)
    unfold Ud at this ⊢
    rw [List.zipIdx_cons,List.map_cons,List.map_cons,this,List.length_cons,List.range'_succ]
    rfl
theorem Ys (l:MapL) (n:Nat):(Ud l n).length=l.length:=by simp [Ud]
theorem AG (l:MapL):∀ x∈(Ud l 0).toArray.toList,x.born < l.length:=by
  intro x hx
  have:x.born∈(Ud l 0).map (·.born):=List.mem_map_of_mem (by simpa using hx)
  rw [Nx] at this
  simpa using this
theorem S5 {t kt e b:Nat} {x y:Operand} {l:MapL} {key:Str} {z v:Value} (ht:P.underlying t=some (.map kt e)) (hk:P.underlying kt=some .string) (hz:∀ w,(zeroValue e).run P w=.ok z w)
    (hx:ρ x=.map (some b)) (hy:ρ y=.string (bs key)) (hb:w.heap[b]? = some (Nn l)) (hv:(Lk l key).getD z=v) :
    (execOp ρ ⟨dst,.lookup t x y false,ty,pos,aft,g⟩).run P w=.ok (.value v) w:=hv ▸ VL ht hk hz hx hy hb
theorem FR.setObj {o o':Obj} {b:Nat} (hF:FR w0 Ds bs_ w) (i:Nat) (hi:bs_[i]? = some (b,o)):FR w0 Ds (bs_.set i (b,o')) { w with heap:=w.heap.setIfInBounds b o' } :=
  hF.change i hi (Hr w b o') (by have:=hF.lt hi; simp [this])
theorem Zz (i:Nat) {t kt e b:Nat} {x y z:Operand} {l:MapL} {key:Str} {v:Value} (hF:FR w0 Ds bs_ w) (ht:P.underlying t=some (.map kt e)) (hk:P.underlying kt=some .string)
    (hx:ev n s x=.map (some b)) (hy:ev n s y=.string (bs key)) (hv:ev n s z=v) (hi:bs_[i]? = some (b,Nn l)) (hn:Lk l key=none)
    (h:∀ w',FR w0 Ds (bs_.set i (b,Nn (l++[(key,v)]))) w'→Same [b] w w'→Og P R n ops k rest s w')
    (hw:Kc ops n s ⟨none,.mapUpdate t x y z,ty,pos,aft,g⟩=true:=by rfl):Og P R n ops k (⟨none,.mapUpdate t x y z,ty,pos,aft,g⟩::rest) s w :=
  Xy (Q_ ht hk hx hy hv (hF.heap hi) hn) (h _ (hF.setObj i hi) (Hr w b _)) hw
theorem G8 (l l':MapL) (k:Str):Lk (l++l') k=(Lk l k).or (Lk l' k):=by
  unfold Lk; rw [List.find?_append]; cases List.find? (fun x=>decide (x.1=k)) l <;> simp
def Y7 (N:Nat) (seen:Array Nat):Nat:=((List.range N).filter fun i=>!seen.contains i).length
theorem VB {N j:Nat} {seen:Array Nat} (hj:j < N) (hn:seen.contains j=false):Y7 N (seen.push j) < Y7 N seen:=by
  unfold Y7
  refine filter_lt (fun i=>!seen.contains i) (fun i=>!(seen.push j).contains i) (fun x hx=>?_) j (by rw [hn]; rfl) ?_ _ (List.mem_range.2 hj)
  · rw [contains_push] at hx
    simp only [Bool.not_or,Bool.and_eq_true] at hx
    exact hx.1
  · rw [contains_push]; simp
theorem FR.heap0 {b:Nat} {o:Obj} (hF:FR w0 [] bs_ w) (h:w0.heap[b]? = some o):w.heap[b]? = some o:=(hF.same.block b (Ra h) Ma).trans h
end
end Go.Scarf
namespace Go.Scarf
open Go.RowKit
def JV (w:World) (x:Nat):Prop:=∃ cs T,w.heap[x]? = some (.cells cs T (0,0))
def EY (w0:World) (ids:List Nat) (w:World) (x:Nat):Prop:=w0.heap.size≤x∧x < w.heap.size∧x∉ids∧JV w x
def RX (w0:World) (ids:List Nat) (w:World) (ds:List D) (cs:List Value):Prop:=RepL (EY w0 ids w) w ds cs
def Btw (w w':World) (x:Nat):Prop:=w.heap.size≤x∧x < w'.heap.size∧JV w' x
section
variable {w0 w w':World} {ids ids' E:List Nat} {ds es:List D} {cs ct:List Value}
theorem RX.nil:RX w0 ids w [] []:=RepL.nil_mk
theorem RX.step (h:RX w0 ids w ds cs) (hs:Same E w w') (he:∀ b∈E,b∈ids) (hi:∀ x∈ids',x∈ids∨w.heap.size≤x):RX w0 ids' w' ds cs:=by
  have h1:RepL (EY w0 ids w) w' ds cs:=RepL.same h hs (fun b hb hn=>hn.2.2.1 (he b hb))
  refine h1.weaken fun b hb _=>⟨hb.1,Nat.lt_of_lt_of_le hb.2.1 hs.size,fun hm=>?_,?_⟩
  · rcases hi b hm with h2 | h2
    · exact hb.2.2.1 h2
    · have:=hb.2.1; omega
  · obtain ⟨cs, T, hh⟩ := hb.2.2.2
    exact ⟨cs,T,(hs.block b hb.2.1 (fun hm=>hb.2.2.1 (he b hm))).trans hh⟩
theorem RX.ext (h:RX w0 ids w ds cs) (hs:Same [] w w'):RX w0 ids w' ds cs:=h.step hs Ma (fun x hx=>.inl hx)
theorem RX.store (h:RX w0 ids w ds cs) (hs:Same E w w') (he:∀ b∈E,b∈ids):RX w0 ids w' ds cs:=h.step hs he (fun _ hx=>.inl hx)
theorem RX.alloc {b:Nat} (h:RX w0 ids w ds cs) (hs:Same [] w w') (hb:b=w.heap.size):RX w0 (b::ids) w' ds cs :=
  h.step hs Ma (fun x hx=>by rcases List.mem_cons.1 hx with rfl | hx; exact .inr U; exact .inl hx)
theorem RX.sub (h:RX w0 ids w ds cs) (hi:∀ x∈ids',x∈ids):RX w0 ids' w ds cs:=h.step (Same.refl [] w) Ma (fun x hx=>.inl (hi x hx))
theorem RX.append (h:RX w0 ids w ds cs) (k:RX w0 ids w es ct):RX w0 ids w (ds++es) (cs++ct):=RepL.append h k
theorem RX.one {d:D} (h:Rep (EY w0 ids w) w d cs):RX w0 ids w [d] cs:=by
  have:=RepL.cons_mk h RepL.nil_mk
  rw [List.append_nil] at this
  exact this
theorem RX.rep {d:D} (h:RX w0 ids w [d] cs):Rep (EY w0 ids w) w d cs:=by
  obtain ⟨c1,c2,rfl,h1,h2⟩:=RepL.cons_inv h
  obtain rfl:=RepL.nil_inv h2
  rw [List.append_nil]; exact h1
theorem RX.made {d:D} (hw:w0.heap.size≤w.heap.size) (hi:∀ x∈ids,x < w.heap.size) (h:Rep (Btw w w') w' d cs):RX w0 ids w' [d] cs :=
  .one (h.weaken fun b hb _=>⟨Nat.le_trans hw hb.1,hb.2.1,fun hm=>by have:=hi b hm; have:=hb.1; omega,hb.2.2⟩)
theorem RX.doneL (h:RX w0 ids w ds cs):RepL (Btw w0 w) w ds cs:=RepL.weaken (fun _ hb _=>⟨hb.1,hb.2.1,hb.2.2.2⟩) h
theorem RX.done {d:D} (h:RX w0 ids w [d] cs):Rep (Btw w0 w) w d cs:=h.rep.weaken fun _ hb _=>⟨hb.1,hb.2.1,hb.2.2.2⟩
theorem RX.plain (h:∀ S,RepL S w ds cs):RX w0 ids w ds cs:=h _
theorem Btw.mono {w1:World} (hw:w0.heap.size≤w1.heap.size) {x:Nat} (h:Btw w1 w x):Btw w0 w x:=⟨Nat.le_trans hw h.1,h.2⟩
theorem Btw.ext {x:Nat} (h:Btw w0 w x) (hs:Same [] w w'):Btw w0 w' x:=⟨h.1,Nat.lt_of_lt_of_le h.2.1 hs.size,by obtain ⟨cs,T,hh⟩:=h.2.2; exact ⟨cs,T,(hs.block x h.2.1 Ma).trans hh⟩⟩
theorem SlB.repOf {e m n c:Nat} {A:Option Addr} {xs:List Value} {sb:List (Nat × Obj)} {S:Nat→Prop} (h:SlB e m A n c xs sb) (hb:∀ p∈sb,w.heap[p.1]? = some p.2∧S p.1) (hr:RepL S w ds xs) (hn:ds.length=n) :
    Rep S w (.slice ds) [.slice A n c]:=by
  refine Rep.slice_mk hn.symm h.cap.1 h.cap.2 fun hne=>?_
  rcases h.2 with ⟨rfl,-⟩ | ⟨g,cur,rfl,rfl,h1,h2,h3,h4⟩
  · exact absurd (List.eq_nil_of_length_eq_zero hn) hne
  · have hg := hb (g, .cells cur e) Ma
    refine ⟨_,O,xs,fun i hi=>⟨?_,hg.2⟩,hr⟩
    rw [Kk,Nat.zero_add,cell_of_row w g i cur e (0,0) hg.1]
    have hx:xs[i]? = some xs[i]:=List.getElem?_eq_getElem hi
    rw [←hx]
    conv=>rhs; rw [←h4]
    rw [List.getElem?_take,if_pos (by have:=h.1; omega)]
    simp
theorem SlB.rep {e m n c:Nat} {A:Option Addr} {xs:List Value} {pre post sb:List (Nat × Obj)} (h:SlB e m A n c xs sb) (hF:FR w0 [] (pre++(sb++post)) w) (hr:RX w0 ids w ds xs) (hn:ds.length=n) :
    Rep (Btw w0 w) w (.slice ds) [.slice A n c]:=by
  refine h.repOf (fun p hp=>?_) hr.doneL hn
  have h1:=hF.own p (by simp [hp])
  have h2:∃ cur,p=(p.1,.cells cur e):=by
    rcases h.2 with ⟨-,-,rfl⟩ | ⟨g,cur,-,rfl,-⟩
    · cases hp
    · simp only [List.mem_singleton] at hp; subst hp; exact ⟨cur,rfl⟩
  obtain ⟨cur,h2⟩:=h2
  refine ⟨h1.1,?_,Ra h1.1,?_⟩
  · rcases h1.2 with h3 | h3
    · exact h3
    · cases h3
  · rw [h2] at h1; exact ⟨cur,e,h1.1⟩
theorem FR.cons_ext {Ds:List Nat} {w':World} {bs:List (Nat × Obj)} {b:Nat} {o:Obj} (h:FR w0 Ds bs w) (hs:Same [] w w') (hb:w'.heap[b]? = some o) (hge:w.heap.size≤b):FR w0 Ds ((b,o)::bs) w':=by
  have h1:=h.ext hs
  refine ⟨h1.same,fun p hp=>?_,List.pairwise_cons.2 ⟨fun q hq=>?_,h.desc⟩⟩
  · rcases List.mem_cons.1 hp with rfl | hp
    · exact ⟨hb,.inl (Nat.le_trans h.same.size hge)⟩
    · exact h1.own p hp
  · have := Ra (h.own q hq).1
    show q.1≠b
    omega
def RS (S:Nat→Prop) (w0:World) (b:Nat):Prop:=S b∧b < w0.heap.size
theorem Rep.old {S:Nat→Prop} {d:D} {cs:List Value} (h:Rep S w0 d cs):Rep (RS S w0) w0 d cs:=h.weaken fun _ h1 h2=>⟨h1,h2⟩
theorem Rep.back {S:Nat→Prop} {d:D} {cs:List Value} (h:Rep (RS S w0) w d cs) (hs:Same [] w0 w):Rep (RS S w0) w0 d cs:=h.keep fun b hb _=>(hs.block b hb.2 Ma).symm
theorem SlB.pw {e m n c:Nat} {A:Option Addr} {xs:List Value} {sb:List (Nat × Obj)} (h:SlB e m A n c xs sb):sb.Pairwise (fun p q=>q.1≠p.1):=by
  rcases h.2 with ⟨-,-,rfl⟩ | ⟨g,cur,-,rfl,-⟩ <;> simp
end
section
variable {P:Program} {R:Exit→Act→World→Prop} {n:Nat} {kt:Kt} {s:Nat→Value} {w:World} {ops rest:List Oper}
variable {d:Nat} {ty:TypeId} {pos:String} {aft:Array Edge} {g:Option (Nat × Bool)}
variable {w0:World} {Ds:List Nat} {sb:List (Nat × Obj)}
theorem Bx {ρ:Operand→Value} {dst:Option Nat} {x y:Operand} {t:TypeId} {u v:Value} {r:Value} {w':World} (hx:ρ x=u) (hy:ρ y=v) (h:(Builtin.append_ #[t,t] ty #[u,v]).run P w=.ok r w') :
    (execOp ρ ⟨dst,.call ⟨.builtin .append,#[x,y],#[t,t]⟩,ty,pos,aft,g⟩).run P w=.ok (.value r) w':=by
  simp [execOp,resolve,invoke,builtin,hx,hy,h]
structure Elems (P:Program) (t e m bytes:Nat):Prop where
  ht:P.underlying t=some (.slice e)
  info:∃ (i:TypeInfo) (z:Value),P.info? e=some i∧i.zero=some z∧i.size=m∧i.bytes=bytes∧z.cells.size=m
theorem Elems.of {t e m bytes:Nat} (z:Value) (ht:P.underlying t=some (.slice e)) (hi:(P.info? e).map (fun i=>(i.zero,i.size,i.bytes))=some (some z,m,bytes)) (hz:z.cells.size=m):Elems P t e m bytes:=by
  refine ⟨ht,?_⟩
  cases h:P.info? e with
  | none=>rw [h] at hi; cases hi
  | some i =>
    rw [h] at hi
    simp only [Option.map_some,Option.some.injEq,Prod.mk.injEq] at hi
    exact ⟨i,z,O,hi.1,hi.2.1,hi.2.2,hz⟩
theorem Kf (pre post:List (Nat × Obj)) {x y:Operand} {t e m bytes:Nat} {A A2:Option Addr} {len c k c2:Nat} {xs news:List Value} (hE:Elems P t e m bytes)
    (hF:FR w0 Ds (pre++(sb++post)) w) (hS:SlB e m A len c xs sb) (hx:ev n s x=.slice A len c) (hy:ev n s y=.slice A2 k c2)
    (hl:news.length=k * m) (hnews:k≠0→∃ a,A2=some a∧∀ j u,news[j]? = some u→w.cell? (a.add j)=some u) (h1:∀ u∈news,u.oneCell'=true)
    (h63:len+k≤maxLen) {len':Nat} {ys:List Value} (hlen:len+k=len') (hys:xs++news=ys) (hbytes:(len+k) * bytes≤140737488355328)
    (h:∀ A' c' sb' w',SlB e m A' len' c' ys sb'→FR w0 Ds (pre++(sb'++post)) w'→Same (sb.map (·.1)) w w'→(∀ p∈sb',p.1∈sb.map (·.1)∨w.heap.size≤p.1)→Og P R n ops kt rest (Xi s d (.slice A' len' c')) w')
    (hw:Kc ops n s ⟨some d,.call ⟨.builtin .append,#[x,y],#[t,t]⟩,ty,pos,aft,g⟩=true:=by rfl):Og P R n ops kt (⟨some d,.call ⟨.builtin .append,#[x,y],#[t,t]⟩,ty,pos,aft,g⟩::rest) s w:=by
  subst hlen hys
  obtain ⟨i,z,hi,hz,h2,h3,h4⟩:=hE.info
  obtain ⟨A',c',sb',w',hr,hS',hF',hs,hn⟩:=G4 (ty:=ty) (c2:=c2) hE.ht hi hz h2 h3 h4 hF hS hl hnews h1 h63 hbytes
  exact Ja (Bx hx hy hr) (h A' c' sb' w' hS' hF' hs hn) hw
theorem Rc (pre post:List (Nat × Obj)) {C:World→Prop} {order:Ord} {zs:List Nat} {i:Nat} {x y:Operand} {t e m bytes:Nat} {A A2:Option Addr} {len c k c2:Nat} {xs news:List Value}
    (hi:ops[i]? = some ⟨some d,.call ⟨.builtin .append,#[x,y],#[t,t]⟩,ty,pos,aft,g⟩) (hE:Elems P t e m bytes)
    (hF:FR w0 Ds (pre++(sb++post)) w) (hS:SlB e m A len c xs sb) (hx:ev n s x=.slice A len c) (hy:ev n s y=.slice A2 k c2)
    (hl:news.length=k * m) (hnews:k≠0→∃ a,A2=some a∧∀ j u,news[j]? = some u→w.cell? (a.add j)=some u) (h1:∀ u∈news,u.oneCell'=true)
    (h63:len+k≤maxLen) {len':Nat} {ys:List Value} (hlen:len+k=len') (hys:xs++news=ys) (hbytes:(len+k) * bytes≤140737488355328)
    (h:∀ A' c' sb' w',SlB e m A' len' c' ys sb'→FR w0 Ds (pre++(sb'++post)) w'→Same (sb.map (·.1)) w w'→(∀ p∈sb',p.1∈sb.map (·.1)∨w.heap.size≤p.1)→C w'∧Dg P R n ops kt zs order C (Xi s d (.slice A' len' c')) w')
    (hw:Kc ops n s ⟨some d,.call ⟨.builtin .append,#[x,y],#[t,t]⟩,ty,pos,aft,g⟩=true:=by rfl) (hzz:zs.contains i=false:=by rfl):Dg P R n ops kt zs (.act i order) C s w:=by
  subst hlen hys
  obtain ⟨ii,z,hi',hz,h2,h3,h4⟩:=hE.info
  obtain ⟨A',c',sb',w',hr,hS',hF',hs,hn⟩:=G4 (ty:=ty) (c2:=c2) hE.ht hi' hz h2 h3 h4 hF hS hl hnews h1 h63 hbytes
  have r:=h A' c' sb' w' hS' hF' hs hn
  exact Xe hi (Bx hx hy hr) r.1 r.2 hw hzz
theorem ZX {v:Value} (h:one v=true):v.oneCell'=true:=by cases v <;> first | rfl | cases h
theorem Pl {l:List Value} (h:∀ v∈l,one v=true):∀ v∈l,v.oneCell'=true:=fun v hv=>ZX (h v hv)
theorem Xb {a:Addr} {l:List Value} (h:∀ j (hj:j < l.length),w.cell? (a.add j)=some l[j]):∀ j u,l[j]? = some u→w.cell? (a.add j)=some u:=by
  intro j u hu
  obtain ⟨hj,rfl⟩:=List.getElem?_eq_some_iff.1 hu
  exact h j hj
theorem BQ:∀ (l pre:List Value) (cs:Array Value),cs.size=pre.length+l.length→cs.toList.take pre.length=pre →
    ((l.zipIdx 0).foldl (fun (a:Array Value) (p:Value × Nat)=>a.setIfInBounds (pre.length+p.2) p.1) cs)=(pre++l).toArray:=by
  intro l pre cs hs hp
  have key:∀ (l:List Value) (k:Nat) (cs:Array Value),((l.zipIdx k).foldl (fun (a:Array Value) (p:Value × Nat)=>a.setIfInBounds (pre.length+p.2) p.1) cs)=Ok cs (pre.length+k) l:=by
    intro l
    induction l with
    | nil=>intro k cs; rfl
    | cons v l ih=>intro k cs; rw [List.zipIdx_cons,List.foldl_cons,ih,Ok]; rfl
  rw [key,Nat.add_zero]
  exact S8 l pre cs hs hp
theorem Qh {ρ:Operand→Value} {dst:Option Nat} {t e size:Nat} {x:Operand} {z:Value} {l:List Value} (ht:P.underlying t=some (.slice e)) (hs:∀ w,(sizeOf e).run P w=.ok size w) (hz:∀ w,(zeroValue e).run P w=.ok z w)
    (h1:(1 * size≤16777216)=True) (h0:(1 * size=0)=False) (hx:ρ x=.agg l.toArray) (hl:l.length=size) :
    (execOp ρ ⟨dst,.buildSlice t 1 #[(0,x)],ty,pos,aft,g⟩).run P w=.ok (.value (.slice (some ⟨w.heap.size,0,none⟩) 1 1)) (w.alloc (.cells l.toArray e)):=by
  refine Za ht hs hz h1 h0 ?_
  have hc:(Value.agg l.toArray).cells=l.toArray:=rfl
  simp only [List.map_cons,List.map_nil,hx,Instr.fill,hc,List.size_toArray,hl,Nat.zero_mul,Nat.zero_add]
  have hsz:((Array.range (1 * size)).map (z.cells[· % z.cells.size]!)).size=size:=by simp
  generalize (Array.range (1 * size)).map (z.cells[· % z.cells.size]!)=Z at hsz ⊢
  have hf:=BQ l [] Z (by simp [hl,hsz]) Ma
  simp only [List.length_nil,Nat.zero_add,List.nil_append] at hf
  have e1:Array.foldl (fun (cs:Array Value) (x:Value × Nat)=>cs.setIfInBounds x.2 x.1) Z l.toArray.zipIdx=l.toArray:=by
    refine Eq.trans ?_ hf; simp
  simp only [hsz]
  have hc1:(decide (size≠size) || decide (size > size))=false:=by simp
  simp only [hc1]
  exact congrArg some e1
theorem Qq {ρ:Operand→Value} {dst:Option Nat} {t e size:Nat} (ht:P.underlying t=some (.slice e)) (hs:∀ w,(sizeOf e).run P w=.ok size w) :
    (execOp ρ ⟨dst,.buildSlice t 0 #[],ty,pos,aft,g⟩).run P w=.ok (.value (.slice (some ⟨w.heap.size,0,none⟩) 0 0)) (w.alloc (.cells #[] e)):=by
  have hu:∀ w,(underlying t).run P w=.ok (.slice e) w:=run_underlying ht
  have h0:∀ v:Value,Array.map (fun _=>v) (Array.range 0)=#[]:=fun _=>by simp [Array.range]
  simp [execOp,Instr.buildSlice,hu,hs,Instr.fill,newRow,newObj,Sem.run,h0]
theorem SlB.elem {e m len c:Nat} {A:Option Addr} {xs:List Value} {pre post:List (Nat × Obj)} (hS:SlB e m A len c xs sb) (hF:FR w0 Ds (pre++(sb++post)) w) {j:Nat} (hj:j < len) :
    ∃ ad,A=some ad∧∀ i (hi:i < ((xs.drop (j * m)).take m).length),w.cell? ((ad.add (j * m)).add i)=some ((xs.drop (j * m)).take m)[i]:=by
  have hA:∃ ad,A=some ad:=by
    rcases hS.2 with ⟨rfl,-⟩ | ⟨b,cur,hA,-⟩
    · omega
    · exact ⟨_,hA⟩
  obtain ⟨ad,rfl⟩:=hA
  refine ⟨ad,O,fun i hi=>?_⟩
  rw [Ur]
  refine hS.cells hF ad O (j * m+i) _ ?_
  rw [List.getElem_take,List.getElem_drop]
  exact List.getElem?_eq_getElem _
theorem HR {C:World→Prop} {order:Ord} {zs:List Nat} {i:Nat} {op:Op} {w':World} (hi:ops[i]? = some ⟨none,op,ty,pos,aft,g⟩) (hrun:(execOp (ev n s) ⟨none,op,ty,pos,aft,g⟩).run P w=.ok .skip w') (h:Dg P R n ops kt zs order (fun _=>True) s w')
    (hw:Kc ops n s ⟨none,op,ty,pos,aft,g⟩=true:=by rfl) (hz:zs.contains i=true:=by rfl):Dg P R n ops kt zs (.act i order) C s w:=XG hrun h hi hw hz
theorem FR.lt_ids {bs:List (Nat × Obj)} (h:FR w0 Ds bs w) {x:Nat} (hx:x∈bs.map (·.1)):x < w.heap.size:=by
  obtain ⟨p,hp,rfl⟩:=List.mem_map.1 hx
  exact Ra (h.memHeap hp)
theorem RX.app {l:List Nat} {sb':List (Nat × Obj)} {w':World} {ds:List D} {cs:List Value} (h:RX w0 (l++sb.map (·.1)) w ds cs) (hs:Same (sb.map (·.1)) w w') (hn:∀ p∈sb',p.1∈sb.map (·.1)∨w.heap.size≤p.1):RX w0 (l++sb'.map (·.1)) w' ds cs :=
  h.step hs (fun b hb=>List.mem_append.2 (.inr hb)) (fun x hx=>by
    rcases List.mem_append.1 hx with hx | hx
    · exact .inl (List.mem_append.2 (.inl hx))
    · obtain ⟨p, hp, rfl⟩ := List.mem_map.1 hx
      rcases hn p hp with h1 | h1
      · exact .inl (List.mem_append.2 (.inr h1))
      · exact .inr h1)
end
end Go.Scarf
namespace Go.Scarf
open Go.RowKit Go.Maps Go.WideShapes
open Go.Proofs (encStr)
theorem EH {P:Program} {k:TypeId} (hk:P.underlying k=some .string) (x:(Str × Value) × Nat) (h:x.1.1.length≤maxLen) :
    WideElems.rd P k (fun _=>some ((.nil:DataW Unit),([]:List MemPlace))) (Wr x)=some (.string x.1.1,.nil):=by
  have h1:(bs x.1.1).size≤maxLen:=h
  simp [WideElems.rd,Wr,keyOf,hk,mapKey,h1]
theorem D4 {P:Program} {k:TypeId} (hk:P.underlying k=some .string):∀ (l:MapL) (n:Nat),(∀ x∈l,x.1.length≤maxLen) →
    (Ud l n).map (WideElems.rg P k (fun _=>some ((.nil:DataW Unit),([]:List MemPlace))))=l.map (fun x=>(Lit.string x.1,DataW.nil))
  | [],n,_=>rfl
  | x :: l, n, h => by
    have ih:=D4 hk l (n+1) (fun y hy=>h y (by simp [hy]))
    unfold Ud at ih ⊢
    rw [List.zipIdx_cons,List.map_cons,List.map_cons,List.map_cons,ih]
    congr 1
    unfold WideElems.rg
    rw [EH hk _ (h x Ma)]
    rfl
theorem CE {P:Program} {k:TypeId} {w:World} {b:Nat} {l:MapL} (hk:P.underlying k=some .string) (hb:w.heap[b]? = some (Nn l)) (hn:(l.map (·.1)).Nodup) (hx:∀ x∈l,x.1.length≤maxLen) (hl:l.length≤maxLen) :
    ∃ D0:DataW Unit,w.ownsMap P k (fun _=>some (.nil,[])) b l.length D0∧(strKeys D0).Perm (l.map (·.1))∧Maps.size D0=l.length:=by
  have hrg:=D4 hk l 0 hx
  refine ⟨_,⟨(Ud l 0).toArray,l.length,hb,⟨by simpa [Ys] using hl,⟨fun x hx=>AG l x hx,?_,?_⟩,?_⟩,by simp [Ys],O⟩,?_,?_⟩
  · rw [List.toList_toArray,Nx]; exact List.nodup_range'
  · rw [List.toList_toArray]
    have:∀ (l:MapL) (n:Nat),(Ud l n).map (·.key)=l.map (fun x=>Value.string (bs x.1)):=by
      intro l
      induction l with
      | nil=>intro n; rfl
      | cons x l ih =>
        intro n
        have:=ih (n+1)
        unfold Ud at this ⊢
        rw [List.zipIdx_cons,List.map_cons,List.map_cons,this]
        rfl
    rw [this]
    have e:l.map (fun x=>Value.string (bs x.1))=(l.map (·.1)).map (fun s=>Value.string (bs s)):=by simp [List.map_map]
    rw [e]
    refine List.pairwise_map.2 (hn.imp fun {a b} hne he=>hne ?_)
    injection he with he
    exact VW.1 he
  · intro x hx'
    rw [List.toList_toArray] at hx'
    obtain ⟨⟨y,i⟩,hy,rfl⟩:=List.mem_map.1 hx'
    have hm:y∈l:=by
      have:=List.mem_zipIdx hy
      rw [this.2.2]; exact List.getElem_mem _
    exact ⟨_,EH hk (y,i) (hx y hm)⟩
  · rw [List.toList_toArray, hrg]
    have hp:=sorted_perm (l.map (fun x=>(Lit.string x.1,(DataW.nil:DataW Unit))))
    refine (hp.map fun p=>strOf p.1).trans ?_
    rw [List.map_map]
    exact List.Perm.refl _
  · rw [List.toList_toArray, hrg]
    have hp:=sorted_perm (l.map (fun x=>(Lit.string x.1,(DataW.nil:DataW Unit))))
    show List.length _=_
    rw [hp.length_eq,List.length_map]
def Lg (ks:List Str):List Str:=ks.mergeSort leB
theorem Up (ks:List Str):(Lg ks).Perm ks:=List.mergeSort_perm ks leB
theorem Nr {ks:List Str} {k:Str}:k∈Lg ks↔k∈ks:=(Up ks).mem_iff
theorem Zf (ks:List Str):(Lg ks).length=ks.length:=(Up ks).length_eq
theorem G5 {ks ss:List Str} (h:ss.Perm ks):ss.mergeSort leB=Lg ks:=mergeSort_of_perm h
theorem GN {w:World} {base:Nat} {v:Value} {ss:List Str} {S:Nat→Prop} (e:TypeId) (h:w.ownsRow base e 1 v ss.length (ss.map encStr)) (hS:∀ g,base≤g→g < w.heap.size→JV w g→S g) (hs:∀ s∈ss,s.length≤9223372036854775807) :
    ∃ A c,v=.slice A ss.length c∧Rep S w (Hf ss) [.slice A ss.length c]:=by
  have hr:∀ (l:List Str),(∀ s∈l,s.length≤9223372036854775807)→RepL S w (l.map Wp) (l.map encStr):=by
    intro l
    induction l with
    | nil=>intro _; exact RepL.nil_mk
    | cons s l ih =>
      intro hl
      have:=RepL.cons_mk (Rep.lit_mk (S:=S) (w:=w) (v:=.string (bs s)) (hl s Ma)) (ih (fun x hx=>hl x (by simp [hx])))
      exact this
  rcases h.2 with ⟨rfl,h0⟩ | ⟨g,cap,cur,rfl,h1,h2,h3,h4,h5,h6⟩
  · have : ss = [] := List.eq_nil_of_length_eq_zero h0
    subst this
    exact ⟨none,0,O,Rep.nil_slice 0 U none⟩
  · refine ⟨_, cap, O, Rep.slice_mk Ma h3 h4 fun _ => ⟨_, O, _, fun i hi => ⟨?_, ?_⟩, hr ss hs⟩⟩
    · rw [Kk, Nat.zero_add, cell_of_row w g i cur e (0, 0) h2]
      have hx:(ss.map encStr)[i]? = some (ss.map encStr)[i]:=List.getElem?_eq_getElem hi
      rw [←hx]
      conv=>rhs; rw [←h6]
      rw [List.getElem?_take,if_pos (by simp at hi ⊢; omega)]
      simp
    · exact hS g h1 (Ra h2) ⟨cur,e,h2⟩
end Go.Scarf
namespace Go.Scarf
open Go.RowKit
section
variable {P:Program} {md:Region.Mode} {ops:Array Oper}
theorem M3 {zs:List Nat} {Q:Act→World→Prop}:∀ (m:Nat) (C:World→Prop) (listed:Array Bool) (a:Act) (w:World),X3 P md ops zs Q m C listed a w→X3 P md ops [] Q m (fun _=>True) listed a w
  | 0,_,_,_,_,h=>h
  | m + 1, C, listed, a, w, h => ⟨trivial, h.2.1, fun i hi => (h.2.2 i hi).mono fun a' w' hh => by
      rw [if_neg Ma]
      by_cases hz:zs.contains i=true
      · rw [if_pos hz] at hh; exact ⟨trivial,M3 m _ _ _ _ hh⟩
      · rw [if_neg hz] at hh; exact ⟨trivial,M3 m _ _ _ _ hh.2⟩⟩
def PH (md:Region.Mode) (ops:Array Oper):List Nat→Nat→Array Bool→Bool
  | [],_,_=>true
  | i::is,m,listed=>m != 0 && (Region.ready md ops listed).contains i && Region.free md ops listed i && PH md ops is (m - 1) (listed.setIfInBounds i true)
def H9:List Nat→Array Bool→Array Bool
  | [],l=>l
  | i::is,l=>H9 is (l.setIfInBounds i true)
end
section
variable (P:Program) (n:Nat) (ops:List Oper)
def Pw:List Nat→(Nat→Value)→((Nat→Value)→Prop)→Prop
  | [],s,K=>K s
  | i :: is, s, K => match ops[i]? with
    | none=>False
    | some o=>∃ v,((Kc ops n s o=true∧∀ w,(execOp (ev n s) o).run P w=.ok (.value v) w)∨(Kc ops n s o=false∧v=undef))∧Pw is (D5 s o.dst v) K
end
section
variable {P:Program} {n:Nat} {ops:List Oper} {Q:Act→World→Prop}
theorem D6 (hs:Region.noSelect ops.toArray=true):∀ (is:List Nat) (m:Nat) (listed:Array Bool) (s:Nat→Value) (w:World) (K:(Nat→Value)→Prop),PH .any ops.toArray is m listed=true→Pw P n ops is s K →
    (∀ s',K s'→X3 P .any ops.toArray [] Q (m - is.length) (fun _=>True) (H9 is listed) (Wm n s') w)→X3 P .any ops.toArray [] Q m (fun _=>True) listed (Wm n s) w
  | [],m,listed,s,w,K,_,h,hk=>hk s h
  | i :: is, m, listed, s, w, K, hB, h, hk => by
    simp only [PH,Bool.and_eq_true] at hB
    obtain ⟨⟨⟨hm,hr⟩,hf⟩,hrest⟩:=hB
    obtain ⟨m,rfl⟩:∃ q,m=q+1:=⟨m - 1,by have:m≠0:=(by simpa using hm); omega⟩
    unfold Pw at h
    cases ho:ops[i]? with
    | none=>rw [ho] at h; exact h.elim
    | some o =>
      rw [ho] at h
      obtain ⟨v,hy,hD⟩:=h
      have hoA:ops.toArray[i]? = some o:=by simpa using ho
      have hyC:YieldsC P ops.toArray (fun _=>True) o v (Wm n s):=by
        unfold YieldsC
        rw [En,Bo]
        exact hy.imp (fun h=>⟨h.1,fun w _=>h.2 w⟩) id
      refine N6 hoA (Region.noSelect_spec hs) Ma m listed (Wm n s) w (Region.free_spec hoA hf) (fun z oz hm=>by cases hm) (by simpa using hr) hyC trivial ?_
      rw [Un]
      refine D6 hs is m _ _ w K hrest hD (fun s' hs'=>?_)
      have:=hk s' hs'
      rwa [List.length_cons,Nat.add_sub_add_right] at this
end
section
variable {P:Program} {R:Exit→Act→World→Prop} {n:Nat} {k:Kt} {s:Nat→Value} {w w0:World} {ops:List Oper} {zs:List Nat} {Ds:List Nat} {bs_:List (Nat × Obj)}
def Pg (P:Program) (R:Exit→Act→World→Prop) (n:Nat) (ops:List Oper) (k:Kt) (zs:List Nat) (is:List Nat) (order:Ord) (s:Nat→Value) (w:World):Prop :=
  Pw P n ops is s fun s'=>∃ C:World→Prop,C w∧Dg P R n ops k zs order C s' w
theorem OS {id:Nat} (zs:List Nat) (is:List Nat) (order:Ord) (hF:FR w0 Ds bs_ w) (h:∀ w',FR w0 Ds bs_ w'→Same [] w w'→Pg P R n ops k zs is order s w')
    (hm:P.follows .mixedOrders=true:=by kernel_rfl) (hs:Region.noSelect ops.toArray=true:=by kernel_rfl) (hP:PH .any ops.toArray is ops.toArray.size (Array.replicate ops.toArray.size false)=true:=by kernel_rfl)
    (hB:Om .any ops.toArray zs true (ops.toArray.size - is.length) order (H9 is (Array.replicate ops.toArray.size false))=true:=by kernel_rfl):Cg P R n (.region id ops.toArray true) k s w:=by
  have h1:=h w.drew hF.drew (Same.drew w)
  unfold Cg
  refine wp_region_any hm (Jo (zs:=[]) (Q:=k.post P R .normal) (fun _ _ h=>h) _ (fun _=>True) _ _ _ ?_)
  refine D6 hs is _ _ _ _ _ hP h1 (fun s' ⟨C,hC,hD⟩=>M3 (zs:=zs) _ C _ _ _ ?_)
  unfold Dg at hD
  exact (Bp hs order).1 _ C _ s' w.drew hB hC hD
variable {d i:Nat} {is:List Nat} {op:Op} {ty:TypeId} {pos:String} {aft:Array Edge} {g:Option (Nat × Bool)} {order:Ord} {v:Value}
theorem YY (h:∃ C:World→Prop,C w∧Dg P R n ops k zs order C s w):Pg P R n ops k zs [] order s w:=h
theorem TH (hi:ops[i]? = some ⟨some d,op,ty,pos,aft,g⟩) (hy:Y P (ev n s) op v) (h:Pg P R n ops k zs is order (Xi s d v) w) (hw:Kc ops n s ⟨some d,op,ty,pos,aft,g⟩=true:=by rfl):Pg P R n ops k zs (i::is) order s w:=by
  unfold Pg Pw
  rw [hi]
  exact ⟨v,.inl ⟨hw,fun w=>hy _ _ _ _ _ w⟩,h⟩
end
attribute [irreducible] Pg
end Go.Scarf
namespace Go.Scarf
open Go.RowKit
section
variable {P:Program} {R:Exit→Act→World→Prop} {n:Nat} {k:Kt} {s:Nat→Value} {w w0:World} {ops rest:List Oper} {Ds:List Nat} {bs_:List (Nat × Obj)}
variable {d:Nat} {ty:TypeId} {pos:String} {aft:Array Edge} {g:Option (Nat × Bool)}
theorem o_mv {x:Operand} (h:Og P R n ops k rest (Xi s d (ev n s x)) w) (hw:Kc ops n s ⟨some d,.move x,ty,pos,aft,g⟩=true:=by rfl):Og P R n ops k (⟨some d,.move x,ty,pos,aft,g⟩::rest) s w:=Ja (Is rfl) h hw
theorem o_as {x:Operand} (h:Og P R n ops k rest (Xi s d (ev n s x)) w) (hw:Kc ops n s ⟨some d,.assign x,ty,pos,aft,g⟩=true:=by rfl):Og P R n ops k (⟨some d,.assign x,ty,pos,aft,g⟩::rest) s w:=Ja (Co rfl) h hw
theorem Ia {id:Nat} {l:List Oper} {y:Code} (h:Og P R n l (.seq y k) l s w):Cg P R n (.seq (.region id l.toArray false) y) k s w:=Ha (Fa h)
theorem Ea {y:Code} (h:Cg P R n y k s w):Og P R n ops (.seq y k) [] s w:=Xa (Ga h)
theorem Bc {id:Nat} {l:List Oper} {y:Code} (h:Og P R n l (.seq y k) l s w):Og P R n ops (.seq (.seq (.region id l.toArray false) y) k) [] s w:=Xa (Ga (Ha (Fa h)))
theorem Qj {c:Operand} {x y:Code} (hc:ev n s c=.bool false) (h:Cg P R n y k s w):Cg P R n (.cond c x .skip) (.seq y k) s w:=Ie hc (Qa (Ga h))
theorem Jb {f:FuncId} {args:Array Value} {w':World} {val:Value} {op:Op} (hF:FR w0 Ds bs_ w') (hc:Calls P f args w' (De fun v w''=>v=val∧Same [] w' w'')) (hrun:(execOp (ev n s) ⟨some d,op,ty,pos,aft,g⟩).run P w=.ok (.enter f args) w')
    (h:∀ w'',FR w0 Ds bs_ w''→Og P R n ops k rest (Xi s d val) w'') (hw:Kc ops n s ⟨some d,op,ty,pos,aft,g⟩=true:=by rfl):Og P R n ops k (⟨some d,op,ty,pos,aft,g⟩::rest) s w :=
  Pb hc hrun (fun v w'' hq=>by obtain ⟨rfl,hE⟩:=hq; exact h w'' (hF.ext hE)) hw
end
section
variable {A B C D E F G H I J:Prop}
theorem XT (a:A:=by rfl):A∧True:=⟨a,trivial⟩
theorem Iw (a:A:=by rfl) (b:B:=by rfl):A∧B∧True:=⟨a,b,trivial⟩
theorem Vp (a:A:=by rfl) (b:B:=by rfl) (c:C:=by rfl):A∧B∧C∧True:=⟨a,b,c,trivial⟩
theorem Gm (a:A:=by rfl) (b:B:=by rfl) (c:C:=by rfl) (d:D:=by rfl):A∧B∧C∧D∧True:=⟨a,b,c,d,trivial⟩
theorem Am (a:A:=by rfl) (b:B:=by rfl) (c:C:=by rfl) (d:D:=by rfl) (e:E:=by rfl):A∧B∧C∧D∧E∧True:=⟨a,b,c,d,e,trivial⟩
theorem Iu (a:A:=by rfl) (b:B:=by rfl) (c:C:=by rfl) (d:D:=by rfl) (e:E:=by rfl) (f:F:=by rfl):A∧B∧C∧D∧E∧F∧True:=⟨a,b,c,d,e,f,trivial⟩
theorem BG (a:A:=by rfl) (b:B:=by rfl) (c:C:=by rfl) (d:D:=by rfl) (e:E:=by rfl) (f:F:=by rfl) (g:G:=by rfl):A∧B∧C∧D∧E∧F∧G∧True:=⟨a,b,c,d,e,f,g,trivial⟩
theorem K5 (a:A:=by rfl) (b:B:=by rfl) (c:C:=by rfl) (d:D:=by rfl) (e:E:=by rfl) (f:F:=by rfl) (g:G:=by rfl) (h:H:=by rfl):A∧B∧C∧D∧E∧F∧G∧H∧True:=⟨a,b,c,d,e,f,g,h,trivial⟩
theorem YT (a:A:=by rfl) (b:B:=by rfl) (c:C:=by rfl) (d:D:=by rfl) (e:E:=by rfl) (f:F:=by rfl) (g:G:=by rfl) (h:H:=by rfl) (i:I:=by rfl):A∧B∧C∧D∧E∧F∧G∧H∧I∧True:=⟨a,b,c,d,e,f,g,h,i,trivial⟩
end
section
variable {P:Program} {n:Nat} {k:Kt} {s:Nat→Value} {w:World} {Q:Value→World→Prop} {fn:Func}
theorem Td {t:Nat} {v:Value} (h:fn.results=#[.tmp t]) (hv:ev n s (.tmp t)=v) (hq:Q v w):Cg P (bodyPost P fn (De Q)) n .ret k s w:=Ub (Rb (Sa (An h hv) hq))
end
section
variable {P:Program} {R:Exit→Act→World→Prop} {n:Nat} {kt:Kt} {s:Nat→Value} {w:World} {ops:List Oper} {zs:List Nat} {C:World→Prop} {rest:Ord} {i d:Nat} {ty:TypeId} {pos:String} {aft:Array Edge} {g:Option (Nat × Bool)}
theorem f_mv {x:Operand} (hi:ops[i]? = some ⟨some d,.move x,ty,pos,aft,g⟩) (v:Value) (h:Dg P R n ops kt zs rest C (Xi s d v) w) (hv:ev n s x=v:=by rfl) (hw:Kc ops n s ⟨some d,.move x,ty,pos,aft,g⟩=true:=by rfl):Dg P R n ops kt zs (.free i rest) C s w:=Oa hi (fun _ _=>Is hv) h hw
theorem f_as {x:Operand} (hi:ops[i]? = some ⟨some d,.assign x,ty,pos,aft,g⟩) (v:Value) (h:Dg P R n ops kt zs rest C (Xi s d v) w) (hv:ev n s x=v:=by rfl) (hw:Kc ops n s ⟨some d,.assign x,ty,pos,aft,g⟩=true:=by rfl):Dg P R n ops kt zs (.free i rest) C s w:=Oa hi (fun _ _=>Co hv) h hw
end
section
variable {P:Program} {R:Exit→Act→World→Prop} {n:Nat} {k:Kt} {s:Nat→Value} {w w0:World} {ops rest:List Oper} {Ds:List Nat} {bs_:List (Nat × Obj)}
variable {d:Nat} {ty:TypeId} {pos:String} {aft:Array Edge} {g:Option (Nat × Bool)}
theorem Pe (m:Nat) {o:Obj} {op:Op} (hF:FR w0 Ds bs_ w) (hrun:(execOp (ev n s) ⟨some d,op,ty,pos,aft,g⟩).run P w=.ok (.value (.slice (some ⟨w.heap.size,0,none⟩) m m)) (w.alloc o))
    (h:∀ b w',b=w.heap.size→FR w0 Ds ((b,o)::bs_) w'→Same [] w w'→Og P R n ops k rest (Xi s d (.slice (some ⟨b,0,none⟩) m m)) w')
    (hw:Kc ops n s ⟨some d,op,ty,pos,aft,g⟩=true:=by rfl):Og P R n ops k (⟨some d,op,ty,pos,aft,g⟩::rest) s w:=St (v:=fun b=>.slice (some ⟨b,0,none⟩) m m) hF hrun h hw
theorem Ge (m:Nat) {C:World→Prop} {order:Ord} {zs:List Nat} {i:Nat} {o:Obj} {op:Op} (hi:ops[i]? = some ⟨some d,op,ty,pos,aft,g⟩) (hF:FR w0 Ds bs_ w) (hrun:(execOp (ev n s) ⟨some d,op,ty,pos,aft,g⟩).run P w=.ok (.value (.slice (some ⟨w.heap.size,0,none⟩) m m)) (w.alloc o))
    (h:∀ b w',b=w.heap.size→FR w0 Ds ((b,o)::bs_) w'→Same [] w w'→C w'∧Dg P R n ops k zs order C (Xi s d (.slice (some ⟨b,0,none⟩) m m)) w')
    (hw:Kc ops n s ⟨some d,op,ty,pos,aft,g⟩=true:=by rfl) (hz:zs.contains i=false:=by rfl):Dg P R n ops k zs (.act i order) C s w:=Cm (v:=fun b=>.slice (some ⟨b,0,none⟩) m m) hi hF hrun h hw hz
theorem Um {C:World→Prop} {order:Ord} {zs:List Nat} {i:Nat} {f:FuncId} {args:Array Value} {w':World} {val:Value} {op:Op} (hF:FR w0 Ds bs_ w') (hc:Calls P f args w' (De fun v w''=>v=val∧Same [] w' w'')) (hi:ops[i]? = some ⟨some d,op,ty,pos,aft,g⟩)
    (hrun:(execOp (ev n s) ⟨some d,op,ty,pos,aft,g⟩).run P w=.ok (.enter f args) w') (h:∀ w'',FR w0 Ds bs_ w''→C w''∧Dg P R n ops k zs order C (Xi s d val) w'') (hw:Kc ops n s ⟨some d,op,ty,pos,aft,g⟩=true:=by rfl) (hz:zs.contains i=false:=by rfl):Dg P R n ops k zs (.act i order) C s w :=
  Ye hi hc hrun (fun v w'' hq=>by obtain ⟨rfl,hE⟩:=hq; exact h w'' (hF.ext hE)) hw hz
end
theorem Ed {p:Prop} (h:p:=by simp [one]):p:=h
end Go.Scarf
