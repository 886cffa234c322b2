/- A part of the proof. -/
import Derived.Test.YtehigfneiofjnaaGreatDoorFacts
import Derived.Test.YtehigfneiofjnaaGreatDoorNum
import Derived.Lib.AppendStr
import Derived.Lib.Builder
import Derived.Lib.UnsafeStr
import Derived.LaidEqlPtr
import Derived.Test.YtehigfneiofjnaaGreatDoorShelf
import Derived.Lib.RuneBytes
import Derived.Test.YtehigfneiofjnaaGreatDoorW19
import Derived.Laws.BytesString
import Derived.Test.YtehigfneiofjnaaGreatDoorW2
import Derived.Lib.TrimU
set_option linter.all false
set_option maxHeartbeats 8000000
set_option maxRecDepth 10000
namespace Go.Scarf
open Go.RowKit Go.Proofs Go.Proofs.Tryz
section
variable {P : Program} {w w' w0 : World} {Ds E : List Nat} {bs_ : List (Nat × Obj)}
def Qj : Obj → Bool
  | .cells _ e _ => e == 5
  | _ => false
def Wq (w : World) (b : Nat) : Bool := match w.heap[b]? with | some o => Qj o | none => false
def Wk (w : World) (B pb : Nat) : List Nat := pb :: (List.range w.heap.size).filter fun b => decide (B ≤ b) && Wq w b
theorem Wg {B pb x : Nat} : x ∈ Wk w B pb ↔ x = pb ∨ (x < w.heap.size ∧ B ≤ x ∧ Wq w x = true) := by simp [Wk]
theorem Nr {b : Nat} {o : Obj} (h : w.heap[b]? = some o) : Wq w b = Qj o := by simp [Wq, h]
def Shp (T : Nat) (rest : List Value) : Prop := (T = 111 ∧ rest = []) ∨ (T = 113 ∧ ∃ m i, rest = [.bool m, .int .i64 i])
theorem Shp.ne {T : Nat} {rest : List Value} (h : Shp T rest) : (T == 5) = false := by rcases h with ⟨rfl, -⟩ | ⟨rfl, -⟩ <;> rfl
structure Bd (w : World) (B pb T : Nat) (rest : List Value) (s : Str) : Prop where
  shp : Shp T rest
  le : B ≤ pb
  ex : ∃ ap v, w.heap[pb]? = some (.cells (ap :: v :: rest).toArray T) ∧ w.ownsRow B 5 1 v s.length (Lib.byteCells s) ∧ (ap = .pointer none ∨ ap = .pointer (some ⟨pb, 0, none⟩))
theorem Bd.lt {B pb T : Nat} {rest : List Value} {s : Str} (h : Bd w B pb T rest s) : pb < w.heap.size := by
  obtain ⟨ap, v, hh, -⟩ := h.ex; exact Jb hh
theorem Bd.base {B pb T : Nat} {rest : List Value} {s : Str} (h : Bd w B pb T rest s) : B ≤ w.heap.size := Nat.le_trans h.le (Nat.le_of_lt h.lt)
theorem Jm {B n g : Nat} {v : Value} {xs : List Value} (h : w.ownsRow B 5 1 v n xs) (hg : v.ownBlock = some g) : g < w.heap.size ∧ B ≤ g ∧ Wq w g = true := by
  rcases h.2 with ⟨rfl, -⟩ | ⟨g', cap, cur, rfl, h1, h2, -⟩
  · cases hg
  · cases hg
    exact ⟨Jb h2, h1, by rw [Nr h2]; rfl⟩
theorem Z2 {B n g pb : Nat} {v : Value} {xs : List Value} (h : w.ownsRow B 5 1 v n xs) (hg : v.ownBlock = some g) : g ∈ Wk w B pb := Wg.2 (.inr (Jm h hg))
theorem Qp {B n g pb : Nat} {v : Value} {xs : List Value} {o : Obj} (h : w.ownsRow B 5 1 v n xs) (hg : v.ownBlock = some g) (hh : w.heap[pb]? = some o) (ho : Qj o = false) : g ≠ pb := by
  rintro rfl
  have h1 := (Jm h hg).2.2
  rw [Nr hh, ho] at h1; cases h1
theorem Zi {B n : Nat} {v : Value} {xs : List Value} (h : w.ownsRow B 5 1 v n xs) (hs : Same E w w') (he : ∀ g, v.ownBlock = some g → g ∉ E) : w'.ownsRow B 5 1 v n xs := by
  refine ⟨h.1, ?_⟩
  rcases h.2 with h2 | ⟨g, cap, cur, rfl, h1, h2, h3⟩
  · exact .inl h2
  · exact .inr ⟨g, cap, cur, rfl, h1, (hs.block g (Jb h2) (he g rfl)).trans h2, h3⟩
theorem Kh {B n : Nat} {v : Value} {xs : List Value} (h : w.ownsRow B 5 1 v n xs) : ∃ A c, v = .slice A n c := by
  rcases h.2 with ⟨rfl, rfl⟩ | ⟨g, cap, cur, rfl, -⟩
  · exact ⟨_, _, rfl⟩
  · exact ⟨_, _, rfl⟩
theorem Wk.step {B pb x : Nat} (hs : Same (Wk w B pb) w w') (hx : x ∈ Wk w' B pb) : x ∈ Wk w B pb ∨ w.heap.size ≤ x := by
  by_cases h : x < w.heap.size
  · by_cases hm : x ∈ Wk w B pb
    · exact .inl hm
    · rcases Wg.1 hx with rfl | ⟨h1, h2, h3⟩
      · exact .inl (Wg.2 (.inl rfl))
      · refine absurd (Wg.2 (.inr ⟨h, h2, ?_⟩)) hm
        rw [Wq, ← hs.block x h hm]; exact h3
  · exact .inr by_Om
theorem FR.grown {g : Option Nat} (h : FR w0 Ds bs_ w) (hg : w.grownBy w' g) (hr : ∀ b, g = some b → (b < w0.heap.size → b ∈ Ds) ∧ ∀ p ∈ bs_, p.1 ≠ b) : FR w0 Ds bs_ w' := by
  have hs : Same g.toList w w' := ⟨hg.os, hg.tape, hg.output, hg.size, fun b hb hn => hg.block b hb (fun e => hn (by simp [← e]))⟩
  exact h.touch hs (fun b hb => hr b (by simpa using hb))
theorem Sm (s t : Str) : Lib.byteCells (s ++ t) = Lib.byteCells s ++ Lib.byteCells t := Lib.byteCells_append s t
end
section
variable {P : Program} {w : World} {ρ : Operand → Value} {dst : Option Nat} {ty : TypeId} {pos : String} {aft : Array Edge} {g : Option (Nat × Bool)}
theorem JC {t t' te : Nat} {x y : Operand} (ht : P.underlying t = some (.pointer te)) (hx : ρ x = .pointer none) (hy : ρ y = .pointer none) :
    (execOp ρ ⟨dst, .binOp .eql t x y t', ty, pos, aft, g⟩).run P w = .ok (.value (.bool true)) w := by
  have h : ∀ d : Nat, (Op.equalIn (d + 1) t (.pointer none) (.pointer none)).run P w = .ok true w := fun d => by
    simp [Op.equalIn, run_underlying ht]
  have hg : (eqGuard .eql t x y (.pointer none) (.pointer none)).run P w = .ok () w := by unfold eqGuard; split <;> simp
  simp only [execOp, hx, hy, Sem.run_bind, hg, Result.andThen_ok, binOp]
  simp [Op.equal, Op.maxDepth, h 9999]
theorem BB {t t' te : Nat} {x y : Operand} {a : Addr} (ht : P.underlying t = some (.pointer te)) (hx : ρ x = .pointer (some a)) (hy : ρ y = .pointer none) :
    (execOp ρ ⟨dst, .binOp .eql t x y t', ty, pos, aft, g⟩).run P w = .ok (.value (.bool false)) w := by
  have h : ∀ d : Nat, (Op.equalIn (d + 1) t (.pointer (some a)) (.pointer none)).run P w = .ok false w := fun d => by
    simp [Op.equalIn, run_underlying ht]
  have hg : (eqGuard .eql t x y (.pointer (some a)) (.pointer none)).run P w = .ok () w := by unfold eqGuard; split <;> simp
  simp only [execOp, hx, hy, Sem.run_bind, hg, Result.andThen_ok, binOp]
  simp [Op.equal, Op.maxDepth, h 9999]
theorem RF {t t' te : Nat} {x y : Operand} {a : Addr} {j : TypeInfo} (ht : P.underlying t = some (.pointer te)) (hte : P.info? te = some j) (hx : ρ x = .pointer (some a)) (hy : ρ y = .pointer (some a)) :
    (execOp ρ ⟨dst, .binOp .neq t x y t', ty, pos, aft, g⟩).run P w = .ok (.value (.bool false)) w := by
  have h := Lib.run_neq_ptr_same w a ht hte
  have hg : (eqGuard .neq t x y (.pointer (some a)) (.pointer (some a))).run P w = .ok () w := by unfold eqGuard; split <;> simp
  simp only [execOp, hx, hy, Sem.run_bind, hg, Result.andThen_ok, h, Sem.run_pure]
theorem My {t t' : Nat} {x : Operand} {v : Value} (hx : ρ x = v) (h : (convert t t' v).run P w = .ok v w) : (execOp ρ ⟨dst, .convert t t' x, ty, pos, aft, g⟩).run P w = .ok (.value v) w := by
  simp [execOp, hx, h]
theorem WJ {f : FuncId} {fn : Func} {e : Array Value → Sem Value} {x1 : Operand} {ats : Array TypeId} {v1 v : Value} (hf : P.funcs[f]? = some fn) (hname : (fn.name == "runtime.NumGoroutine") = false)
    (hb : fn.body.isNone = true) (hn : Extern.findNext fn = none) (he : Extern.find fn = some e) (h0 : ρ (.func f) = .func (.func f) #[] #[]) (h1 : ρ x1 = v1) (hr : (e #[v1]).run P w = .ok v w) :
    (execOp ρ ⟨dst, .call ⟨.value (.func f), #[x1], ats⟩, ty, pos, aft, g⟩).run P w = .ok (.value v) w := by
  simp [execOp, resolve, Deferred.ofValue, h0, h1, invoke, run_callFunc_extern hf hname hb hn he, hr]
theorem XM {x : Operand} {ats : Array TypeId} {a : Addr} {n c : Nat} (hx : ρ x = .slice (some a) n c) (hc : c ≠ 0) : (execOp ρ ⟨dst, .call ⟨.builtin .unsafeSliceData, #[x], ats⟩, ty, pos, aft, g⟩).run P w = .ok (.value (.pointer (some a))) w := by
  simp [execOp, resolve, invoke, builtin, hx, Lib.run_unsafeSliceData_row w ats ty a n c hc]
theorem IN {x y : Operand} {t1 t2 : Nat} {u v r : Value} {w' : World} (hx : ρ x = u) (hy : ρ y = v) (h : (Builtin.unsafeString_ #[t1, t2] ty #[u, v]).run P w = .ok r w') : (execOp ρ ⟨dst, .call ⟨.builtin .unsafeString, #[x, y], #[t1, t2]⟩, ty, pos, aft, g⟩).run P w = .ok (.value r) w' := by
  simp [execOp, resolve, invoke, builtin, hx, hy, h]
theorem K2 {x y : Operand} {t1 t2 : TypeId} {u v : Value} {r : Value} {w' : World} (hx : ρ x = u) (hy : ρ y = v) (h : (Builtin.append_ #[t1, t2] ty #[u, v]).run P w = .ok r w') :
    (execOp ρ ⟨dst, .call ⟨.builtin .append, #[x, y], #[t1, t2]⟩, ty, pos, aft, g⟩).run P w = .ok (.value r) w' := by
  simp [execOp, resolve, invoke, builtin, hx, hy, h]
end
section
variable {P : Program} {R : Exit → Act → World → Prop} {n : Nat} {kt : Kt} {s : Nat → Value} {w : World} {ops rest : List Oper}
variable {d : Nat} {ty : TypeId} {pos : String} {aft : Array Edge} {g : Option (Nat × Bool)}
variable {w0 : World} {Ds : List Nat} {bs_ : List (Nat × Obj)}
theorem MI {x y : Operand} {t B len c2 k : Nat} {v : Value} {xs news : List Value} {a : Addr} (hE : Elems P t 5 1 1)
    (hF : FR w0 Ds bs_ w) (hO : w.ownsRow B 5 1 v len xs) (hB : B ≤ w.heap.size) (hx : ev n s x = v) (hy : ev n s y = .slice (some a) k c2)
    (hl : news.length = k * 1) (hnews : ∀ j u, news[j]? = some u → w.cell? (a.add j) = some u) (h1 : ∀ u ∈ news, u.oneCell' = true) (hb : len + k ≤ 140737488355328)
    (hr : ∀ b, v.ownBlock = some b → (b < w0.heap.size → b ∈ Ds) ∧ ∀ p ∈ bs_, p.1 ≠ b)
    (h : ∀ v' w', w'.ownsRow B 5 1 v' (len + k) (xs ++ news) → FR w0 Ds bs_ w' → w.heap.size ≤ w'.heap.size → Og P R n ops kt rest (Oi s d v') w')
    (hw : Mc ops n s ⟨some d, .call ⟨.builtin .append, #[x, y], #[t, t]⟩, ty, pos, aft, g⟩ = true := by rfl) : Og P R n ops kt (⟨some d, .call ⟨.builtin .append, #[x, y], #[t, t]⟩, ty, pos, aft, g⟩ :: rest) s w := by
  obtain ⟨i, z, hi, hz, h2, h3, h4⟩ := hE.info
  obtain ⟨v', w', hr', hO', hg, -⟩ := run_append_own (P := P) w B t ty 5 i z 1 1 hE.ht hi hz h2 h3 h4 Oa v len xs hO a k c2 news hl hnews h1 (by unfold maxLen; omega) by_Om hB
  exact Fa (Zu hx hy hr') (h v' w' hO' (hF.grown hg hr) hg.size) hw
theorem OJ {x y : Operand} {t u B len : Nat} {v : Value} {xs : List Value} {str : Str} (hE : Elems P t 5 1 1) (hz0 : (P.info? 5).map (·.zero) = some (some (.int .u8 0))) (hu : P.underlying u = some .string)
    (hF : FR w0 Ds bs_ w) (hO : w.ownsRow B 5 1 v len xs) (hB : B ≤ w.heap.size) (hx : ev n s x = v) (hy : ev n s y = .string (bs str)) (hb : len + str.length ≤ 140737488355328)
    (hr : ∀ b, v.ownBlock = some b → (b < w0.heap.size → b ∈ Ds) ∧ ∀ p ∈ bs_, p.1 ≠ b)
    (h : ∀ v' w', w'.ownsRow B 5 1 v' (len + str.length) (xs ++ Lib.byteCells str) → FR w0 Ds bs_ w' → w.heap.size ≤ w'.heap.size → Og P R n ops kt rest (Oi s d v') w')
    (hw : Mc ops n s ⟨some d, .call ⟨.builtin .append, #[x, y], #[t, u]⟩, ty, pos, aft, g⟩ = true := by rfl) : Og P R n ops kt (⟨some d, .call ⟨.builtin .append, #[x, y], #[t, u]⟩, ty, pos, aft, g⟩ :: rest) s w := by
  obtain ⟨i, z, hi, hz, h2, h3, h4⟩ := hE.info
  rw [hi] at hz0
  have hz1 : i.zero = some (.int .u8 0) := by simpa using hz0
  have e : (bs str).size = str.length := Pm str
  obtain ⟨v', w', hr', hO', hg, -⟩ := Lib.run_append_own_string (P := P) w B t u ty 5 i hE.ht hu hi hz1 h2 h3 v len xs hO (bs str) (by rw [e]; unfold maxLen; omega) (by rw [e]; omega) hB
  rw [e] at hO'
  exact Fa (K2 hx hy hr') (h v' w' (by simpa [Lib.strCells_eq, Jl, bs] using hO') (hF.grown hg hr) hg.size) hw
end
end Go.Scarf
namespace Go.Scarf
open Go.RowKit Go.Proofs Go.Proofs.Tryz
theorem SG : liesAt prog prog.depth 111 (2 / prog.cellsOf 111) 0 111 1 = true := by kernel_rfl
theorem PJ : liesAt prog prog.depth 113 (4 / prog.cellsOf 113) 0 111 1 = true := by kernel_rfl
theorem Xu : (prog.info? 111).map (·.size) = some 2 := by kernel_rfl
theorem I3 (w0 : World) (pb : Nat) (v : Value) (hh : w0.heap[pb]? = some (.cells #[.pointer none, v] 111)) : Calls prog 135 #[.pointer (some ⟨pb, 0, none⟩)] w0 (Ce fun v_ w' => v_ = .tuple #[] ∧ Same [pb] w0 w' ∧ w'.heap[pb]? = some (.cells #[.pointer (some ⟨pb, 0, none⟩), v] 111)) := by
 obtain ⟨j, hj, hjs⟩ := Option.map_eq_some_iff.1 Xu
 have hne : pb < w0.heap.size := Jb hh
 refine Ma func135 rfl ntmps135 Qb (Rc _) ?_
 have hF : FR w0 [pb] [(pb, .cells #[.pointer none, v] 111)] w0 := FR.open_ (by simpa using hh) Sa
 refine Ha (Ca (Of rfl) (Ca (Vg rfl) (Ca (Fc Zl rfl) (Uc (TK isAgg108 rfl hF.F 0 rfl rfl) (Fa (v := .bool true) (JC underlying108 rfl rfl) (Da (Qd rfl (Ga (Ca (Of rfl) (Ca (Of rfl) ?_))))))))))
 refine Fa (v := .pointer (some ⟨pb, 0, none⟩)) (My rfl (Lib.run_to_unsafe _ ⟨pb, 0, none⟩ underlying108 underlying207 hj (by rw [hjs]; decide) (e := 111) (cells := 2) (by simp [World.shape?, hF.heap (i := 0) rfl]) (Nat.zero_lt_succ _))) ?_
 refine Fa (v := .pointer (some ⟨pb, 0, none⟩)) (WJ func179 Fb Fb Fb (e := Extern.AbiNoEscape.same) Fb rfl rfl (Lib.run_noEscape _ _)) ?_
 refine Fa (v := .pointer (some ⟨pb, 0, none⟩)) (My rfl (Lib.run_from_unsafe _ ⟨pb, 0, none⟩ underlying207 underlying108 hj (e := 111) (cells := 2) (by simp [World.shape?, hF.heap (i := 0) rfl]) SG)) ?_
 refine Ca (Vg rfl) (Ca (Fc Zl rfl) ?_)
 refine Dp (.pointer _) hF sizeOf108 rfl rfl Dl Dl ?_
 clear hF; rintro w hF -
 refine Cb ?_
 refine Ef (Rd (Ah rfl) ?_)
 exact ⟨rfl, hF.same, hF.heap (i := 0) rfl⟩
theorem B5 (w0 : World) (pb : Nat) (v : Value) (m : Bool) (i : Int) (hh : w0.heap[pb]? = some (.cells #[.pointer none, v, .bool (m), .int .i64 i] 113)) : Calls prog 135 #[.pointer (some ⟨pb, 0, none⟩)] w0 (Ce fun v_ w' => v_ = .tuple #[] ∧ Same [pb] w0 w' ∧ w'.heap[pb]? = some (.cells #[.pointer (some ⟨pb, 0, none⟩), v, .bool (m), .int .i64 i] 113)) := by
 obtain ⟨j, hj, hjs⟩ := Option.map_eq_some_iff.1 Xu
 have hne : pb < w0.heap.size := Jb hh
 refine Ma func135 rfl ntmps135 Qb (Rc _) ?_
 have hF : FR w0 [pb] [(pb, .cells #[.pointer none, v, .bool (m), .int .i64 i] 113)] w0 := FR.open_ (by simpa using hh) Sa
 refine Ha (Ca (Of rfl) (Ca (Vg rfl) (Ca (Fc Zl rfl) (Uc (TK isAgg108 rfl hF.F 0 rfl rfl) (Fa (v := .bool true) (JC underlying108 rfl rfl) (Da (Qd rfl (Ga (Ca (Of rfl) (Ca (Of rfl) ?_))))))))))
 refine Fa (v := .pointer (some ⟨pb, 0, none⟩)) (My rfl (Lib.run_to_unsafe _ ⟨pb, 0, none⟩ underlying108 underlying207 hj (by rw [hjs]; decide) (e := 113) (cells := 4) (by simp [World.shape?, hF.heap (i := 0) rfl]) (Nat.zero_lt_succ _))) ?_
 refine Fa (v := .pointer (some ⟨pb, 0, none⟩)) (WJ func179 Fb Fb Fb (e := Extern.AbiNoEscape.same) Fb rfl rfl (Lib.run_noEscape _ _)) ?_
 refine Fa (v := .pointer (some ⟨pb, 0, none⟩)) (My rfl (Lib.run_from_unsafe _ ⟨pb, 0, none⟩ underlying207 underlying108 hj (e := 113) (cells := 4) (by simp [World.shape?, hF.heap (i := 0) rfl]) PJ)) ?_
 refine Ca (Vg rfl) (Ca (Fc Zl rfl) ?_)
 refine Dp (.pointer _) hF sizeOf108 rfl rfl Dl Dl ?_
 clear hF; rintro w hF -
 refine Cb ?_
 refine Ef (Rd (Ah rfl) ?_)
 exact ⟨rfl, hF.same, hF.heap (i := 0) rfl⟩
theorem C4 (w0 : World) (pb : Nat) (v : Value) (hh : w0.heap[pb]? = some (.cells #[.pointer (some ⟨pb, 0, none⟩), v] 111)) : Calls prog 135 #[.pointer (some ⟨pb, 0, none⟩)] w0 (Ce fun v_ w' => v_ = .tuple #[] ∧ Same [pb] w0 w' ∧ w'.heap[pb]? = some (.cells #[.pointer (some ⟨pb, 0, none⟩), v] 111)) := by
 obtain ⟨j, hj, hjs⟩ := Option.map_eq_some_iff.1 Xu
 have hne : pb < w0.heap.size := Jb hh
 refine Ma func135 rfl ntmps135 Qb (Rc _) ?_
 have hF : FR w0 [pb] [(pb, .cells #[.pointer (some ⟨pb, 0, none⟩), v] 111)] w0 := FR.open_ (by simpa using hh) Sa
 refine Ha (Ca (Of rfl) (Ca (Vg rfl) (Ca (Fc Zl rfl) (Uc (TK isAgg108 rfl hF.F 0 rfl rfl) (Fa (v := .bool false) (BB underlying108 rfl rfl) (Da (Xe rfl (Ha (Ca (Of rfl) (Ca (Vg rfl) ?_))))))))))
 refine Ca (Fc Zl rfl) (Uc (TK isAgg108 rfl hF.F 0 rfl rfl) (Ca (Of rfl) (Fa (v := .bool false) (RF underlying108 hj rfl rfl) (Da (Xe rfl (Ra ?_))))))
 refine Ef (Rd (Ah rfl) ?_)
 exact ⟨rfl, hF.same, hF.heap (i := 0) rfl⟩
theorem I4 (w0 : World) (pb : Nat) (v : Value) (m : Bool) (i : Int) (hh : w0.heap[pb]? = some (.cells #[.pointer (some ⟨pb, 0, none⟩), v, .bool (m), .int .i64 i] 113)) : Calls prog 135 #[.pointer (some ⟨pb, 0, none⟩)] w0 (Ce fun v_ w' => v_ = .tuple #[] ∧ Same [pb] w0 w' ∧ w'.heap[pb]? = some (.cells #[.pointer (some ⟨pb, 0, none⟩), v, .bool (m), .int .i64 i] 113)) := by
 obtain ⟨j, hj, hjs⟩ := Option.map_eq_some_iff.1 Xu
 have hne : pb < w0.heap.size := Jb hh
 refine Ma func135 rfl ntmps135 Qb (Rc _) ?_
 have hF : FR w0 [pb] [(pb, .cells #[.pointer (some ⟨pb, 0, none⟩), v, .bool (m), .int .i64 i] 113)] w0 := FR.open_ (by simpa using hh) Sa
 refine Ha (Ca (Of rfl) (Ca (Vg rfl) (Ca (Fc Zl rfl) (Uc (TK isAgg108 rfl hF.F 0 rfl rfl) (Fa (v := .bool false) (BB underlying108 rfl rfl) (Da (Xe rfl (Ha (Ca (Of rfl) (Ca (Vg rfl) ?_))))))))))
 refine Ca (Fc Zl rfl) (Uc (TK isAgg108 rfl hF.F 0 rfl rfl) (Ca (Of rfl) (Fa (v := .bool false) (RF underlying108 hj rfl rfl) (Da (Xe rfl (Ra ?_))))))
 refine Ef (Rd (Ah rfl) ?_)
 exact ⟨rfl, hF.same, hF.heap (i := 0) rfl⟩
theorem Ik {w0 : World} {B pb T : Nat} {rest : List Value} {s : Str} (h : Bd w0 B pb T rest s) :
    ∃ v, w0.ownsRow B 5 1 v s.length (Lib.byteCells s) ∧ (∀ g, v.ownBlock = some g → g ∈ Wk w0 B pb ∧ g ≠ pb) ∧
      Calls prog 135 #[.pointer (some ⟨pb, 0, none⟩)] w0 (Ce fun u w' => u = .tuple #[] ∧ Same [pb] w0 w' ∧ w'.heap[pb]? = some (.cells (.pointer (some ⟨pb, 0, none⟩) :: v :: rest).toArray T) ∧ w'.ownsRow B 5 1 v s.length (Lib.byteCells s)) := by
  obtain ⟨hs, hle, ap, v, hh, hO, ha⟩ := h
  have hne : ∀ g, v.ownBlock = some g → g ≠ pb := fun g hg => Qp hO hg hh (by exact hs.ne)
  refine ⟨v, hO, fun g hg => ⟨Z2 hO hg, hne g hg⟩, ?_⟩
  have fin : ∀ {u : Value} {w' : World}, (u = .tuple #[] ∧ Same [pb] w0 w' ∧ w'.heap[pb]? = some (.cells (.pointer (some ⟨pb, 0, none⟩) :: v :: rest).toArray T)) → (u = .tuple #[] ∧ Same [pb] w0 w' ∧ w'.heap[pb]? = some (.cells (.pointer (some ⟨pb, 0, none⟩) :: v :: rest).toArray T) ∧ w'.ownsRow B 5 1 v s.length (Lib.byteCells s)) :=
    fun ⟨h1, h2, h3⟩ => ⟨h1, h2, h3, Zi hO h2 (fun g hg => by simpa using hne g hg)⟩
  rcases hs with ⟨rfl, rfl⟩ | ⟨rfl, m, i, rfl⟩ <;> rcases ha with rfl | rfl
  · exact To (I3 w0 pb v hh) fun _ _ => fin
  · exact To (C4 w0 pb v hh) fun _ _ => fin
  · exact To (B5 w0 pb v m i hh) fun _ _ => fin
  · exact To (I4 w0 pb v m i hh) fun _ _ => fin
end Go.Scarf
namespace Go.Scarf
open Go.RowKit Go.Proofs Go.Proofs.Tryz
theorem D1 : (prog.info? 5).map (·.zero) = some (some (.int .u8 0)) := by kernel_rfl
theorem FR.addD {w0 w : World} {Ds : List Nat} {bs_ : List (Nat × Obj)} {b : Nat} {o : Obj} (h : FR w0 Ds bs_ w) (hh : w.heap[b]? = some o) (hd : w0.heap.size ≤ b ∨ b ∈ Ds) (hn : ∀ p ∈ bs_, p.1 ≠ b) : FR w0 Ds ((b, o) :: bs_) w :=
  ⟨h.same, fun p hp => by
    rcases List.mem_cons.1 hp with rfl | hp
    · exact ⟨hh, hd⟩
    · exact h.own p hp, List.pairwise_cons.2 ⟨fun q hq => hn q hq, h.desc⟩⟩
def Qi (r : Int) : Str := (Lib.encodeRuneZ r).map fun x => UInt8.ofNat x.toNat
theorem Pp (r : Int) : 1 ≤ (Qi r).length ∧ (Qi r).length ≤ 4 := by rw [Qi, List.length_map]; exact Lib.encodeRuneZ_length r
theorem Pi (r : Int) : Lib.byteCells (Qi r) = Lib.runeCells r := by
  rw [Qi, Lib.byteCells, Lib.runeCells, List.map_map]
  refine List.map_congr_left fun x hx => ?_
  have := Lib.encodeRuneZ_byte r x hx
  simp only [Function.comp_apply, Value.int.injEq, true_and, UInt8.toNat_ofNat']
  omega
theorem Ku {w : World} {B n : Nat} {v : Value} {xs : List Value} {r : Int} (hO : w.ownsRow B 5 1 v n xs) (h0 : -2147483648 ≤ r) (h1 : r ≤ 2147483647) (hn : n + 4 ≤ 140737488355328) (hB : B ≤ w.heap.size) :
    Calls prog 210 #[v, .int .i32 r] w (Ce fun v' w' => w'.ownsRow B 5 1 v' (n + (Qi r).length) (xs ++ Lib.byteCells (Qi r)) ∧ ∃ o, (w.alloc o).grownBy w' v.ownBlock) := by
  refine (utf8_AppendRune_plain B v n xs r h0 h1 w hO hn hB).mono fun e w' ⟨v', he, h2, h3⟩ => ⟨v', he, ?_, h3⟩
  have e1 : (Qi r).length = (Lib.runeCells r).length := by rw [← Pi, Lib.byteCells_length]
  rw [e1, Pi]; exact h2
def Yt (f : Nat) (args : Array Value) (u : Value) (w0 : World) (B pb T : Nat) (rest : List Value) (s : Str) : Prop :=
  Calls prog f args w0 (Ce fun v w' => v = u ∧ Bd w' B pb T rest s ∧ Same (Wk w0 B pb) w0 w')
theorem Z6 (w0 : World) (B pb : Nat) (s : Str) (hB : Bd w0 B pb 111 [] s) (c : UInt8) (hl : s.length + 1 ≤ 140737488355328) : Yt 137 #[.pointer (some ⟨pb, 0, none⟩), .int .u8 ((c.toNat : Nat) : Int)] .nilIface w0 B pb 111 [] (s ++ [c]) := by
 unfold Yt
 refine Ma func137 rfl ntmps137 Qb (Wd _ _) ?_
 obtain ⟨v, hO0, hv, hC⟩ := Ik hB
 have hle := hB.le
 have hBw := hB.base
 have hlt := hB.lt
 have hws := Nat.le_refl w0.heap.size
 have hvl : ∀ g, v.ownBlock = some g → g < w0.heap.size := fun g hg => (Jm hO0 hg).1
 obtain ⟨A1, c1, rfl⟩ := Kh hO0
 have hF := FR.start w0 (Wk w0 B pb)
 refine Ha (Ca (V2) (Yb (Ca (Of rfl) ?_)))
 refine Zb hC (Ua Sv rfl rfl) ?_
 rintro _ w ⟨rfl, hE, hh, hO⟩
 replace hws := Nat.le_trans hws hE.size
 replace hBw := Nat.le_trans hBw hE.size
 replace hF : FR w0 (Wk w0 B pb) [(pb, .cells #[.pointer (some ⟨pb, 0, none⟩), .slice A1 s.length c1] 111)] w := (hF.touch hE (fun b hb => by obtain rfl := List.mem_singleton.1 hb; exact ⟨fun _ => Wg.2 (.inl rfl), by simp⟩)).addD hh (.inr (Wg.2 (.inl rfl))) Sa
 clear hE hh
 refine Yb (Ca (Of rfl) (Ca (Of rfl) (Ca (Vg rfl) (Ca (Fc Kf rfl) (Uc (Mf isAgg109 rfl hF.F 0 rfl rfl) (Ca (Za rfl) ?_))))))
 refine Yh 1 hF (Ka (cs := #[.int .u8 ((c.toNat : Nat))]) underlying109 sizeOf5 zeroValue5 Oa Oa Fb) ?_
 clear hF; intro b1 w hb1 hF hE
 have nb1 : w0.heap.size ≤ b1 := by rw [hb1]; exact hws
 replace hws := Nat.le_trans hws hE.size
 replace hBw := Nat.le_trans hBw hE.size
 replace hO := Zi hO hE Sa
 clear hE
 refine MI (news := [.int .u8 ((c.toNat : Nat) : Int)]) Mk hF hO hBw rfl rfl rfl (Qc (hF.cellsAll 0 rfl)) (by simp [Value.oneCell']) by_Om (fun b hb => ⟨fun _ => (hv b hb).1, by have h1 := (hv b hb).2; have h2 := hvl b hb; intro p hp; simp only [List.mem_cons, List.not_mem_nil, or_false] at hp; rcases hp with rfl | rfl <;> grind⟩) ?_
 clear hF hO; intro v2 w hO hF hsz
 replace hws := Nat.le_trans hws hsz
 replace hBw := Nat.le_trans hBw hsz
 have hne2 : ∀ g, v2.ownBlock = some g → g ≠ pb := fun g hg => Qp hO hg (hF.heap (i := 1) rfl) rfl
 obtain ⟨A2, c2, rfl⟩ := Kh hO
 clear hsz
 refine Ca (Vg rfl) (Ca (Fc Kf rfl) ?_)
 refine Dp (.slice _ _ _) hF sizeOf109 rfl rfl Y1 Y1 ?_
 clear hF; intro w hF hE
 replace hws := Nat.le_trans hws hE.size
 replace hBw := Nat.le_trans hBw hE.size
 replace hO := Zi hO hE (fun g hg => by simpa using hne2 g hg)
 clear hE
 refine Yb (Ca (V2) (Da ?_))
 refine Ud (v := .nilIface) rfl rfl ?_
 exact ⟨rfl, ⟨.inl ⟨rfl, rfl⟩, hle, _, _, hF.heap (i := 1) rfl, by simpa [Sm, Lib.byteCells, Pi] using hO, .inr rfl⟩, hF.same⟩
theorem R0 (w0 : World) (B pb : Nat) (s : Str) (hB : Bd w0 B pb 111 [] s) (t : Str) (hl : s.length + t.length ≤ 140737488355328) : Yt 103 #[.pointer (some ⟨pb, 0, none⟩), .string (bs t)] (.tuple #[.int .i64 ((t.length : Nat) : Int), .nilIface]) w0 B pb 111 [] (s ++ t) := by
 unfold Yt
 refine Ma func103 rfl ntmps103 Qb (Wd _ _) ?_
 obtain ⟨v, hO0, hv, hC⟩ := Ik hB
 have hle := hB.le
 have hBw := hB.base
 have hlt := hB.lt
 have hws := Nat.le_refl w0.heap.size
 have hvl : ∀ g, v.ownBlock = some g → g < w0.heap.size := fun g hg => (Jm hO0 hg).1
 obtain ⟨A1, c1, rfl⟩ := Kh hO0
 have hF := FR.start w0 (Wk w0 B pb)
 refine Ha (Ca (Kb rfl) (Ca (V2) (Yb (Ca (Of rfl) ?_))))
 refine Zb hC (Ua Sv rfl rfl) ?_
 rintro _ w ⟨rfl, hE, hh, hO⟩
 replace hws := Nat.le_trans hws hE.size
 replace hBw := Nat.le_trans hBw hE.size
 replace hF : FR w0 (Wk w0 B pb) [(pb, .cells #[.pointer (some ⟨pb, 0, none⟩), .slice A1 s.length c1] 111)] w := (hF.touch hE (fun b hb => by obtain rfl := List.mem_singleton.1 hb; exact ⟨fun _ => Wg.2 (.inl rfl), by simp⟩)).addD hh (.inr (Wg.2 (.inl rfl))) Sa
 clear hE hh
 refine Yb (Ca (Of rfl) (Ca (Of rfl) (Ca (Vg rfl) (Ca (Fc Kf rfl) (Uc (Mf isAgg109 rfl hF.F 0 rfl rfl) (Ca (Pc rfl) ?_))))))
 refine OJ (str := t) Mk D1 underlying9 hF hO hBw rfl rfl by_Om (fun b hb => ⟨fun _ => (hv b hb).1, by have h1 := (hv b hb).2; have h2 := hvl b hb; intro p hp; simp only [List.mem_cons, List.not_mem_nil, or_false] at hp; rcases hp with rfl <;> grind⟩) ?_
 clear hF hO; intro v2 w hO hF hsz
 replace hws := Nat.le_trans hws hsz
 replace hBw := Nat.le_trans hBw hsz
 have hne2 : ∀ g, v2.ownBlock = some g → g ≠ pb := fun g hg => Qp hO hg (hF.heap (i := 0) rfl) rfl
 obtain ⟨A2, c2, rfl⟩ := Kh hO
 clear hsz
 refine Ca (Vg rfl) (Ca (Fc Kf rfl) ?_)
 refine Dp (.slice _ _ _) hF sizeOf109 rfl rfl Dl Y1 ?_
 clear hF; intro w hF hE
 replace hws := Nat.le_trans hws hE.size
 replace hBw := Nat.le_trans hBw hE.size
 replace hO := Zi hO hE (fun g hg => by simpa using hne2 g hg)
 clear hE
 refine Yb (Ca (Pc rfl) (Ca (Hk underlying9 rfl) (Ca (Kb rfl) (Ca (V2) (Da ?_)))))
 refine Pb (Ob (Qa (Nd (v := .int .i64 ((((t) : Str).length : Int))) (x := .nilIface) rfl rfl rfl) ?_))
 exact ⟨rfl, ⟨.inl ⟨rfl, rfl⟩, hle, _, _, hF.heap (i := 0) rfl, by simpa [Sm, Lib.byteCells, Pi] using hO, .inr rfl⟩, hF.same⟩
theorem Y6 (w0 : World) (B pb : Nat) (s : Str) (hB : Bd w0 B pb 111 [] s) (r : Int) (hr0 : -2147483648 ≤ r) (hr1 : r ≤ 2147483647) (hl : s.length + 4 ≤ 140737488355328) : Yt 181 #[.pointer (some ⟨pb, 0, none⟩), .int .i32 r] (.tuple #[.int .i64 (((Qi r).length : Nat) : Int), .nilIface]) w0 B pb 111 [] (s ++ Qi r) := by
 unfold Yt
 have hrl := Pp r
 refine Ma func181 rfl ntmps181 Qb (Wd _ _) ?_
 obtain ⟨v, hO0, hv, hC⟩ := Ik hB
 have hle := hB.le
 have hBw := hB.base
 have hlt := hB.lt
 have hws := Nat.le_refl w0.heap.size
 have hvl : ∀ g, v.ownBlock = some g → g < w0.heap.size := fun g hg => (Jm hO0 hg).1
 obtain ⟨A1, c1, rfl⟩ := Kh hO0
 have hF := FR.start w0 (Wk w0 B pb)
 refine Ha (Ca (Kb rfl) (Ca (V2) (Yb (Ca (Of rfl) ?_))))
 refine Zb hC (Ua Sv rfl rfl) ?_
 rintro _ w ⟨rfl, hE, hh, hO⟩
 replace hws := Nat.le_trans hws hE.size
 replace hBw := Nat.le_trans hBw hE.size
 replace hF : FR w0 (Wk w0 B pb) [(pb, .cells #[.pointer (some ⟨pb, 0, none⟩), .slice A1 s.length c1] 111)] w := (hF.touch hE (fun b hb => by obtain rfl := List.mem_singleton.1 hb; exact ⟨fun _ => Wg.2 (.inl rfl), by simp⟩)).addD hh (.inr (Wg.2 (.inl rfl))) Sa
 clear hE hh
 refine Yb (Ca (Of rfl) (Ca (Vg rfl) (Ca (Fc Kf rfl) (Uc (Mf isAgg109 rfl hF.F 0 rfl rfl) (Ca (Ji underlying109 rfl) (Ca (Kb rfl) (Yb ?_)))))))
 refine Ca (Of rfl) (Ca (Of rfl) (Ca (Vg rfl) (Ca (Fc Kf rfl) (Uc (Mf isAgg109 rfl hF.F 0 rfl rfl) (Ca (Za rfl) ?_)))))
 refine Zb (Ku hO hr0 hr1 by_Om hBw) (Pa TJ rfl rfl rfl) ?_
 rintro v2 w2 ⟨hO2, o, hg⟩
 replace hF := (hF.ext (Same.alloc _ o)).grown hg (fun b hb => ⟨fun _ => (hv b hb).1, by have h1 := (hv b hb).2; have h2 := hvl b hb; intro p hp; simp only [List.mem_cons, List.not_mem_nil, or_false] at hp; rcases hp with rfl <;> grind⟩)
 have hsz := Nat.le_trans (Same.alloc _ o).size hg.size
 clear hO hg; revert hsz hF hO2; generalize w2 = w; intro hO hF hsz
 replace hws := Nat.le_trans hws hsz
 replace hBw := Nat.le_trans hBw hsz
 have hne2 : ∀ g, v2.ownBlock = some g → g ≠ pb := fun g hg => Qp hO hg (hF.heap (i := 0) rfl) rfl
 obtain ⟨A2, c2, rfl⟩ := Kh hO
 clear hsz
 refine Ca (Vg rfl) (Ca (Fc Kf rfl) ?_)
 refine Dp (.slice _ _ _) hF sizeOf109 rfl rfl Dl Y1 ?_
 clear hF; intro w hF hE
 replace hws := Nat.le_trans hws hE.size
 replace hBw := Nat.le_trans hBw hE.size
 replace hO := Zi hO hE (fun g hg => by simpa using hne2 g hg)
 clear hE
 refine Yb (Ca (Of rfl) (Ca (Vg rfl) (Ca (Fc Kf rfl) (Uc (Mf isAgg109 rfl hF.F 0 rfl rfl) (Ca (Ji underlying109 rfl) (Ca (Za rfl) (Ca (Jy (((Qi r).length : Nat)) rfl rfl) (Ca (Kb rfl) (Ca (V2) (Cb ?_))))))))))
 refine Ja ?_
 refine Pb (Ob (Qa (Nd (v := .int .i64 (((Qi r).length : Nat))) (x := .nilIface) rfl rfl rfl) ?_))
 exact ⟨rfl, ⟨.inl ⟨rfl, rfl⟩, hle, _, _, hF.heap (i := 0) rfl, by simpa [Sm, Lib.byteCells, Pi] using hO, .inr rfl⟩, hF.same⟩
theorem Q8 (w0 : World) (B pb : Nat) (m : Bool) (i : Int) (s : Str) (hB : Bd w0 B pb 113 [.bool (m), .int .i64 i] s) (c : UInt8) (hl : s.length + 1 ≤ 140737488355328) : Yt 137 #[.pointer (some ⟨pb, 0, none⟩), .int .u8 ((c.toNat : Nat) : Int)] .nilIface w0 B pb 113 [.bool (m), .int .i64 i] (s ++ [c]) := by
 unfold Yt
 refine Ma func137 rfl ntmps137 Qb (Wd _ _) ?_
 obtain ⟨v, hO0, hv, hC⟩ := Ik hB
 have hle := hB.le
 have hBw := hB.base
 have hlt := hB.lt
 have hws := Nat.le_refl w0.heap.size
 have hvl : ∀ g, v.ownBlock = some g → g < w0.heap.size := fun g hg => (Jm hO0 hg).1
 obtain ⟨A1, c1, rfl⟩ := Kh hO0
 have hF := FR.start w0 (Wk w0 B pb)
 refine Ha (Ca (V2) (Yb (Ca (Of rfl) ?_)))
 refine Zb hC (Ua Sv rfl rfl) ?_
 rintro _ w ⟨rfl, hE, hh, hO⟩
 replace hws := Nat.le_trans hws hE.size
 replace hBw := Nat.le_trans hBw hE.size
 replace hF : FR w0 (Wk w0 B pb) [(pb, .cells #[.pointer (some ⟨pb, 0, none⟩), .slice A1 s.length c1, .bool (m), .int .i64 i] 113)] w := (hF.touch hE (fun b hb => by obtain rfl := List.mem_singleton.1 hb; exact ⟨fun _ => Wg.2 (.inl rfl), by simp⟩)).addD hh (.inr (Wg.2 (.inl rfl))) Sa
 clear hE hh
 refine Yb (Ca (Of rfl) (Ca (Of rfl) (Ca (Vg rfl) (Ca (Fc Kf rfl) (Uc (Mf isAgg109 rfl hF.F 0 rfl rfl) (Ca (Za rfl) ?_))))))
 refine Yh 1 hF (Ka (cs := #[.int .u8 ((c.toNat : Nat))]) underlying109 sizeOf5 zeroValue5 Oa Oa Fb) ?_
 clear hF; intro b1 w hb1 hF hE
 have nb1 : w0.heap.size ≤ b1 := by rw [hb1]; exact hws
 replace hws := Nat.le_trans hws hE.size
 replace hBw := Nat.le_trans hBw hE.size
 replace hO := Zi hO hE Sa
 clear hE
 refine MI (news := [.int .u8 ((c.toNat : Nat) : Int)]) Mk hF hO hBw rfl rfl rfl (Qc (hF.cellsAll 0 rfl)) (by simp [Value.oneCell']) by_Om (fun b hb => ⟨fun _ => (hv b hb).1, by have h1 := (hv b hb).2; have h2 := hvl b hb; intro p hp; simp only [List.mem_cons, List.not_mem_nil, or_false] at hp; rcases hp with rfl | rfl <;> grind⟩) ?_
 clear hF hO; intro v2 w hO hF hsz
 replace hws := Nat.le_trans hws hsz
 replace hBw := Nat.le_trans hBw hsz
 have hne2 : ∀ g, v2.ownBlock = some g → g ≠ pb := fun g hg => Qp hO hg (hF.heap (i := 1) rfl) rfl
 obtain ⟨A2, c2, rfl⟩ := Kh hO
 clear hsz
 refine Ca (Vg rfl) (Ca (Fc Kf rfl) ?_)
 refine Dp (.slice _ _ _) hF sizeOf109 rfl rfl Y1 Y1 ?_
 clear hF; intro w hF hE
 replace hws := Nat.le_trans hws hE.size
 replace hBw := Nat.le_trans hBw hE.size
 replace hO := Zi hO hE (fun g hg => by simpa using hne2 g hg)
 clear hE
 refine Yb (Ca (V2) (Da ?_))
 refine Ud (v := .nilIface) rfl rfl ?_
 exact ⟨rfl, ⟨.inr ⟨rfl, m, i, rfl⟩, hle, _, _, hF.heap (i := 1) rfl, by simpa [Sm, Lib.byteCells, Pi] using hO, .inr rfl⟩, hF.same⟩
theorem X0 (w0 : World) (B pb : Nat) (m : Bool) (i : Int) (s : Str) (hB : Bd w0 B pb 113 [.bool (m), .int .i64 i] s) (t : Str) (hl : s.length + t.length ≤ 140737488355328) : Yt 103 #[.pointer (some ⟨pb, 0, none⟩), .string (bs t)] (.tuple #[.int .i64 ((t.length : Nat) : Int), .nilIface]) w0 B pb 113 [.bool (m), .int .i64 i] (s ++ t) := by
 unfold Yt
 refine Ma func103 rfl ntmps103 Qb (Wd _ _) ?_
 obtain ⟨v, hO0, hv, hC⟩ := Ik hB
 have hle := hB.le
 have hBw := hB.base
 have hlt := hB.lt
 have hws := Nat.le_refl w0.heap.size
 have hvl : ∀ g, v.ownBlock = some g → g < w0.heap.size := fun g hg => (Jm hO0 hg).1
 obtain ⟨A1, c1, rfl⟩ := Kh hO0
 have hF := FR.start w0 (Wk w0 B pb)
 refine Ha (Ca (Kb rfl) (Ca (V2) (Yb (Ca (Of rfl) ?_))))
 refine Zb hC (Ua Sv rfl rfl) ?_
 rintro _ w ⟨rfl, hE, hh, hO⟩
 replace hws := Nat.le_trans hws hE.size
 replace hBw := Nat.le_trans hBw hE.size
 replace hF : FR w0 (Wk w0 B pb) [(pb, .cells #[.pointer (some ⟨pb, 0, none⟩), .slice A1 s.length c1, .bool (m), .int .i64 i] 113)] w := (hF.touch hE (fun b hb => by obtain rfl := List.mem_singleton.1 hb; exact ⟨fun _ => Wg.2 (.inl rfl), by simp⟩)).addD hh (.inr (Wg.2 (.inl rfl))) Sa
 clear hE hh
 refine Yb (Ca (Of rfl) (Ca (Of rfl) (Ca (Vg rfl) (Ca (Fc Kf rfl) (Uc (Mf isAgg109 rfl hF.F 0 rfl rfl) (Ca (Pc rfl) ?_))))))
 refine OJ (str := t) Mk D1 underlying9 hF hO hBw rfl rfl by_Om (fun b hb => ⟨fun _ => (hv b hb).1, by have h1 := (hv b hb).2; have h2 := hvl b hb; intro p hp; simp only [List.mem_cons, List.not_mem_nil, or_false] at hp; rcases hp with rfl <;> grind⟩) ?_
 clear hF hO; intro v2 w hO hF hsz
 replace hws := Nat.le_trans hws hsz
 replace hBw := Nat.le_trans hBw hsz
 have hne2 : ∀ g, v2.ownBlock = some g → g ≠ pb := fun g hg => Qp hO hg (hF.heap (i := 0) rfl) rfl
 obtain ⟨A2, c2, rfl⟩ := Kh hO
 clear hsz
 refine Ca (Vg rfl) (Ca (Fc Kf rfl) ?_)
 refine Dp (.slice _ _ _) hF sizeOf109 rfl rfl Dl Y1 ?_
 clear hF; intro w hF hE
 replace hws := Nat.le_trans hws hE.size
 replace hBw := Nat.le_trans hBw hE.size
 replace hO := Zi hO hE (fun g hg => by simpa using hne2 g hg)
 clear hE
 refine Yb (Ca (Pc rfl) (Ca (Hk underlying9 rfl) (Ca (Kb rfl) (Ca (V2) (Da ?_)))))
 refine Pb (Ob (Qa (Nd (v := .int .i64 ((((t) : Str).length : Int))) (x := .nilIface) rfl rfl rfl) ?_))
 exact ⟨rfl, ⟨.inr ⟨rfl, m, i, rfl⟩, hle, _, _, hF.heap (i := 0) rfl, by simpa [Sm, Lib.byteCells, Pi] using hO, .inr rfl⟩, hF.same⟩
theorem O5 (w0 : World) (B pb : Nat) (m : Bool) (i : Int) (s : Str) (hB : Bd w0 B pb 113 [.bool (m), .int .i64 i] s) (r : Int) (hr0 : -2147483648 ≤ r) (hr1 : r ≤ 2147483647) (hl : s.length + 4 ≤ 140737488355328) : Yt 181 #[.pointer (some ⟨pb, 0, none⟩), .int .i32 r] (.tuple #[.int .i64 (((Qi r).length : Nat) : Int), .nilIface]) w0 B pb 113 [.bool (m), .int .i64 i] (s ++ Qi r) := by
 unfold Yt
 have hrl := Pp r
 refine Ma func181 rfl ntmps181 Qb (Wd _ _) ?_
 obtain ⟨v, hO0, hv, hC⟩ := Ik hB
 have hle := hB.le
 have hBw := hB.base
 have hlt := hB.lt
 have hws := Nat.le_refl w0.heap.size
 have hvl : ∀ g, v.ownBlock = some g → g < w0.heap.size := fun g hg => (Jm hO0 hg).1
 obtain ⟨A1, c1, rfl⟩ := Kh hO0
 have hF := FR.start w0 (Wk w0 B pb)
 refine Ha (Ca (Kb rfl) (Ca (V2) (Yb (Ca (Of rfl) ?_))))
 refine Zb hC (Ua Sv rfl rfl) ?_
 rintro _ w ⟨rfl, hE, hh, hO⟩
 replace hws := Nat.le_trans hws hE.size
 replace hBw := Nat.le_trans hBw hE.size
 replace hF : FR w0 (Wk w0 B pb) [(pb, .cells #[.pointer (some ⟨pb, 0, none⟩), .slice A1 s.length c1, .bool (m), .int .i64 i] 113)] w := (hF.touch hE (fun b hb => by obtain rfl := List.mem_singleton.1 hb; exact ⟨fun _ => Wg.2 (.inl rfl), by simp⟩)).addD hh (.inr (Wg.2 (.inl rfl))) Sa
 clear hE hh
 refine Yb (Ca (Of rfl) (Ca (Vg rfl) (Ca (Fc Kf rfl) (Uc (Mf isAgg109 rfl hF.F 0 rfl rfl) (Ca (Ji underlying109 rfl) (Ca (Kb rfl) (Yb ?_)))))))
 refine Ca (Of rfl) (Ca (Of rfl) (Ca (Vg rfl) (Ca (Fc Kf rfl) (Uc (Mf isAgg109 rfl hF.F 0 rfl rfl) (Ca (Za rfl) ?_)))))
 refine Zb (Ku hO hr0 hr1 by_Om hBw) (Pa TJ rfl rfl rfl) ?_
 rintro v2 w2 ⟨hO2, o, hg⟩
 replace hF := (hF.ext (Same.alloc _ o)).grown hg (fun b hb => ⟨fun _ => (hv b hb).1, by have h1 := (hv b hb).2; have h2 := hvl b hb; intro p hp; simp only [List.mem_cons, List.not_mem_nil, or_false] at hp; rcases hp with rfl <;> grind⟩)
 have hsz := Nat.le_trans (Same.alloc _ o).size hg.size
 clear hO hg; revert hsz hF hO2; generalize w2 = w; intro hO hF hsz
 replace hws := Nat.le_trans hws hsz
 replace hBw := Nat.le_trans hBw hsz
 have hne2 : ∀ g, v2.ownBlock = some g → g ≠ pb := fun g hg => Qp hO hg (hF.heap (i := 0) rfl) rfl
 obtain ⟨A2, c2, rfl⟩ := Kh hO
 clear hsz
 refine Ca (Vg rfl) (Ca (Fc Kf rfl) ?_)
 refine Dp (.slice _ _ _) hF sizeOf109 rfl rfl Dl Y1 ?_
 clear hF; intro w hF hE
 replace hws := Nat.le_trans hws hE.size
 replace hBw := Nat.le_trans hBw hE.size
 replace hO := Zi hO hE (fun g hg => by simpa using hne2 g hg)
 clear hE
 refine Yb (Ca (Of rfl) (Ca (Vg rfl) (Ca (Fc Kf rfl) (Uc (Mf isAgg109 rfl hF.F 0 rfl rfl) (Ca (Ji underlying109 rfl) (Ca (Za rfl) (Ca (Jy (((Qi r).length : Nat)) rfl rfl) (Ca (Kb rfl) (Ca (V2) (Cb ?_))))))))))
 refine Ja ?_
 refine Pb (Ob (Qa (Nd (v := .int .i64 (((Qi r).length : Nat))) (x := .nilIface) rfl rfl rfl) ?_))
 exact ⟨rfl, ⟨.inr ⟨rfl, m, i, rfl⟩, hle, _, _, hF.heap (i := 0) rfl, by simpa [Sm, Lib.byteCells, Pi] using hO, .inr rfl⟩, hF.same⟩
end Go.Scarf
namespace Go.Scarf
open Go.RowKit Go.Proofs Go.Proofs.Tryz
theorem I0 : prog.cellsOf 5 = 1 := by kernel_rfl
theorem Same.freeze (w : World) (a : Addr) (n : Nat) : Same [a.block] w (w.freeze a n) := by
  have h := Lib.below_freeze (B := a.block) (Below.refl a.block w) (p := a) (Nat.le_refl _) n
  refine ⟨h.os, h.tape, h.output, h.size, fun b hb hn => ?_⟩
  have hn' : b ≠ a.block := by simpa using hn
  unfold World.freeze
  split
  · rfl
  · simp [Array.getElem?_modify, hn'.symm]
theorem HJ (w0 : World) (B pb : Nat) (s : Str) (hB : Bd w0 B pb 111 [] s) (h0 : s ≠ []) : Calls prog 79 #[.pointer (some ⟨pb, 0, none⟩)] w0 (Ce fun v w' => v = .string (bs s) ∧ Same (Wk w0 B pb) w0 w') := by
  refine Ma func79 rfl ntmps79 Qb (Rc _) ?_
  obtain ⟨-, hle, ap, v, hh, hO, -⟩ := hB
  have hsl : s.length ≠ 0 := by simpa using h0
  obtain ⟨g, c1, cur, rfl, hbg, hg, hnc, hcm, hcs, htake⟩ : ∃ g cap cur, v = .slice (some ⟨g, 0, none⟩) s.length cap ∧ B ≤ g ∧ w0.heap[g]? = some (.cells cur 5 (0, 0)) ∧ s.length ≤ cap ∧ cap ≤ maxLen ∧ cur.size = cap * 1 ∧ cur.toList.take (s.length * 1) = Lib.byteCells s := by
    rcases hO.2 with ⟨_, hz⟩ | ⟨g, cap, cur, hv, r⟩
    · exact absurd hz hsl
    · exact ⟨g, cap, cur, hv, r⟩
  have hgm : g ∈ Wk w0 B pb := Z2 hO rfl
  have hgn : g ≠ pb := Qp hO rfl hh (by rfl)
  have hF : FR w0 (Wk w0 B pb) [(pb, .cells #[ap, .slice (some ⟨g, 0, none⟩) s.length c1] 111)] w0 := (FR.start w0 (Wk w0 B pb)).addD hh (.inr (Wg.2 (.inl rfl))) Sa
  refine Ia ?_
  refine Ga ?_
  refine Ca (Ld rfl) ?_
  refine Cb ?_
  refine Ja ?_
  refine Ia ?_
  refine De [] (.free 0 (.free 1 (.free 2 (.free 3 (.free 5 (.free 6 (.free 7 (.free 8 (.free 9 (.act 4 (.act 10 (.free 11 .nil)))))))))))) hF ?_
  clear hF; intro w hF hE
  replace hg := (hE.block g (Jb hg) Sa).trans hg
  replace hO := Zi hO hE Sa
  clear hE
  refine ⟨fun wq => FR w0 (Wk w0 B pb) _ wq, hF, ?_⟩
  refine Eb rfl (Of rfl) ?_
  refine Eb rfl (Vg rfl) ?_
  refine Eb rfl (Fc Kf rfl) ?_
  refine Bk rfl (Mf isAgg109 rfl C0 0 rfl rfl) ?_
  refine Eb rfl (Of rfl) ?_
  refine Eb rfl (Vg rfl) ?_
  refine Eb rfl (Fc Kf rfl) ?_
  refine Bk rfl (Mf isAgg109 rfl C0 0 rfl rfl) ?_
  refine Eb rfl (Ji underlying109 rfl) ?_
  refine Zh rfl (XM rfl by_Om) hF ?_
  have hu : (Builtin.unsafeString_ #[148, 3] 9 #[.pointer (some ⟨g, 0, none⟩), .int .i64 s.length]).run prog w = .ok (.string (bs s)) (w.freeze ⟨g, 0, none⟩ s.length) := Lib.run_unsafeString_row w 148 3 9 5 underlying148 I0 g cur.size (by simp [World.shape?, hg]) s h0 by_Om (by simp only [maxLen] at hcm; omega) (fun j x hx => hO.cells (g := g) rfl j (.int .u8 x.toNat) (by simp [Lib.byteCells, hx]))
  have hEf : FR w0 (Wk w0 B pb) _ (w.freeze ⟨g, 0, none⟩ s.length) := hF.touch (Same.freeze w ⟨g, 0, none⟩ s.length) (fun b hb => by obtain rfl := List.mem_singleton.1 hb; exact ⟨fun _ => hgm, by simpa using hgn.symm⟩)
  refine Zh rfl (IN rfl rfl hu) hEf ?_
  replace hF := hEf
  refine Eb rfl (Ld rfl) ?_
  refine Ic ?_
  refine Ja ?_
  refine Ud (v := .string (bs s)) rfl rfl ?_
  exact ⟨rfl, hF.same⟩
theorem PH (w0 : World) (B pb : Nat) (m : Bool) (i : Int) (s : Str) (hB : Bd w0 B pb 113 [.bool (m), .int .i64 i] s) (h0 : s ≠ []) : Calls prog 79 #[.pointer (some ⟨pb, 0, none⟩)] w0 (Ce fun v w' => v = .string (bs s) ∧ Same (Wk w0 B pb) w0 w') := by
  refine Ma func79 rfl ntmps79 Qb (Rc _) ?_
  obtain ⟨-, hle, ap, v, hh, hO, -⟩ := hB
  have hsl : s.length ≠ 0 := by simpa using h0
  obtain ⟨g, c1, cur, rfl, hbg, hg, hnc, hcm, hcs, htake⟩ : ∃ g cap cur, v = .slice (some ⟨g, 0, none⟩) s.length cap ∧ B ≤ g ∧ w0.heap[g]? = some (.cells cur 5 (0, 0)) ∧ s.length ≤ cap ∧ cap ≤ maxLen ∧ cur.size = cap * 1 ∧ cur.toList.take (s.length * 1) = Lib.byteCells s := by
    rcases hO.2 with ⟨_, hz⟩ | ⟨g, cap, cur, hv, r⟩
    · exact absurd hz hsl
    · exact ⟨g, cap, cur, hv, r⟩
  have hgm : g ∈ Wk w0 B pb := Z2 hO rfl
  have hgn : g ≠ pb := Qp hO rfl hh (by rfl)
  have hF : FR w0 (Wk w0 B pb) [(pb, .cells #[ap, .slice (some ⟨g, 0, none⟩) s.length c1, .bool (m), .int .i64 i] 113)] w0 := (FR.start w0 (Wk w0 B pb)).addD hh (.inr (Wg.2 (.inl rfl))) Sa
  refine Ia ?_
  refine Ga ?_
  refine Ca (Ld rfl) ?_
  refine Cb ?_
  refine Ja ?_
  refine Ia ?_
  refine De [] (.free 0 (.free 1 (.free 2 (.free 3 (.free 5 (.free 6 (.free 7 (.free 8 (.free 9 (.act 4 (.act 10 (.free 11 .nil)))))))))))) hF ?_
  clear hF; intro w hF hE
  replace hg := (hE.block g (Jb hg) Sa).trans hg
  replace hO := Zi hO hE Sa
  clear hE
  refine ⟨fun wq => FR w0 (Wk w0 B pb) _ wq, hF, ?_⟩
  refine Eb rfl (Of rfl) ?_
  refine Eb rfl (Vg rfl) ?_
  refine Eb rfl (Fc Kf rfl) ?_
  refine Bk rfl (Mf isAgg109 rfl C0 0 rfl rfl) ?_
  refine Eb rfl (Of rfl) ?_
  refine Eb rfl (Vg rfl) ?_
  refine Eb rfl (Fc Kf rfl) ?_
  refine Bk rfl (Mf isAgg109 rfl C0 0 rfl rfl) ?_
  refine Eb rfl (Ji underlying109 rfl) ?_
  refine Zh rfl (XM rfl by_Om) hF ?_
  have hu : (Builtin.unsafeString_ #[148, 3] 9 #[.pointer (some ⟨g, 0, none⟩), .int .i64 s.length]).run prog w = .ok (.string (bs s)) (w.freeze ⟨g, 0, none⟩ s.length) := Lib.run_unsafeString_row w 148 3 9 5 underlying148 I0 g cur.size (by simp [World.shape?, hg]) s h0 by_Om (by simp only [maxLen] at hcm; omega) (fun j x hx => hO.cells (g := g) rfl j (.int .u8 x.toNat) (by simp [Lib.byteCells, hx]))
  have hEf : FR w0 (Wk w0 B pb) _ (w.freeze ⟨g, 0, none⟩ s.length) := hF.touch (Same.freeze w ⟨g, 0, none⟩ s.length) (fun b hb => by obtain rfl := List.mem_singleton.1 hb; exact ⟨fun _ => hgm, by simpa using hgn.symm⟩)
  refine Zh rfl (IN rfl rfl hu) hEf ?_
  replace hF := hEf
  refine Eb rfl (Ld rfl) ?_
  refine Ic ?_
  refine Ja ?_
  refine Ud (v := .string (bs s)) rfl rfl ?_
  exact ⟨rfl, hF.same⟩
theorem Ho {w0 : World} {B pb T : Nat} {rest : List Value} {s : Str} (hB : Bd w0 B pb T rest s) (c : UInt8) (hl : s.length + 1 ≤ 140737488355328) : Yt 137 #[.pointer (some ⟨pb, 0, none⟩), .int .u8 ((c.toNat : Nat) : Int)] .nilIface w0 B pb T rest (s ++ [c]) := by
  rcases hB.shp with ⟨rfl, rfl⟩ | ⟨rfl, m, i, rfl⟩
  · exact Z6 w0 B pb s hB c hl
  · exact Q8 w0 B pb m i s hB c hl
theorem Tj {w0 : World} {B pb T : Nat} {rest : List Value} {s : Str} (hB : Bd w0 B pb T rest s) (t : Str) (hl : s.length + t.length ≤ 140737488355328) : Yt 103 #[.pointer (some ⟨pb, 0, none⟩), .string (bs t)] (.tuple #[.int .i64 ((t.length : Nat) : Int), .nilIface]) w0 B pb T rest (s ++ t) := by
  rcases hB.shp with ⟨rfl, rfl⟩ | ⟨rfl, m, i, rfl⟩
  · exact R0 w0 B pb s hB t hl
  · exact X0 w0 B pb m i s hB t hl
theorem C8 {w0 : World} {B pb T : Nat} {rest : List Value} {s : Str} (hB : Bd w0 B pb T rest s) (r : Int) (h0 : -2147483648 ≤ r) (h1 : r ≤ 2147483647) (hl : s.length + 4 ≤ 140737488355328) : Yt 181 #[.pointer (some ⟨pb, 0, none⟩), .int .i32 r] (.tuple #[.int .i64 (((Qi r).length : Nat) : Int), .nilIface]) w0 B pb T rest (s ++ Qi r) := by
  rcases hB.shp with ⟨rfl, rfl⟩ | ⟨rfl, m, i, rfl⟩
  · exact Y6 w0 B pb s hB r h0 h1 hl
  · exact O5 w0 B pb m i s hB r h0 h1 hl
theorem X6 {w0 : World} {B pb T : Nat} {rest : List Value} {s : Str} (hB : Bd w0 B pb T rest s) (h0 : s ≠ []) : Calls prog 79 #[.pointer (some ⟨pb, 0, none⟩)] w0 (Ce fun v w' => v = .string (bs s) ∧ Same (Wk w0 B pb) w0 w') := by
  rcases hB.shp with ⟨rfl, rfl⟩ | ⟨rfl, m, i, rfl⟩
  · exact HJ w0 B pb s hB h0
  · exact PH w0 B pb m i s hB h0
structure BW (w0 : World) (Ds : List Nat) (w : World) (B pb T : Nat) (rest : List Value) (s : Str) : Prop where
  bd : Bd w B pb T rest s
  sub : ∀ x ∈ Wk w B pb, x < w0.heap.size → x ∈ Ds
  ge : w0.heap.size ≤ w.heap.size
section
variable {w0 w w' : World} {Ds E : List Nat} {bs_ : List (Nat × Obj)} {B pb T : Nat} {rest : List Value} {s t : Str}
theorem BW.start (h : Bd w0 B pb T rest s) : BW w0 (Wk w0 B pb) w0 B pb T rest s := ⟨h, fun x hx _ => hx, Nat.le_refl _⟩
theorem BW.own (h : Bd w B pb T rest s) (hb : w0.heap.size ≤ B) (hg : w0.heap.size ≤ w.heap.size) : BW w0 Ds w B pb T rest s :=
  ⟨h, fun x hx hl => by
    have := h.le
    rcases Wg.1 hx with rfl | ⟨-, h2, -⟩ <;> omega, hg⟩
theorem BW.lt (h : BW w0 Ds w B pb T rest s) : pb < w.heap.size := h.bd.lt
theorem BW.wrote (h : BW w0 Ds w B pb T rest s) (hb : Bd w' B pb T rest t) (hs : Same (Wk w B pb) w w') : BW w0 Ds w' B pb T rest t :=
  ⟨hb, fun x hx hl => by
    rcases Wk.step hs hx with h1 | h1
    · exact h.sub x h1 hl
    · have := h.ge; omega, Nat.le_trans h.ge hs.size⟩
theorem FR.wrote (hF : FR w0 Ds bs_ w) (h : BW w0 Ds w B pb T rest s) (hs : Same (Wk w B pb) w w') (hb : ∀ p ∈ bs_, Qj p.2 = false ∧ p.1 ≠ pb) : FR w0 Ds bs_ w' :=
  hF.touch hs fun x hx => ⟨h.sub x hx, fun p hp e => by
    have h1 := hb p hp
    rcases Wg.1 hx with h2 | ⟨-, -, h3⟩
    · exact h1.2 (e.trans h2)
    · rw [← e, Nr (hF.memHeap hp), h1.1] at h3; cases h3⟩
theorem Bd.same (h : Bd w B pb T rest s) (hs : Same E w w') (hp : pb ∉ E) (he : ∀ x ∈ E, Wq w x = false) : Bd w' B pb T rest s := by
  obtain ⟨h1, h2, ap, v, h3, h4, h5⟩ := h
  refine ⟨h1, h2, ap, v, (hs.block pb (Jb h3) hp).trans h3, Zi h4 hs (fun g hg hm => ?_), h5⟩
  have := (Jm h4 hg).2.2
  rw [he g hm] at this; cases this
theorem Bd.ext (h : Bd w B pb T rest s) (hs : Same [] w w') : Bd w' B pb T rest s := h.same hs Sa Sa
theorem BW.step (h : BW w0 Ds w B pb T rest s) (hs : Same E w w') (hp : pb ∉ E) (he : ∀ x ∈ E, Wq w x = false) (he' : ∀ x ∈ E, Wq w' x = false) : BW w0 Ds w' B pb T rest s :=
  ⟨h.bd.same hs hp he, fun x hx hl => by
    refine h.sub x (Wg.2 ?_) hl
    have hl2 := Nat.lt_of_lt_of_le hl h.ge
    rcases Wg.1 hx with rfl | ⟨-, h2, h3⟩
    · exact .inl rfl
    · refine .inr ⟨hl2, h2, ?_⟩
      have hn : x ∉ E := fun hm => by rw [he' x hm] at h3; cases h3
      rw [Wq, ← hs.block x hl2 hn]; exact h3, Nat.le_trans h.ge hs.size⟩
theorem BW.ext (h : BW w0 Ds w B pb T rest s) (hs : Same [] w w') : BW w0 Ds w' B pb T rest s := h.step hs Sa Sa Sa
theorem Rep.off {d : D} {cs : List Value} (h : Rep (fun x => x ∉ Wk w B pb) w d cs) (hs : Same (Wk w B pb) w w') : Rep (fun x => x ∉ Wk w' B pb) w' d cs :=
  ((h.old).same hs (fun b hb hn => hn.1 hb)).weaken fun x hx _ hm => by
    rcases Wk.step hs hm with h1 | h1
    · exact hx.1 h1
    · have := hx.2; omega
theorem Rep.off_ext {d : D} {cs : List Value} (h : Rep (fun x => x ∉ Wk w B pb) w d cs) (hp : pb < w.heap.size) (hs : Same [] w w') : Rep (fun x => x ∉ Wk w' B pb) w' d cs := h.off (hs.mono Sa)
end
end Go.Scarf
namespace Go.Scarf
open Go.RowKit Go.Proofs Go.Proofs.Tryz
section
variable {P : Program} {w : World} {ρ : Operand → Value} {dst : Option Nat} {ty : TypeId} {pos : String} {aft : Array Edge} {g : Option (Nat × Bool)}
theorem MH {t t' : TypeId} {x y : Operand} {k : IntKind} {a b c : Int} (hx : ρ x = .int k a) (hy : ρ y = .int k b) (h : bits .and k a b = c) :
    (execOp ρ ⟨dst, .binOp .and t x y t', ty, pos, aft, g⟩).run P w = .ok (.value (.int k c)) w := by
  simp [execOp, hx, hy, Ee, binOp, intBits_and, h]
theorem TN {t t' : TypeId} {x y : Operand} {k k2 : IntKind} {a c : Int} (m : Nat) (hx : ρ x = .int k a) (hy : ρ y = .int k2 m) (hm : m ≤ k.bits) (h : a.fdiv (2 ^ m) = c) :
    (execOp ρ ⟨dst, .binOp .shr t x y t', ty, pos, aft, g⟩).run P w = .ok (.value (.int k c)) w := by
  have hg : (eqGuard .shr t x y (.int k a) (.int k2 m)).run P w = .ok () w := by unfold eqGuard; simp
  have h0 : ¬ ((m : Int) < 0) := by omega
  simp [execOp, hx, hy, hg, binOp, Op.shift, h0, Nat.min_eq_left hm, h]
theorem Bt {t e N : Nat} {x y : Operand} {kk : IntKind} {b : Nat} (i : Nat) (ht : P.underlying t = some (.array N e)) (hs : ∀ w, (sizeOf e).run P w = .ok 1 w) (hx : ρ x = .pointer (some ⟨b, 0, none⟩)) (hy : ρ y = .int kk (i : Int)) (h1 : i < N) :
    (execOp ρ ⟨dst, .indexAddr t x y, ty, pos, aft, g⟩).run P w = .ok (.value (.pointer (some ⟨b, i, none⟩))) w := by
  have h2 : (0 : Int) ≤ (i : Int) ∧ (i : Int) < (N : Int) := by omega
  have e1 : (⟨b, 0, none⟩ : Addr).add i = ⟨b, i, none⟩ := by rw [Kk, Nat.zero_add]
  simp [execOp, hx, hy, Instr.indexAt, run_underlying ht, Instr.sureAddr, asIntOf, h2, hs, e1]
  intro hh; omega
theorem L9 {t e N : Nat} {x y : Operand} {kk : IntKind} {b : Nat} (i : Nat) (ht : P.underlying t = some (.array N e)) (hs : ∀ w, (sizeOf e).run P w = .ok 1 w) (hx : ρ x = .pointer (some ⟨b, 0, none⟩)) (hy : ρ y = .int kk (i : Int)) (h1 : i < N) :
    (execOp ρ ⟨dst, .slice t x (some y) none none, ty, pos, aft, g⟩).run P w = .ok (.value (.slice (some ⟨b, i, none⟩) (N - i) (N - i))) w := by
  have h0 : ¬ N = i := by omega
  have e1 : (⟨b, 0, none⟩ : Addr).add i = ⟨b, i, none⟩ := by rw [Kk, Nat.zero_add]
  have e2 : (0 : Int) ≤ (i : Int) ∧ (i : Int) ≤ (N : Int) := by omega
  simp [execOp, hx, hy, Instr.sliceAt, run_underlying ht, Instr.sureAddr, Instr.sliceBounds, run_sliceBound, hs, e1, h0, e2]
theorem J5 {t t' e : Nat} {x : Operand} {a : Addr} {n c : Nat} (s : Str) (ht : P.underlying t = some (.slice e)) (he : P.underlying e = some (.int .u8)) (hd : P.underlying t' = some .string) (hx : ρ x = .slice (some a) n c) (hn : s.length = n)
    (h : ∀ j (hj : j < s.length), w.cell? (a.add j) = some (.int .u8 (s[j].toNat : Int))) :
    (execOp ρ ⟨dst, .convert t t' x, ty, pos, aft, g⟩).run P w = .ok (.value (.string (bs s))) w := by
  have hl := Po (P := P) a w ((s.map fun u => (u.toNat : Int)).map (Value.int .u8)) (m := n) (by simp [hn]) (fun j hj => by simp at hj ⊢; exact h j hj)
  have hb := run_bytesToString w a n c (s.map fun u => (u.toNat : Int)) hl
  have e1 : ∀ (l : Str) (acc : ByteArray), (l.map fun u => (u.toNat : Int)).foldl (fun r n => r.push (UInt8.ofNat n.toNat)) acc = ⟨acc.data ++ l.toArray⟩ := by
    intro l
    induction l with
    | nil => intro acc; simp
    | cons u l ih => intro acc; rw [List.map_cons, List.foldl_cons, ih]; simp [ByteArray.push]
  rw [e1] at hb
  simp [execOp, hx, run_convert_bytes_string w t t' e _ _ _ ht he hd, hb]
end
def S9 : List Value := List.replicate 65 (.int .u8 0)
def Lv : Str := [48, 49, 50, 51, 52, 53, 54, 55, 56, 57, 97, 98, 99, 100, 101, 102, 103, 104, 105, 106, 107, 108, 109, 110, 111, 112, 113, 114, 115, 116, 117, 118, 119, 120, 121, 122]
def dg (k : Nat) : UInt8 := Lv.getD k 0
def Kl (r : Nat) : Str := if r < 16 then [dg r] else [dg (r / 16), dg (r % 16)]
theorem Dx {k : Nat} (h : k < Lv.length) : Lv[k] = dg k := by simp [dg, h]
theorem QP : ∀ r < 32, IntKind.u64.wrap ((r : Nat) : Int) = r := by decide
theorem SS : ∀ u < 32, bits .and .u64 ((u : Nat) : Int) 15 = ((u % 16 : Nat) : Int) := by decide
theorem TQ (w0 : World) (hG : Gl w0) : Calls prog 200 #[.int .u64 16] w0 (Ce fun v w' => v = .int .i64 4 ∧ Same [] w0 w') := by
 obtain ⟨e, fz, hbr⟩ := hG.bru
 refine Ma func200 rfl ntmps200 Qb (Rc _) ?_
 have hF := FR.start w0 []
 refine Ha (Ca (Kb rfl) (Da (Ia (Ha (Ca (Za rfl) (Fa (v := .bool false) (Dd (Bg rfl rfl) Oa) (Da (Xe rfl (Ra ?_)))))))))
 refine Ja (Ha (Ca (Za rfl) (Ca (Za rfl) (Fa (v := .int .u64 18446744073709551600) (Nx rfl Oa) (Fa (v := .int .u64 16) (MH rfl rfl Oa) (Fa (v := .int .u64 4573923408821661840) (Im rfl rfl Oa) (Fa (v := .int .u64 15) (TN 58 rfl rfl Oa Oa) (Fa (v := .pointer (some (⟨6, 15, none⟩))) (Bt 15 underlying236 sizeOf5 rfl rfl Oa) ?_))))))))
 refine Fa (v := .int .u8 4) (Vb isAgg5 rfl (by rw [Hc (hF.heap0 hbr)]; rfl)) ?_
 refine Fa (v := .int .i64 4) (Td underlying5 underlying3 rfl Oa) (Ca (Kb rfl) (Da ?_))
 refine Ud (v := .int .i64 4) rfl rfl ?_
 exact ⟨rfl, hF.same⟩
theorem TT (w0 : World) (hG : Gl w0) : Calls prog 166 #[.int .u64 16] w0 (Ce fun v w' => v = .int .i64 4 ∧ Same [] w0 w') := by
 refine Ma func166 rfl ntmps166 Qb (Rc _) ?_
 have hF := FR.start w0 []
 refine Ha (Ca (Kb rfl) (Da (Ia (Ni rfl (Ha (Ca (Za rfl) ?_))))))
 refine Va hF (TQ _ (hG.ext hF.same)) (Ua ZP rfl rfl) ?_
 clear hF; intro w hF
 refine Ca (Kb rfl) (Da ?_)
 refine Ud (v := .int .i64 4) rfl rfl ?_
 exact ⟨rfl, hF.same⟩
theorem VO (w0 : World) : Calls prog 165 #[.int .i64 16] w0 (Ce fun v w' => v = .bool true ∧ Same [] w0 w') := by
 refine Ma func165 rfl ntmps165 Qb (Rc _) ?_
 have hF := FR.start w0 []
 refine Ha (Ca (Cc rfl) (Yb (Ca (Za rfl) (Ca (Za rfl) (Fa (v := .int .i64 15) (Wu rfl rfl Oa) (Fa (v := .int .i64 0) (MH rfl rfl Oa) (Fa (v := .bool true) (Sc (Bg rfl rfl) Oa) (Ca (Cc rfl) (Cb ?_)))))))))
 refine Ja ?_
 refine Ud (v := .bool true) rfl rfl ?_
 exact ⟨rfl, hF.same⟩
theorem R4 (w0 : World) (hG : Gl w0) (r : Nat) (hr : r < 32) : Calls prog 120 #[.slice none 0 0, .int .u64 (r : Int), .int .i64 16, .bool false, .bool false] w0 (Ce fun v w' => v = .tuple #[.slice none 0 0, .string (bs (Kl r))] ∧ Same [] w0 w') := by
  refine Ma func120 rfl ntmps120 Qb (U4 _ _ _ _ _) ?_
  have hF := FR.start w0 []
  refine Ia ?_
  refine Ga ?_
  refine Ca (Nt rfl) ?_
  refine Ca (Ld rfl) ?_
  refine Cb ?_
  refine Ja ?_
  refine Ia ?_
  refine Ia ?_
  refine Ga ?_
  refine Ca (Za rfl) ?_
  refine Fa (v := .bool false) (Dd (Z7 rfl rfl) Oa) ?_
  refine Ca (Jc rfl) ?_
  refine Ca (Za rfl) ?_
  refine Fa (v := .bool false) (Dd (Bg rfl rfl) Oa) ?_
  refine Ca (Dc rfl rfl) ?_
  refine Ca (Jc rfl) ?_
  refine Ca (Za rfl) ?_
  refine Fa (v := .bool false) (Dd (Cz rfl rfl) Oa) ?_
  refine Ca (Dc rfl rfl) ?_
  refine Cb ?_
  refine Ja ?_
  refine Xe rfl ?_
  refine Ra ?_
  refine Ja ?_
  refine Ia ?_
  refine Ga ?_
  refine Af (cs := (List.toArray S9)) hF zeroValue194 Fb ?_
  clear hF; intro b1 w hb1 hF hE
  clear hE
  refine Cb ?_
  refine Ja ?_
  refine Ia ?_
  refine Ga ?_
  refine Ca (Kb rfl) ?_
  refine Cb ?_
  refine Ja ?_
  refine Ia ?_
  refine Ia ?_
  refine Ga ?_
  refine Ca (Jc rfl) ?_
  refine Cb ?_
  refine Ja ?_
  refine Xe rfl ?_
  refine Ra ?_
  refine Ja ?_
  refine Ia ?_
  refine Ia ?_
  refine Ga ?_
  refine Ca (Za rfl) ?_
  refine Va hF (VO _) (Ua RO rfl rfl) ?_
  clear hF; intro w hF
  refine Cb ?_
  refine Ja ?_
  refine Qd rfl ?_
  refine Ia ?_
  refine Ga ?_
  refine Ca (Za rfl) ?_
  refine Fa (v := .int .u64 16) (Td underlying3 underlying152 rfl Oa) ?_
  refine Va hF (TT _ (hG.ext hF.same)) (Ua EO rfl rfl) ?_
  clear hF; intro w hF
  refine Fa (v := .int .u64 4) (Td underlying3 underlying152 rfl Oa) ?_
  refine Ca (Kb rfl) ?_
  refine Cb ?_
  refine Ja ?_
  refine Ia ?_
  refine Ga ?_
  refine Ca (Za rfl) ?_
  refine Fa (v := .int .u64 16) (Td underlying3 underlying156 rfl Oa) ?_
  refine Ca (Kb rfl) ?_
  refine Cb ?_
  refine Ja ?_
  refine Ia ?_
  refine Ga ?_
  refine Ca (Za rfl) ?_
  refine Fa (v := .int .u64 16) (Td underlying3 underlying152 rfl Oa) ?_
  refine Fa (v := .int .u64 15) (Wu rfl rfl Oa) ?_
  refine Ca (Kb rfl) ?_
  refine Cb ?_
  refine Ja ?_
  refine Ia ?_
  refine Db ?_
  refine Xc (fun μ σ w => ∃ (u : Nat), ∃ (i : Nat), ∃ (cs : List Value), μ = 2 * u ∧ ((u = r ∧ i = 65 ∧ cs = S9) ∨ (16 ≤ r ∧ u = r / 16 ∧ i = 64 ∧ cs = S9.set 64 (.int .u8 ((dg (r % 16)).toNat : Int)))) ∧ AllEq σ [(0, .slice none 0 0), (1, .int .u64 ((u : Int))), (3, .bool false), (4, .bool false), (10, .slice none 0 0), (11, .string (bs [])), (12, .pointer (some ⟨b1, 0, none⟩)), (13, .int .i64 ((i : Int))), (14, .int .u64 4), (15, .int .u64 16), (16, .int .u64 15)] ∧ FR w0 [] [(b1, .cells (List.toArray cs) 194)] w) _ ⟨r, 65, S9, rfl, (.inl ⟨rfl, rfl, rfl⟩), ⟨rfl, rfl, rfl, rfl, rfl, rfl, rfl, rfl, rfl, rfl, rfl, trivial⟩, hF⟩ ?_
  clear hF; rintro μ σ w ⟨u, i, cs, rfl, hI, hs, hF⟩
  refine Cg.slots hs ?_
  clear hs; intro σ
  have hcl : cs.length = 65 := by rcases hI with ⟨-, -, rfl⟩ | ⟨-, -, -, rfl⟩ <;> simp [S9]
  have hu32 : u < 32 := by omega
  refine Ia ?_
  refine Ia ?_
  refine Ga ?_
  refine Ca (Za rfl) ?_
  refine Ca (Za rfl) ?_
  refine Ca (Zv rfl rfl) ?_
  refine Cb ?_
  refine Ja ?_
  refine Bc rfl rfl (fun hc3 => ?_) (fun hc3 => ?_)
  ·
    refine Ra ?_
    refine Ja ?_
    refine Db ?_
    refine Ia ?_
    refine Ga ?_
    refine Ca (Za rfl) ?_
    refine Ca (Jy (((64 : Nat) : Int)) rfl rfl) ?_
    refine Ca (Kb rfl) ?_
    refine Cb ?_
    refine Ja ?_
    refine Ia ?_
    refine Ga ?_
    refine Ca (Za rfl) ?_
    refine Ca (Za rfl) ?_
    refine Ca (Za rfl) ?_
    refine Fa (v := .int .u64 (((u % 16 : Nat) : Int))) (MH rfl rfl (SS u by_Om)) ?_
    refine Fa (v := .int .u8 (((dg (u % 16)).toNat : Int))) (by rw [← Dx (show u % 16 < Lv.length by show u % 16 < 36; omega)]; exact Fd (u % 16) underlying9 rfl rfl _) ?_
    refine Fa (v := .pointer (some ⟨b1, 64, none⟩)) (Bt 64 underlying194 sizeOf5 rfl rfl Oa) ?_
    refine Pe 0 (l := [.int .u8 (((dg (u % 16)).toNat : Nat) : Int)]) (cs' := (List.toArray (cs.set 64 (.int .u8 (((dg (u % 16)).toNat : Nat) : Int))))) hF sizeOf5 rfl (v := .int .u8 (((dg (u % 16)).toNat : Nat) : Int)) rfl rfl Se rfl (by simp [hcl] <;> omega) (by simp [Wj]) ?_
    clear hF; intro w hF hE
    clear hE
    replace hF : FR w0 [] [(b1, .cells (List.toArray (cs.set 64 (.int .u8 (((dg (u % 16)).toNat : Nat) : Int)))) 194)] w := hF
    refine Cb ?_
    refine Ja ?_
    refine Ga ?_
    refine Ca (Za rfl) ?_
    refine Ca (Za rfl) ?_
    refine Fa (v := .int .u64 (((u / 16 : Nat) : Int))) (TN 4 rfl rfl Oa (by rw [Int.fdiv_eq_ediv_of_nonneg _ Oa]; omega)) ?_
    refine Ca (Kb rfl) ?_
    refine Cb ?_
    refine Wb ?_
    refine Gb ⟨_, ?_, u / 16, 64, cs.set 64 (.int .u8 (((dg (u % 16)).toNat : Nat) : Int)), rfl, (.inr (by rcases hI with ⟨rfl, rfl, rfl⟩ | ⟨h16, rfl, rfl, rfl⟩ <;> first | omega | exact ⟨by omega, rfl, rfl, rfl⟩)), ⟨rfl, rfl, rfl, rfl, rfl, rfl, rfl, rfl, rfl, rfl, rfl, trivial⟩, hF⟩
    omega
  ·
    refine Oc (Nc rfl ?_)
    refine Ja ?_
    refine Ia ?_
    refine Ga ?_
    refine Ca (Za rfl) ?_
    refine Ca (Jy (((i - 1 : Nat) : Int)) rfl rfl) ?_
    refine Ca (Kb rfl) ?_
    refine Cb ?_
    refine Ja ?_
    refine Ga ?_
    refine Ca (Za rfl) ?_
    refine Ca (Za rfl) ?_
    refine Fa (v := .int .u8 (((dg u).toNat : Int))) (by rw [← Dx (show u < Lv.length by show u < 36; omega)]; exact Fd u underlying9 rfl rfl _) ?_
    refine Fa (v := .pointer (some ⟨b1, (i - 1), none⟩)) (Bt (i - 1) underlying194 sizeOf5 rfl rfl by_Om) ?_
    refine Pe 0 (l := [.int .u8 (((dg (u)).toNat : Nat) : Int)]) (cs' := (List.toArray (cs.set (i - 1) (.int .u8 (((dg (u)).toNat : Nat) : Int))))) hF sizeOf5 rfl (v := .int .u8 (((dg (u)).toNat : Nat) : Int)) rfl rfl Se rfl (by simp [hcl] <;> omega) (by simp [Wj]) ?_
    clear hF; intro w hF hE
    clear hE
    replace hF : FR w0 [] [(b1, .cells (List.toArray (cs.set (i - 1) (.int .u8 (((dg (u)).toNat : Nat) : Int)))) 194)] w := hF
    refine Cb ?_
    refine Ja ?_
    refine Ia ?_
    refine Ia ?_
    refine Ga ?_
    refine Ca (Jc rfl) ?_
    refine Cb ?_
    refine Ja ?_
    refine Xe rfl ?_
    refine Ra ?_
    refine Ja ?_
    refine Ia ?_
    refine Ia ?_
    refine Ga ?_
    refine Ca (Jc rfl) ?_
    refine Cb ?_
    refine Ja ?_
    refine Xe rfl ?_
    refine Ra ?_
    refine Ja ?_
    refine Ia ?_
    refine Ga ?_
    refine Ca (Za rfl) ?_
    refine Fa (v := .slice (some ⟨b1, i - 1, none⟩) (65 - (i - 1)) (65 - (i - 1))) (L9 (i - 1) underlying194 sizeOf5 rfl rfl by_Om) ?_
    have hfin : (Kl r).length = 65 - (i - 1) ∧ ∀ j (hj : j < (Kl r).length), w.cell? ((⟨b1, i - 1, none⟩ : Addr).add j) = some (.int .u8 ((Kl r)[j].toNat : Int)) := by
      have hh := hF.heap (i := 0) rfl
      rcases hI with ⟨rfl, rfl, rfl⟩ | ⟨h16, rfl, rfl, rfl⟩
      · have h1 : Kl u = [dg u] := by rw [Kl, if_pos by_Om]
        refine ⟨by rw [h1]; rfl, fun j hj => ?_⟩
        have hj0 : j = 0 := by rw [h1] at hj; simpa using hj
        subst hj0
        rw [Kk, Hc hh]; simp [h1, S9]
      · have h1 : Kl r = [dg (r / 16), dg (r % 16)] := by rw [Kl, if_neg by_Om]
        refine ⟨by rw [h1]; rfl, fun j hj => ?_⟩
        have hj2 : j = 0 ∨ j = 1 := by rw [h1] at hj; simp at hj; omega
        rw [Kk, Hc hh]
        rcases hj2 with rfl | rfl <;> simp [h1, S9]
    refine Fa (v := .string (bs (Kl r))) (J5 (Kl r) underlying109 underlying5 underlying9 rfl hfin.1 hfin.2) ?_
    refine Ca (Ld rfl) ?_
    refine Cb ?_
    refine Ja ?_
    refine Pb (Ob (Qa (Nd (v := .slice _ _ _) (x := .string (bs (Kl r))) rfl rfl rfl) ?_))
    exact ⟨rfl, hF.same⟩
theorem RG (w0 : World) (hG : Gl w0) (r : Nat) (hr : r < 32) : Calls prog 88 #[.int .i64 (r : Int), .int .i64 16] w0 (Ce fun v w' => v = .string (bs (Kl r)) ∧ Same [] w0 w') := by
 refine Ma func88 rfl ntmps88 Qb (Wd _ _) ?_
 have hF := FR.start w0 []
 refine Ha (Ca (Ld rfl) (Da (Ia (Ha (Ca (Za rfl) (Fa (v := .bool false) (Dd (Bg rfl rfl) Oa) (Da (Xe rfl (Ra ?_)))))))))
 refine Ja (Ha (Ca (Za rfl) (Fa (v := .int .u64 ((r : Int))) (Td underlying2 underlying156 rfl (QP r hr)) (Ca (Za rfl) (Ca (Za rfl) (Fa (v := .bool false) (Dd (Z7 rfl rfl) by_Om) ?_))))))
 refine Va hF (R4 _ (hG.ext hF.same) r hr) (Tl DO rfl rfl rfl rfl rfl rfl) ?_
 clear hF; intro w hF
 refine Ca (Qg rfl) (Ca (WT rfl rfl) (Ca (M1 rfl rfl) (Ca (Nt rfl) (Ca (Ld rfl) (Yb (Ca (Pc rfl) (Ca (Ld rfl) (Da ?_))))))))
 refine Ud (v := .string (bs (Kl r))) rfl rfl ?_
 exact ⟨rfl, hF.same⟩
theorem KR (w0 : World) (hG : Gl w0) (r : Nat) (hr : r < 32) : Calls prog 182 #[.int .i64 (r : Int), .int .i64 16] w0 (Ce fun v w' => v = .string (bs (Kl r)) ∧ Same [] w0 w') := by
 refine Ma func182 rfl ntmps182 Qb (Wd _ _) ?_
 have hF := FR.start w0 []
 refine Ha (Ca (Ld rfl) (Yb (Ca (Za rfl) (Ca (Za rfl) ?_))))
 refine Va hF (RG _ (hG.ext hF.same) r hr) (Pa CR rfl rfl rfl) ?_
 clear hF; intro w hF
 refine Ca (Ld rfl) (Da ?_)
 refine Ud (v := .string (bs (Kl r))) rfl rfl ?_
 exact ⟨rfl, hF.same⟩
def Zf (r : Int) : Int := if r = 34 then 34 else if r = 92 then 92 else if r = 8 then 98 else if r = 12 then 102 else if r = 10 then 110 else if r = 13 then 114 else if r = 9 then 116 else 0
theorem VG (w0 : World) (r : Int) : Calls prog 180 #[.int .i32 r] w0 (Ce fun v w' => v = .int .u8 (Zf r) ∧ Same [] w0 w') := by
 refine Ma func180 rfl ntmps180 Qb (Rc _) ?_
 have hF := FR.start w0 []
 refine Ha (Ca (Kb rfl) (Da (Ia (Ha (Ca (Za rfl) (Da (Db (Ia (Ia ?_)))))))))
 refine Ga (Ca (Li rfl rfl) (Ca (Cc rfl) (Da ?_)))
 refine Bc rfl rfl (fun hc0 => ?_) (fun hc0 => ?_)
 refine Ra (Ja (Qd rfl (Ha (Ca (Za rfl) ?_))))
 refine Fa (v := .int .u8 (Zf r)) (Td underlying21 underlying5 rfl (by rcases (by first | exact .inl (by assumption) | exact .inr (by assumption) : r = 34 ∨ r = 92) with rfl | rfl <;> decide)) ?_
 refine Ca (Kb rfl) (Da ?_)
 refine Ud (v := .int .u8 (Zf r)) rfl rfl ?_
 refine ⟨?_, hF.same⟩; simp_all [Zf]
 refine Ga (Ca (Li rfl rfl) (Ca (Cc rfl) (Da ?_)))
 refine Bc rfl rfl (fun hc1 => ?_) (fun hc1 => ?_)
 refine Ha (Ca (Za rfl) ?_)
 refine Fa (v := .int .u8 (Zf r)) (Td underlying21 underlying5 rfl (by rcases (by first | exact .inl (by assumption) | exact .inr (by assumption) : r = 34 ∨ r = 92) with rfl | rfl <;> decide)) ?_
 refine Ca (Kb rfl) (Da ?_)
 refine Ud (v := .int .u8 (Zf r)) rfl rfl ?_
 refine ⟨?_, hF.same⟩; simp_all [Zf]
 refine Ha (Ca (Li rfl rfl) (Ca (Cc rfl) (Da ?_)))
 refine Bc rfl rfl (fun hc2 => ?_) (fun hc2 => ?_)
 refine Ha (Ca (Kb rfl) (Da ?_))
 refine Ud (v := .int .u8 98) rfl rfl ?_
 refine ⟨?_, hF.same⟩; simp_all [Zf]
 refine Ha (Ca (Li rfl rfl) (Ca (Cc rfl) (Da ?_)))
 refine Bc rfl rfl (fun hc3 => ?_) (fun hc3 => ?_)
 refine Ha (Ca (Kb rfl) (Da ?_))
 refine Ud (v := .int .u8 102) rfl rfl ?_
 refine ⟨?_, hF.same⟩; simp_all [Zf]
 refine Ha (Ca (Li rfl rfl) (Ca (Cc rfl) (Da ?_)))
 refine Bc rfl rfl (fun hc4 => ?_) (fun hc4 => ?_)
 refine Ha (Ca (Kb rfl) (Da ?_))
 refine Ud (v := .int .u8 110) rfl rfl ?_
 refine ⟨?_, hF.same⟩; simp_all [Zf]
 refine Ha (Ca (Li rfl rfl) (Ca (Cc rfl) (Da ?_)))
 refine Bc rfl rfl (fun hc5 => ?_) (fun hc5 => ?_)
 refine Ha (Ca (Kb rfl) (Da ?_))
 refine Ud (v := .int .u8 114) rfl rfl ?_
 refine ⟨?_, hF.same⟩; simp_all [Zf]
 refine Ha (Ca (Li rfl rfl) (Ca (Cc rfl) (Da ?_)))
 refine Bc rfl rfl (fun hc6 => ?_) (fun hc6 => ?_)
 refine Ha (Ca (Kb rfl) (Da ?_))
 refine Ud (v := .int .u8 116) rfl rfl ?_
 refine ⟨?_, hF.same⟩; simp_all [Zf]
 refine Ra (Wb (Ja (Ha (Ca (Kb rfl) (Da ?_)))))
 refine Ud (v := .int .u8 0) rfl rfl ?_
 refine ⟨?_, hF.same⟩; simp_all [Zf]
end Go.Scarf
namespace Go.Scarf
open Go.RowKit Go.Proofs Go.Proofs.Tryz
def Kr (r : Nat) : Str := if Zf r ≠ 0 then [92, UInt8.ofNat (Zf r).toNat] else if 32 ≤ r then Qi r else [92, 117] ++ Lib.repeatL [48] (4 - (Kl r).length) ++ Kl r
def Zx : Nat → Str → Nat → Str
  | 0, _, _ => []
  | f + 1, s, p => if p < s.length then Kr (Utf8.decode (bs s) p).1 ++ Zx f s (p + (Utf8.decode (bs s) p).2) else []
theorem SC : ∀ (f g : Nat) (s : Str) (p : Nat), s.length - p ≤ f → s.length - p ≤ g → Zx f s p = Zx g s p
  | 0, 0, _, _, _, _ => rfl
  | 0, g + 1, s, p, h, _ => by rw [Zx, Zx, if_neg by_Om]
  | f + 1, 0, s, p, _, h => by rw [Zx, Zx, if_neg by_Om]
  | f + 1, g + 1, s, p, h1, h2 => by
    rw [Zx, Zx]
    split
    · have h3 := Tf s p
      rw [SC f g s _ by_Om by_Om]
    · rfl
def Er (s : Str) (p : Nat) : Str := Zx (s.length - p) s p
theorem Zm {s : Str} {p : Nat} (h : p < s.length) : Er s p = Kr (Utf8.decode (bs s) p).1 ++ Er s (p + (Utf8.decode (bs s) p).2) := by
  have h3 := Tf s p
  obtain ⟨f, hf⟩ : ∃ f, s.length - p = f + 1 := ⟨s.length - p - 1, by omega⟩
  rw [Er, hf, Zx, if_pos h, Er, SC f (s.length - (p + (Utf8.decode (bs s) p).2)) s _ by_Om by_Om]
theorem Uv {s : Str} {p : Nat} (h : ¬ p < s.length) : Er s p = [] := by
  have e : s.length - p = 0 := by omega
  rw [Er, e, Zx]
def Qt (s : Str) : Str := [34] ++ Er s 0 ++ [34]
theorem Zs (r : Int) : 0 ≤ Zf r ∧ Zf r < 256 := by
  unfold Zf
  repeat' split
  all_goals omega
theorem Am (r : Nat) : 1 ≤ (Kl r).length ∧ (Kl r).length ≤ 2 := by unfold Kl; split <;> simp
theorem Zp (n : Nat) : (Lib.repeatL [48] n).length = n := by
  induction n with
  | zero => rfl
  | succ n ih => simp [Lib.repeatL, ih]; try omega
theorem Co (r : Nat) : (Kr r).length ≤ 6 := by
  unfold Kr
  have h1 := Pp r
  have h2 := Am r
  repeat' split
  · simp
  · omega
  · simp [Zp]; omega
theorem Ph {w0 : World} {B pb T : Nat} {rest : List Value} {s : Str} (hB : Bd w0 B pb T rest s) (z : Int) (h0 : 0 ≤ z) (h1 : z < 256) (hl : s.length + 1 ≤ 140737488355328) : Yt 137 #[.pointer (some ⟨pb, 0, none⟩), .int .u8 z] .nilIface w0 B pb T rest (s ++ [UInt8.ofNat z.toNat]) := by
  have h := Ho hB (UInt8.ofNat z.toNat) hl
  have e : (((UInt8.ofNat z.toNat).toNat : Nat) : Int) = z := by simp only [UInt8.toNat_ofNat']; omega
  rwa [e] at h
theorem GK (w0 : World) (hG : Gl w0) (s : Str) (hl : s.length ≤ 17592186044416) : Calls prog 136 #[.string (bs s)] w0 (Ce fun v w' => v = (if Lib.validD s = true then .tuple #[.string (bs (Qt s)), .int .i64 0] else .tuple #[.string (bs []), .int .i64 2]) ∧ Same [] w0 w') := by
 refine Ma func136 rfl ntmps136 Qb (Rc _) ?_
 have hF := FR.start w0 []
 refine Ha (Ca (Ld rfl) (Ca (Kb rfl) (Da (Ia (Ha (Ca (Pc rfl) ?_))))))
 refine Zb (OB s by_Om _ (hG.ext hF.same)) (Ua DN rfl rfl) ?_
 rintro _ w ⟨n0, rfl, hE⟩
 replace hF := hF.ext hE
 clear hE
 refine Ca (Qg rfl) (Ca (Re rfl rfl) (Ca (Xs rfl rfl) (Ca (Kb rfl) (Ca (Cc rfl) (Yb (Ca (Jc rfl) (Ca (Dm rfl) (Da ?_))))))))
 refine Vh rfl rfl (fun hc0 => ?_) (fun hc0 => ?_)
 refine Ha (Ca (Ld rfl) (Ca (Kb rfl) (Da ?_)))
 refine Pb (Ob (Qa (Nd (v := .string (bs [])) (x := .int .i64 2) rfl rfl rfl) ?_))
 exact ⟨by rw [if_neg (by simpa using hc0)], hF.same⟩
 refine Ra (Ja (Ha ?_))
 refine Af (cs := #[.pointer none, .slice none 0 0]) hF zeroValue111 rfl ?_
 clear hF; rintro b1 w hb1 hF -
 refine Yb ?_
 have hBn : BW w0 [] w b1 b1 111 [] [] := BW.own ⟨.inl ⟨rfl, rfl⟩, Nat.le_refl _, _, _, hF.heap (i := 0) rfl, World.ownsRow_nil _ _ _ _, .inl rfl⟩ (hF.ge (i := 0) rfl) hF.same.size
 have hB := hBn
 replace hF := hF.drop 1
 replace hF : FR w0 [] [] w := hF
 have ho : (0 : Nat) ≤ 0 ∧ ([] : Str).length ≤ 0 := by simp
 refine Zb (Ph hB.bd (34) by_Om by_Om Sa) (Pa Ym rfl rfl rfl) ?_
 rintro _ w ⟨rfl, hBd, hE⟩
 replace hF := hF.wrote hB hE Sa
 replace hB := hB.wrote hBd hE
 clear hBd hE
 refine Da (Ia (Ha (Ca (Pc rfl) ?_)))
 refine Nu (str := s) hF underlying9 rfl ?_
 clear hF; intro b2 w hb2 hF hE
 have nb2 : b2 ≠ b1 := by have := hB.lt; omega
 replace hB := hB.ext hE
 clear hE
 refine Da (Db ?_)
 refine Xc (fun μ σ w => ∃ (q : Nat), ∃ (o : Str), μ = s.length - q ∧ (o ++ Er s q = [34] ++ Er s 0) ∧ (o.length ≤ 1 + 6 * q ∧ o.length ≤ 1 + 6 * s.length) ∧ (BW w0 [] w b1 b1 111 [] o) ∧ AllEq σ [(6, .pointer (some ⟨b1, 0, none⟩)), (20, .pointer (some ⟨b2, 0, none⟩))] ∧ FR w0 [] [(b2, .stringIter (bs s) (q))] w) _ ⟨0, [34], rfl, (rfl), Sa, (hB), Nv, hF⟩ ?_
 clear hF; rintro μ σ w ⟨q, o, rfl, hq, ho, hB, hs, hF⟩
 refine Cg.slots hs ?_
 clear hs; intro σ
 have hr2 : Wq w b2 = false := by rw [Nr (hF.heap (i := 0) rfl)]; rfl
 refine Ha ?_
 by_cases hn0 : (q) < (s : Str).length
 refine Ay 0 (p := q) (str := s) hF rfl rfl hn0 ?_
 clear hF; intro w hF hE
 replace hB := hB.step hE (by simpa using nb2.symm) (by simpa using hr2) (by simp [Nr (hF.heap (i := 0) rfl), Qj])
 clear hE
 replace hF : FR w0 [] [(b2, .stringIter (bs s) (q + (Utf8.decode (bs s) (q)).2))] w := hF
 refine Ca (Xs rfl rfl) (Da (Ia (Qd rfl (Ra (Ja (Db (Ha (Ca (Re rfl rfl) (Ca (Kb rfl) (Da ?_))))))))))
 refine Ia (Ha (Ca (Za rfl) ?_))
 refine Zb (VG _ (((Utf8.decode (bs s) q).1 : Nat) : Int)) (Ua DP rfl rfl) ?_
 rintro _ w ⟨rfl, hE⟩
 replace hF := hF.ext hE
 replace hB := hB.ext hE
 clear hE
 refine Ca (Kb rfl) (Yb (Ca (Za rfl) (Ca (Vs rfl rfl) (Da ?_))))
 refine Bc rfl rfl (fun hc2 => ?_) (fun hc2 => ?_)
 refine Ha ?_
 refine Zb (Ph hB.bd (92) by_Om by_Om (by have h1 := ho.1; have h2 := ho.2; simp; omega)) (Pa Ym rfl rfl rfl) ?_
 rintro _ w ⟨rfl, hBd, hE⟩
 replace hF := hF.wrote hB hE (by simp [Qj, nb2])
 replace hB := hB.wrote hBd hE
 clear hBd hE
 refine Yb (Ca (Za rfl) ?_)
 refine Zb (Ph hB.bd (Zf (((Utf8.decode (bs s) q).1 : Nat) : Int)) (Zs _).1 (Zs _).2 (by have h1 := ho.1; have h2 := ho.2; simp; omega)) (Pa Ym rfl rfl rfl) ?_
 rintro _ w ⟨rfl, hBd, hE⟩
 replace hF := hF.wrote hB hE (by simp [Qj, nb2])
 replace hB := hB.wrote hBd hE
 have e1 : o ++ [UInt8.ofNat (92 : Int).toNat] ++ [UInt8.ofNat (Zf (((Utf8.decode (bs s) q).1 : Nat) : Int)).toNat] = o ++ Kr (Utf8.decode (bs s) q).1 := by rw [Kr, if_pos (by simpa using hc2)]; simp
 rw [e1] at hB
 clear hBd hE
 refine Da ?_
 refine Oc (Nc rfl ?_)
 have h1 := Tf s q
 refine Gb ⟨_, ?_, q + (Utf8.decode (bs s) q).2, o ++ Kr (Utf8.decode (bs s) q).1, rfl, (by rw [List.append_assoc, ← Zm by_Om]; exact hq), (by have h1 := Tf s q; have h2 := Co (Utf8.decode (bs s) q).1; rw [List.length_append]; omega), (hB), Nv, hF⟩
 omega
 refine Ra (Ja (Ia (Ha (Ca (Za rfl) (Ca (Zv rfl rfl) (Da ?_))))))
 refine Bc rfl rfl (fun hc3 => ?_) (fun hc3 => ?_)
 refine Ha (Ca (Za rfl) ?_)
 refine Zb (C8 hB.bd (((Utf8.decode (bs s) q).1 : Nat) : Int) by_Om (by have := Lib.rune_le (bs s) q; omega) (by have h1 := ho.1; have h2 := ho.2; simp; omega)) (Pa KQ rfl rfl rfl) ?_
 rintro _ w ⟨rfl, hBd, hE⟩
 replace hF := hF.wrote hB hE (by simp [Qj, nb2])
 replace hB := hB.wrote hBd hE
 have e1 : o ++ Qi (((Utf8.decode (bs s) q).1 : Nat) : Int) = o ++ Kr (Utf8.decode (bs s) q).1 := by rw [Kr, if_neg (by simpa using hc2), if_pos by_Om]
 rw [e1] at hB
 clear hBd hE
 refine Da ?_
 refine Oc (Nc rfl ?_)
 have h1 := Tf s q
 refine Gb ⟨_, ?_, q + (Utf8.decode (bs s) q).2, o ++ Kr (Utf8.decode (bs s) q).1, rfl, (by rw [List.append_assoc, ← Zm by_Om]; exact hq), (by have h1 := Tf s q; have h2 := Co (Utf8.decode (bs s) q).1; rw [List.length_append]; omega), (hB), Nv, hF⟩
 omega
 refine Ra (Ja (Ha (Ca (Za rfl) (Fa (v := .int .i64 ((((Utf8.decode (bs s) q).1 : Nat) : Int))) (Td underlying21 underlying2 rfl (Lh by_Om by_Om)) ?_))))
 refine Zb (KR _ (hG.ext hF.same) (Utf8.decode (bs s) q).1 by_Om) (Pa KP rfl rfl rfl) ?_
 rintro _ w ⟨rfl, hE⟩
 replace hF := hF.ext hE
 replace hB := hB.ext hE
 clear hE
 refine Ca (Ld rfl) (Da (Ga (Ca (Pc rfl) (Ca (Hk underlying9 rfl) (Fa (v := .int .i64 (((4 - (Kl (Utf8.decode (bs s) q).1).length : Nat) : Int))) (Wu rfl rfl (have := Am (Utf8.decode (bs s) q).1; Me by_Om by_Om by_Om)) ?_)))))
 refine Zb (U1 ((4 - (Kl (Utf8.decode (bs s) q).1).length : Nat) : Int) by_Om by_Om _) (Pa M_ rfl rfl rfl) ?_
 rintro _ w ⟨rfl, hE⟩
 replace hF := hF.ext hE
 replace hB := hB.ext hE
 clear hE
 refine Fa (v := .string (bs (([92, 117]) ++ (Lib.repeatL [48] (4 - (Kl (Utf8.decode (bs s) q).1).length))))) (Tg rfl rfl (by have := Am (Utf8.decode (bs s) q).1; simp [Zp]; omega)) ?_
 refine Ca (Pc rfl) ?_
 refine Fa (v := .string (bs ((([92, 117]) ++ (Lib.repeatL [48] (4 - (Kl (Utf8.decode (bs s) q).1).length))) ++ (Kl (Utf8.decode (bs s) q).1)))) (Tg rfl rfl (by have := Am (Utf8.decode (bs s) q).1; simp [Zp]; omega)) ?_
 refine Zb (Tj hB.bd _ (by have := Am (Utf8.decode (bs s) q).1; have h1 := ho.1; have h2 := ho.2; simp [Zp]; omega)) (Pa Ez rfl rfl rfl) ?_
 rintro _ w ⟨rfl, hBd, hE⟩
 replace hF := hF.wrote hB hE (by simp [Qj, nb2])
 replace hB := hB.wrote hBd hE
 have e1 : o ++ ((([92, 117]) ++ (Lib.repeatL [48] (4 - (Kl (Utf8.decode (bs s) q).1).length))) ++ (Kl (Utf8.decode (bs s) q).1)) = o ++ Kr (Utf8.decode (bs s) q).1 := by rw [Kr, if_neg (by simpa using hc2), if_neg by_Om]
 rw [e1] at hB
 clear hBd hE
 refine Cb (Wb ?_)
 have h1 := Tf s q
 refine Gb ⟨_, ?_, q + (Utf8.decode (bs s) q).2, o ++ Kr (Utf8.decode (bs s) q).1, rfl, (by rw [List.append_assoc, ← Zm by_Om]; exact hq), (by have h1 := Tf s q; have h2 := Co (Utf8.decode (bs s) q).1; rw [List.length_append]; omega), (hB), Nv, hF⟩
 omega
 refine Aq 0 (p := q) (str := s) hF rfl rfl hn0 ?_
 refine Ca (Xs rfl rfl) (Da (Ia (Xe rfl ?_)))
 refine Oc (Nc rfl ?_)
 refine Ja (Ha ?_)
 refine Zb (Ph hB.bd (34) by_Om by_Om (by have h1 := ho.1; have h2 := ho.2; simp; omega)) (Pa Ym rfl rfl rfl) ?_
 rintro _ w ⟨rfl, hBd, hE⟩
 replace hF := hF.wrote hB hE (by simp [Qj, nb2])
 replace hB := hB.wrote hBd hE
 clear hBd hE
 refine Yb ?_
 refine Zb (X6 hB.bd Sa) (Ua UN rfl rfl) ?_
 rintro _ w ⟨rfl, hE⟩
 replace hF := hF.wrote hB hE (by simp [Qj, nb2])
 clear hE
 refine Ca (Ld rfl) (Ca (Kb rfl) (Da ?_))
 refine Pb (Ob (Qa (Nd (v := .string (bs (o ++ [34]))) (x := .int .i64 0) rfl rfl rfl) ?_))
 refine ⟨?_, hF.same⟩
 rw [if_pos (by simpa using hc0), Qt, ← hq, Uv by_Om, List.append_nil]
end Go.Scarf
namespace Go.Scarf
open Go.RowKit Go.Proofs Go.Proofs.Tryz
def Zg (m : Bool) (ind d : Nat) : Str := if m then [10] ++ Lib.repeatL [32] (ind * d) else []
def qS (t : Str) : Str := if Lib.validD t = true then Qt t else []
theorem Fr (c : UInt8) (n : Nat) : (Lib.repeatL [c] n).length = n := by
  induction n with
  | zero => rfl
  | succ n ih => simp [Lib.repeatL, ih]; try omega
theorem Su (m : Bool) (ind d : Nat) : (Zg m ind d).length ≤ 1 + ind * d := by unfold Zg; split <;> simp [Fr] <;> omega
theorem B3 (s : Str) (p : Nat) : (Er s p).length ≤ 6 * (s.length - p) := by
  induction h : s.length - p using Nat.strongRecOn generalizing p with
  | ind n ih =>
    by_cases hp : p < s.length
    · rw [Zm hp, List.length_append]
      have h1 := Co (Utf8.decode (bs s) p).1
      have h2 := Tf s p
      have h3 := ih (s.length - (p + (Utf8.decode (bs s) p).2)) by_Om (p + (Utf8.decode (bs s) p).2) rfl
      omega
    · rw [Uv hp]; simp
theorem Nw (s : Str) : (qS s).length ≤ 6 * s.length + 2 := by
  unfold qS
  split
  · have := B3 s 0
    simp [Qt]; omega
  · simp
theorem EI (t : Str) (c : Nat) (h1 : c ≤ 9223372036854775807) (h2 : t.length * c ≤ 140737488355328) (w : World) : Calls prog 101 #[.string (bs t), .int .i64 (c : Int)] w (Ce fun v w' => v = .string (bs (Lib.repeatL t c)) ∧ Same [] w w') := by
  have h := strings_Repeat (bs t) c w h1 (by rw [Pm]; exact h2)
  exact Zr h
theorem YI (t : Str) (hl : t.length ≤ 17592186044416) (w0 : World) (hG : Gl w0) : Calls prog 136 #[.string (bs t)] w0 (Ce fun v w' => v = .tuple #[.string (bs (qS t)), .int .i64 (if Lib.validD t = true then 0 else 2)] ∧ Same [] w0 w') := by
  refine To (GK w0 hG t hl) fun v w' ⟨h1, h2⟩ => ⟨?_, h2⟩
  rw [h1, qS]
  split <;> rfl
theorem Bd.mul {w : World} {B pb T : Nat} {m : Bool} {ind : Int} {s : Str} (h : Bd w B pb T [.bool m, .int .i64 ind] s) : w.cell? ⟨pb, 2, none⟩ = some (.bool m) := by
  obtain ⟨ap, v, hh, -⟩ := h.ex
  rw [Hc hh]; rfl
theorem Bd.ind {w : World} {B pb T : Nat} {m : Bool} {ind : Int} {s : Str} (h : Bd w B pb T [.bool m, .int .i64 ind] s) : w.cell? ⟨pb, 3, none⟩ = some (.int .i64 ind) := by
  obtain ⟨ap, v, hh, -⟩ := h.ex
  rw [Hc hh]; rfl
theorem Gl.wrote {w0 w : World} {B pb : Nat} (h : Gl w0) (hs : Same (Wk w0 B pb) w0 w) (hb : 7 ≤ B) (hp : B ≤ pb) : Gl w := h.same hs fun x hx => by
  rcases Wg.1 hx with rfl | ⟨-, h1, -⟩ <;> omega
theorem I_ (w0 : World) (B pb : Nat) (m : Bool) (ind : Nat) (s : Str) (hBd : Bd w0 B pb 113 [.bool m, .int .i64 (ind : Int)] s) (d : Nat) (hd : ind * d ≤ 1000000000) (hl : s.length + (Zg m ind d).length ≤ 140737488355328) : Yt 138 #[.pointer (some ⟨pb, 0, none⟩), .int .i64 (d : Int)] (.tuple #[]) w0 B pb 113 [.bool m, .int .i64 (ind : Int)] (s ++ Zg m ind d) := by
 unfold Yt
 refine Ma func138 rfl ntmps138 Qb (Wd _ _) ?_
 have hB := BW.start hBd
 have hF := FR.start w0 (Wk w0 B pb)
 refine Ha (Ca (Of rfl) (Ca (Vg rfl) (Ca (Fc F6 rfl) (Fa (v := .bool (m)) (Vb isAgg4 rfl hB.bd.mul) (Da ?_)))))
 refine Vh rfl rfl (fun hc0 => ?_) (fun hc0 => ?_)
 rw [Zg, if_pos hc0] at hl
 simp only [List.length_append, List.length_cons, List.length_nil, Fr] at hl
 refine Ha (Ca (Of rfl) (Ca (Vg rfl) (Ca (Fc Yi rfl) ?_)))
 refine Zb (Ph hB.bd 10 Oa Oa by_Om) (Pa Ym rfl rfl rfl) ?_
 rintro _ w ⟨rfl, hBd, hE⟩
 replace hF := hF.wrote hB hE Sa
 replace hB := hB.wrote hBd hE
 clear hBd hE
 refine Da ?_
 refine De [] (.free 0 (.free 1 (.free 2 (.free 3 (.free 4 (.free 5 (.free 6 (.free 7 (.free 8 (.act 9 (.act 10 .nil))))))))))) hF ?_
 clear hF; intro w hF hE
 replace hB := hB.ext hE
 clear hE
 refine ⟨fun wq => FR w0 (Wk w0 B pb) _ wq ∧ ∃ s', Bd wq B pb 113 [.bool m, .int .i64 (ind : Int)] s', ⟨hF, ⟨_, hB.bd⟩⟩, ?_⟩
 refine Eb rfl (Of rfl) (Eb rfl (Vg rfl) (Eb rfl (Fc Yi rfl) (Eb rfl (Of rfl) (Eb rfl (Vg rfl) (Eb rfl (Fc UI rfl) ?_)))))
 refine Ib rfl (v := .int .i64 ((ind : Int))) (fun w hC => Vb isAgg3 rfl (by obtain ⟨-, s_, hs_⟩ := hC; exact hs_.ind)) ?_
 refine Eb rfl (Za rfl) ?_
 refine Ib rfl (v := .int .i64 (((ind * d : Nat) : Int))) (fun w hC => Im rfl rfl (Me (by rw [Int.natCast_mul]) by_Om by_Om)) ?_
 refine Xf rfl (EI [32] (ind * d) by_Om (by simp; omega) _) (Pa M_ rfl rfl rfl) ?_
 rintro _ w ⟨rfl, hE⟩
 replace hF := hF.ext hE
 replace hB := hB.ext hE
 clear hE
 refine ⟨⟨hF, ⟨_, hB.bd⟩⟩, ?_⟩
 refine Xf rfl (Tj hB.bd (Lib.repeatL [32] (ind * d)) (by simp [Fr]; omega)) (Pa Ez rfl rfl rfl) ?_
 rintro _ w ⟨rfl, hBd, hE⟩
 replace hF := hF.wrote hB hE Sa
 replace hB := hB.wrote hBd hE
 clear hBd hE
 refine ⟨⟨hF, ⟨_, hB.bd⟩⟩, ?_⟩
 refine Ic ?_
 refine Ef (Rd (Ah rfl) ?_)
 exact ⟨rfl, by simpa [Zg, hc0] using hB.bd, hF.same⟩
 refine Ra ?_
 refine Ef (Rd (Ah rfl) ?_)
 exact ⟨rfl, by simpa [Zg, hc0] using hB.bd, hF.same⟩
theorem B2 (w0 : World) (B pb : Nat) (m : Bool) (ind : Nat) (s : Str) (hBd : Bd w0 B pb 113 [.bool m, .int .i64 (ind : Int)] s) (hG : Gl w0) (h8 : 7 ≤ B) (t : Str) (ht : t.length ≤ 17592186044416) (hl : s.length + (qS t).length ≤ 140737488355328) : Yt 104 #[.pointer (some ⟨pb, 0, none⟩), .string (bs t)] (.tuple #[]) w0 B pb 113 [.bool m, .int .i64 (ind : Int)] (s ++ qS t) := by
 unfold Yt
 refine Ma func104 rfl ntmps104 Qb (Wd _ _) ?_
 have hB := BW.start hBd
 have hF := FR.start w0 (Wk w0 B pb)
 refine Ha (Ca (Pc rfl) ?_)
 refine Zb (YI t ht _ ((hG.wrote hF.same h8 hBd.le))) (Ua EQ rfl rfl) ?_
 rintro _ w ⟨rfl, hE⟩
 replace hF := hF.ext hE
 replace hB := hB.ext hE
 clear hE
 refine Ca (Qg rfl) (Ca (M1 rfl rfl) (Ca (Re rfl rfl) (Ca (Ld rfl) (Ca (Kb rfl) (Da (Ga (Ca (Of rfl) (Ca (Vg rfl) (Ca (Fc Yi rfl) (Ca (Pc rfl) ?_))))))))))
 refine Zb (Tj hB.bd (qS t) by_Om) (Pa Ez rfl rfl rfl) ?_
 rintro _ w ⟨rfl, hBd, hE⟩
 replace hF := hF.wrote hB hE Sa
 replace hB := hB.wrote hBd hE
 clear hBd hE
 refine Cb ?_
 refine Ef (Rd (Ah rfl) ?_)
 exact ⟨rfl, hB.bd, hF.same⟩
end Go.Scarf
namespace Go.Scarf
open Go.RowKit Go.Proofs Go.Proofs.Tryz
def Ii (m : Bool) (ind d : Nat) : Bool → List Str → Str
  | _, [] => []
  | first, p :: ps => (if first then [] else [44]) ++ (Zg m ind (d + 1) ++ (p ++ Ii m ind d false ps))
def Pl (m : Bool) (ind d : Nat) (o c : UInt8) (ps : List Str) : Str := [o] ++ (Ii m ind d true ps ++ ((if ps = [] then [] else Zg m ind d) ++ [c]))
mutual
def Ig (m : Bool) (ind : Nat) : Tree → Nat → Str
  | .node k t ks xs, d => if k = 1 then [110, 117, 108, 108] else if k = 4 then qS t else if k = 5 then Pl m ind d 91 93 (Bo m ind xs (d + 1)) else if k = 6 then Pl m ind d 123 125 (Hl m ind xs ks (d + 1)) else t
def Bo (m : Bool) (ind : Nat) : List Tree → Nat → List Str
  | [], _ => []
  | x :: xs, d => Ig m ind x d :: Bo m ind xs d
def Hl (m : Bool) (ind : Nat) : List Tree → List Str → Nat → List Str
  | [], _, _ => []
  | x :: xs, ks, d => (qS (ks.headD []) ++ ([58] ++ ((if m then [32] else []) ++ Ig m ind x d))) :: Hl m ind xs ks.tail d
end
theorem Lg : ∀ {xs : List Tree} {x : Tree}, x ∈ xs → Wc x ≤ Hd xs
  | y :: ys, x, h => by
    rw [Hd]
    rcases List.mem_cons.1 h with rfl | h
    · omega
    · have := Lg h; omega
theorem Xo (m : Bool) (ind d : Nat) : ∀ xs, Bo m ind xs d = xs.map (fun x => Ig m ind x d)
  | [] => by simp [Bo]
  | x :: xs => by simp [Bo, Xo m ind d xs]
def R7 (m : Bool) (ind d : Nat) (k : Str) (x : Tree) : Str := qS k ++ ([58] ++ ((if m then [32] else []) ++ Ig m ind x d))
theorem Qm (m : Bool) (ind d : Nat) : ∀ xs ks, (Hl m ind xs ks d).length = xs.length
  | [], ks => by simp [Hl]
  | x :: xs, ks => by simp [Hl, Qm m ind d xs ks.tail]
theorem Gw (m : Bool) (ind d : Nat) : ∀ (xs : List Tree) (ks : List Str) (j : Nat) (h : j < xs.length) (hk : j < ks.length) (h' : j < (Hl m ind xs ks d).length), (Hl m ind xs ks d)[j] = R7 m ind d ks[j] xs[j]
  | x :: xs, k :: ks, 0, _, _, _ => by simp [Hl, R7]
  | x :: xs, k :: ks, j + 1, h, hk, h' => by
    simp only [Hl, List.tail_cons, List.getElem_cons_succ]
    exact Gw m ind d xs ks j (by simpa using h) (by simpa using hk) (by simpa [Hl] using h')
theorem UE (m : Bool) (ind d : Nat) {ps : List Str} {j : Nat} (h : j < ps.length) : Ii m ind d (decide (j = 0)) (ps.drop j) = (if j = 0 then [] else [44]) ++ (Zg m ind (d + 1) ++ (ps[j] ++ Ii m ind d (decide (j + 1 = 0)) (ps.drop (j + 1)))) := by
  rw [List.drop_eq_getElem_cons h, Ii]
  simp
mutual
def TC : Tree → Prop | .node _ t ks xs => t.length ≤ 17592186044416 ∧ (∀ k ∈ ks, k.length ≤ 17592186044416) ∧ F_ xs
def F_ : List Tree → Prop | [] => True | x :: xs => TC x ∧ F_ xs
end
theorem Iu : ∀ {xs : List Tree}, F_ xs → ∀ x ∈ xs, TC x
  | [], _, _, h => absurd h Sa
  | y :: ys, h, x, hx => by
    rw [F_] at h
    rcases List.mem_cons.1 hx with rfl | hx
    · exact h.1
    · exact Iu h.2 x hx
def OG (x : Tree) : Prop := ∀ (m : Bool) (ind d : Nat) (w0 : World) (B pb : Nat) (s : Str) (cs : List Value), Bd w0 B pb 113 [.bool m, .int .i64 (ind : Int)] s → Gl w0 → 7 ≤ B → Rep (fun b => b ∉ Wk w0 B pb) w0 (Gc x) cs → TC x → Yd nodeB x = true →
  ind * (d + Wc x) ≤ 1000000000 → d + Wc x ≤ 1000000000 → s.length + (Ig m ind x d).length ≤ 140737488355328 → Yt 78 #[.pointer (some ⟨pb, 0, none⟩), .agg cs.toArray, .int .i64 (d : Int)] (.tuple #[]) w0 B pb 113 [.bool m, .int .i64 (ind : Int)] (s ++ Ig m ind x d)
def OS (f : Nat) (k : Int) (t : Str) (ks : List Str) (xs : List Tree) (m : Bool) (ind d : Nat) (ps : List Str) : Prop := ∀ (j : Nat) (hj : j < ps.length) (w0 : World) (B pb : Nat) (s : Str) (A B' : Option Addr) (c e : Nat), Bd w0 B pb 113 [.bool m, .int .i64 (ind : Int)] s → Gl w0 → 7 ≤ B →
  Rep (fun b => b ∉ Wk w0 B pb) w0 (Gc (.node k t ks xs)) [.int .i64 k, .string (bs t), .slice A ks.length c, .slice B' xs.length e] → s.length + ps[j].length ≤ 140737488355328 →
  Yt f #[.pointer (some ⟨pb, 0, none⟩), .agg #[.int .i64 k, .string (bs t), .slice A ks.length c, .slice B' xs.length e], .int .i64 (j : Int), .int .i64 (d : Int)] (.tuple #[]) w0 B pb 113 [.bool m, .int .i64 (ind : Int)] (s ++ ps[j])
theorem LO (k : Int) (t : Str) (ks : List Str) (xs : List Tree) (m : Bool) (ind d : Nat) (j : Nat) (hj : j < xs.length) (w0 : World) (B pb : Nat) (s : Str) (A B_ : Option Addr) (c e : Nat) (hBd : Bd w0 B pb 113 [.bool m, .int .i64 (ind : Int)] s) (hG : Gl w0) (h8 : 7 ≤ B) (hX : Rep (fun b => b ∉ Wk w0 B pb) w0 (Gc (.node k t ks xs)) [.int .i64 k, .string (bs t), .slice A ks.length c, .slice B_ xs.length e]) (hv : ∀ x ∈ xs, OG x) (hok : TC (.node k t ks xs)) (hn : Yd nodeB (.node k t ks xs) = true) (hd : ind * (d + Hd xs) ≤ 1000000000) (hd2 : d + Hd xs ≤ 1000000000) (hl : s.length + (Ig m ind xs[j] d).length ≤ 140737488355328) : Yt 106 #[.pointer (some ⟨pb, 0, none⟩), .agg #[.int .i64 k, .string (bs t), .slice A ks.length c, .slice B_ xs.length e], .int .i64 (j : Int), .int .i64 (d : Int)] (.tuple #[]) w0 B pb 113 [.bool m, .int .i64 (ind : Int)] (s ++ Ig m ind xs[j] d) := by
 unfold Yt
 rw [TC] at hok
 refine Ma func106 rfl ntmps106 Qb (EF _ _ _ _) ?_
 have hB := BW.start hBd
 have hF := FR.start w0 (Wk w0 B pb)
 refine Ha ?_
 refine Bh hF rfl ?_
 clear hF; intro b1 w hb1 hF hE
 have nb1 : b1 ≠ pb := by have := hB.lt; omega
 replace hX := hX.off_ext hB.lt hE
 replace hB := hB.ext hE
 clear hE
 refine Da (Ga (Ca (Of rfl) (Ca (Fc Vc rfl) (Uc (Mf isAgg23 rfl hF.F 0 rfl rfl) (Ca (Za rfl) ?_)))))
 obtain ⟨A_, c_, B__, e_, heq_, -, -, hK_, hXs_⟩ := hX.tree_inv
 simp only [List.cons.injEq, Value.slice.injEq, true_and, and_true] at heq_
 obtain ⟨⟨rfl, rfl⟩, rfl, rfl⟩ := heq_
 obtain ⟨ad0, cs0, hA0, hl0, hk0, hx0⟩ := hXs_.tree_elem (i := j) by_Om
 have ho0 := hx0.one_
 refine Fa (v := .pointer (some (ad0.add (j * 4)))) (Ya (i := (j : Int)) Sj rfl hA0 rfl by_Om by_Om) (Fa (v := .agg (List.toArray cs0)) (Rb (l := cs0) isAgg25 sizeOf25 rfl hl0 hk0) (Ca (Za rfl) ?_))
 refine Zb (hv xs[j] (List.getElem_mem hj) m ind d _ B pb s _ hB.bd (hG.wrote hF.same h8 hBd.le) h8 hx0 (Iu hok.2.2 _ (List.getElem_mem hj)) ((Uf hn).2 _ (List.getElem_mem hj)) (by have h1 := Lg (List.getElem_mem hj); exact Nat.le_trans (Nat.mul_le_mul_left ind by_Om) hd) (by have h1 := Lg (List.getElem_mem hj); omega) hl) (Ff QA rfl rfl rfl rfl) ?_
 rintro _ w ⟨rfl, hBd2, hE⟩
 replace hF := hF.wrote hB hE (by simp [Qj, nb1])
 replace hX := hX.off hE
 replace hB := hB.wrote hBd2 hE
 clear hBd2 hE
 refine Cb ?_
 refine Ef (Rd (Ah rfl) ?_)
 exact ⟨rfl, hB.bd, hF.same⟩
theorem GJ (k : Int) (t : Str) (ks : List Str) (xs : List Tree) (m : Bool) (ind d : Nat) (j : Nat) (hj : j < xs.length) (hjk : j < ks.length) (w0 : World) (B pb : Nat) (s : Str) (A B_ : Option Addr) (c e : Nat) (hBd : Bd w0 B pb 113 [.bool m, .int .i64 (ind : Int)] s) (hG : Gl w0) (h8 : 7 ≤ B) (hX : Rep (fun b => b ∉ Wk w0 B pb) w0 (Gc (.node k t ks xs)) [.int .i64 k, .string (bs t), .slice A ks.length c, .slice B_ xs.length e]) (hv : ∀ x ∈ xs, OG x) (hok : TC (.node k t ks xs)) (hn : Yd nodeB (.node k t ks xs) = true) (hd : ind * (d + Hd xs) ≤ 1000000000) (hd2 : d + Hd xs ≤ 1000000000) (hl : s.length + (R7 m ind d ks[j] xs[j]).length ≤ 140737488355328) : Yt 107 #[.pointer (some ⟨pb, 0, none⟩), .agg #[.int .i64 k, .string (bs t), .slice A ks.length c, .slice B_ xs.length e], .int .i64 (j : Int), .int .i64 (d : Int)] (.tuple #[]) w0 B pb 113 [.bool m, .int .i64 (ind : Int)] (s ++ R7 m ind d ks[j] xs[j]) := by
 unfold Yt
 rw [TC] at hok
 rw [R7] at hl
 simp only [List.length_append, List.length_cons, List.length_nil] at hl
 refine Ma func107 rfl ntmps107 Qb (EF _ _ _ _) ?_
 have hB := BW.start hBd
 have hF := FR.start w0 (Wk w0 B pb)
 refine Ha ?_
 refine Bh hF rfl ?_
 clear hF; intro b1 w hb1 hF hE
 have nb1 : b1 ≠ pb := by have := hB.lt; omega
 replace hX := hX.off_ext hB.lt hE
 replace hB := hB.ext hE
 clear hE
 refine Yb (Ca (Of rfl) (Ca (Fc Nf rfl) (Uc (Mf isAgg22 rfl hF.F 0 rfl rfl) (Ca (Za rfl) ?_))))
 obtain ⟨A_, c_, B__, e_, heq_, -, -, hK_, hXs_⟩ := hX.tree_inv
 simp only [List.cons.injEq, Value.slice.injEq, true_and, and_true] at heq_
 obtain ⟨⟨rfl, rfl⟩, rfl, rfl⟩ := heq_
 obtain ⟨ad0, hA0, hk0, hx0⟩ := hK_.str_elem (i := j) by_Om
 refine Fa (v := .pointer (some (ad0.add (j * 1)))) (Ya (i := (j : Int)) Pj rfl hA0 rfl by_Om by_Om) (Fa (v := .string (bs (ks[j]))) (Vb isAgg9 rfl hk0) ?_)
 refine Zb (B2 _ B pb m ind s hB.bd (hG.wrote hF.same h8 hBd.le) h8 ks[j] (hok.2.1 _ (List.getElem_mem hjk)) by_Om) (Pa YH rfl rfl rfl) ?_
 rintro _ w ⟨rfl, hBd2, hE⟩
 replace hF := hF.wrote hB hE (by simp [Qj, nb1])
 replace hX := hX.off hE
 replace hB := hB.wrote hBd2 hE
 clear hBd2 hE
 refine Yb (Ca (Of rfl) (Ca (Vg rfl) (Ca (Fc Yi rfl) ?_)))
 refine Zb (Ph hB.bd 58 Oa Oa (by rw [List.length_append]; omega)) (Pa Ym rfl rfl rfl) ?_
 rintro _ w ⟨rfl, hBd2, hE⟩
 replace hF := hF.wrote hB hE (by simp [Qj, nb1])
 replace hX := hX.off hE
 replace hB := hB.wrote hBd2 hE
 clear hBd2 hE
 refine Da (Ia (Ha (Ca (Of rfl) (Ca (Vg rfl) (Ca (Fc F6 rfl) (Fa (v := .bool (m)) (Vb isAgg4 rfl hB.bd.mul) (Da ?_)))))))
 refine Vh rfl rfl (fun hc0 => ?_) (fun hc0 => ?_)
 refine Ga (Ca (Of rfl) (Ca (Vg rfl) (Ca (Fc Yi rfl) ?_)))
 refine Zb (Ph hB.bd 32 Oa Oa (by simp only [List.length_append, List.length_cons, List.length_nil]; (first | rw [if_pos hc0] at hl | rw [if_neg (by simp [hc0])] at hl); simp only [List.length_cons, List.length_nil] at hl; omega)) (Pa Ym rfl rfl rfl) ?_
 rintro _ w ⟨rfl, hBd2, hE⟩
 replace hF := hF.wrote hB hE (by simp [Qj, nb1])
 replace hX := hX.off hE
 replace hB := hB.wrote hBd2 hE
 clear hBd2 hE
 refine Da (Ga (Ca (Of rfl) (Ca (Fc Vc rfl) (Uc (Mf isAgg23 rfl hF.F 0 rfl rfl) (Ca (Za rfl) ?_)))))
 obtain ⟨A_, c_, B__, e_, heq_, -, -, hK_, hXs_⟩ := hX.tree_inv
 simp only [List.cons.injEq, Value.slice.injEq, true_and, and_true] at heq_
 obtain ⟨⟨rfl, rfl⟩, rfl, rfl⟩ := heq_
 obtain ⟨ad1, cs1, hA1, hl1, hk1, hx1⟩ := hXs_.tree_elem (i := j) by_Om
 have ho1 := hx1.one_
 refine Fa (v := .pointer (some (ad1.add (j * 4)))) (Ya (i := (j : Int)) Sj rfl hA1 rfl by_Om by_Om) (Fa (v := .agg (List.toArray cs1)) (Rb (l := cs1) isAgg25 sizeOf25 rfl hl1 hk1) (Ca (Za rfl) ?_))
 refine Zb (hv xs[j] (List.getElem_mem hj) m ind d _ B pb _ _ hB.bd (hG.wrote hF.same h8 hBd.le) h8 hx1 (Iu hok.2.2 _ (List.getElem_mem hj)) ((Uf hn).2 _ (List.getElem_mem hj)) (by have h1 := Lg (List.getElem_mem hj); exact Nat.le_trans (Nat.mul_le_mul_left ind by_Om) hd) (by have h1 := Lg (List.getElem_mem hj); omega) (by simp only [List.length_append, List.length_cons, List.length_nil]; (first | rw [if_pos hc0] at hl | rw [if_neg (by simp [hc0])] at hl); simp only [List.length_cons, List.length_nil] at hl; omega)) (Ff QA rfl rfl rfl rfl) ?_
 rintro _ w ⟨rfl, hBd2, hE⟩
 replace hF := hF.wrote hB hE (by simp [Qj, nb1])
 replace hX := hX.off hE
 replace hB := hB.wrote hBd2 hE
 clear hBd2 hE
 refine Cb ?_
 refine Ef (Rd (Ah rfl) ?_)
 exact ⟨rfl, by simpa [R7, hc0] using hB.bd, hF.same⟩
 refine Ra (Ja (Ga (Ca (Of rfl) (Ca (Fc Vc rfl) (Uc (Mf isAgg23 rfl hF.F 0 rfl rfl) (Ca (Za rfl) ?_))))))
 obtain ⟨A_, c_, B__, e_, heq_, -, -, hK_, hXs_⟩ := hX.tree_inv
 simp only [List.cons.injEq, Value.slice.injEq, true_and, and_true] at heq_
 obtain ⟨⟨rfl, rfl⟩, rfl, rfl⟩ := heq_
 obtain ⟨ad2, cs2, hA2, hl2, hk2, hx2⟩ := hXs_.tree_elem (i := j) by_Om
 have ho2 := hx2.one_
 refine Fa (v := .pointer (some (ad2.add (j * 4)))) (Ya (i := (j : Int)) Sj rfl hA2 rfl by_Om by_Om) (Fa (v := .agg (List.toArray cs2)) (Rb (l := cs2) isAgg25 sizeOf25 rfl hl2 hk2) (Ca (Za rfl) ?_))
 refine Zb (hv xs[j] (List.getElem_mem hj) m ind d _ B pb _ _ hB.bd (hG.wrote hF.same h8 hBd.le) h8 hx2 (Iu hok.2.2 _ (List.getElem_mem hj)) ((Uf hn).2 _ (List.getElem_mem hj)) (by have h1 := Lg (List.getElem_mem hj); exact Nat.le_trans (Nat.mul_le_mul_left ind by_Om) hd) (by have h1 := Lg (List.getElem_mem hj); omega) (by simp only [List.length_append, List.length_cons, List.length_nil]; (first | rw [if_pos hc0] at hl | rw [if_neg (by simp [hc0])] at hl); simp only [List.length_cons, List.length_nil] at hl; omega)) (Ff QA rfl rfl rfl rfl) ?_
 rintro _ w ⟨rfl, hBd2, hE⟩
 replace hF := hF.wrote hB hE (by simp [Qj, nb1])
 replace hX := hX.off hE
 replace hB := hB.wrote hBd2 hE
 clear hBd2 hE
 refine Cb ?_
 refine Ef (Rd (Ah rfl) ?_)
 exact ⟨rfl, by simpa [R7, hc0] using hB.bd, hF.same⟩
end Go.Scarf
namespace Go.Scarf
open Go.RowKit Go.Proofs Go.Proofs.Tryz
theorem XE (m : Bool) (ind d : Nat) (b : Bool) : Ii m ind d b [] = [] := by cases b <;> rfl
theorem SA (f : Nat) (hen : Hb prog f) (k : Int) (t : Str) (ks : List Str) (xs : List Tree) (m : Bool) (ind d : Nat) (bo bc : UInt8) (ps : List Str) (hps : ps.length = xs.length) (hI : OS f k t ks xs m ind (d + 1) ps) (w0 : World) (B pb : Nat) (s : Str) (A B_ : Option Addr) (c e : Nat) (hBd : Bd w0 B pb 113 [.bool m, .int .i64 (ind : Int)] s) (hG : Gl w0) (h8 : 7 ≤ B) (hX : Rep (fun b => b ∉ Wk w0 B pb) w0 (Gc (.node k t ks xs)) [.int .i64 k, .string (bs t), .slice A ks.length c, .slice B_ xs.length e]) (hd1 : ind * (d + 1) ≤ 1000000000) (hd2 : d + 1 ≤ 1000000000) (hxl : xs.length ≤ 9223372036854775807) (hlim : s.length + (Pl m ind d bo bc ps).length ≤ 140737488355328) : Yt 105 #[.pointer (some ⟨pb, 0, none⟩), .agg #[.int .i64 k, .string (bs t), .slice A ks.length c, .slice B_ xs.length e], .int .i64 (d : Int), .string (bs [bo, bc]), .func (.func f) #[.pointer (some ⟨pb, 0, none⟩)] #[]] (.tuple #[]) w0 B pb 113 [.bool m, .int .i64 (ind : Int)] (s ++ Pl m ind d bo bc ps) := by
 unfold Yt
 rw [Pl] at hlim
 simp only [List.length_append, List.length_cons, List.length_nil] at hlim
 refine Ma func105 rfl ntmps105 Qb (U4 _ _ _ _ _) ?_
 have hB := BW.start hBd
 have hF := FR.start w0 (Wk w0 B pb)
 refine Ha ?_
 refine Bh hF rfl ?_
 clear hF; intro b1 w hb1 hF hE
 have nb1 : b1 ≠ pb := by have := hB.lt; omega
 replace hX := hX.off_ext hB.lt hE
 replace hB := hB.ext hE
 clear hE
 refine Da (Ia ?_)
 refine De [] (.free 0 (.free 1 (.free 2 (.free 3 (.free 4 (.act 5 .nil)))))) hF ?_
 clear hF; intro w hF hE
 replace hX := hX.off_ext hB.lt hE
 replace hB := hB.ext hE
 clear hE
 refine ⟨fun wq => FR w0 (Wk w0 B pb) _ wq, hF, ?_⟩
 refine Eb rfl (Of rfl) (Eb rfl (Vg rfl) (Eb rfl (Fc Yi rfl) (Eb rfl (Pc rfl) ?_)))
 refine Ib rfl (v := .int .u8 (((bo.toNat : Nat) : Int))) (fun w hC => Fd (s := [bo, bc]) 0 underlying9 rfl rfl Sa) ?_
 refine Xf rfl (Ho hB.bd bo by_Om) (Pa Ym rfl rfl rfl) ?_
 rintro _ w ⟨rfl, hBd2, hE⟩
 replace hF := hF.wrote hB hE (by simp [Qj, nb1])
 replace hX := hX.off hE
 replace hB := hB.wrote hBd2 hE
 clear hBd2 hE
 refine ⟨hF, ?_⟩
 refine Ic (Ja (Ia (Ha (Ca (Fc Vc rfl) (Uc (Mf isAgg23 rfl hF.F 0 rfl rfl) (Ca (Ji underlying23 rfl) (Ca (Za rfl) (Da (Db ?_)))))))))
 refine Xc (fun μ σ w => ∃ (j : Nat), ∃ (o : Str), μ = xs.length - j ∧ (j ≤ xs.length) ∧ (o ++ Ii m ind d (decide (j = 0)) (ps.drop j) = s ++ ([bo] ++ Ii m ind d true ps)) ∧ (BW w0 (Wk w0 B pb) w B pb 113 [.bool m, .int .i64 (ind : Int)] (o)) ∧ (Rep (fun b => b ∉ Wk w B pb) w (Gc (.node k t ks xs)) [.int .i64 k, .string (bs t), .slice A ks.length c, .slice B_ xs.length e]) ∧ AllEq σ [(0, .pointer (some ⟨pb, 0, none⟩)), (2, .int .i64 ((d : Int))), (3, .string (bs ([bo, bc]))), (4, .func (.func f) #[.pointer (some ⟨pb, 0, none⟩)] #[]), (6, .pointer (some ⟨b1, 0, none⟩)), (19, .int .i64 ((xs.length : Nat))), (20, .int .i64 ((j : Int)))] ∧ FR w0 (Wk w0 B pb) [(b1, .cells #[.int .i64 k, .string (bs t), .slice A ks.length c, .slice B_ xs.length e] 25)] w) _ ⟨0, s ++ [bo], rfl, (Nat.zero_le _), Sa, (hB), (hX), SB, hF⟩ ?_
 clear hF; rintro μ σ w ⟨j, o, rfl, hj, hq, hB, hX, hs, hF⟩
 refine Cg.slots hs ?_
 clear hs; intro σ
 refine Ha (Ca (Fj rfl rfl) (Da (Ia ?_)))
 refine Bc rfl rfl (fun hc0 => ?_) (fun hc0 => ?_)
 have hjp : j < ps.length := by omega
 have hjd := UE m ind d hjp
 have hL := congrArg List.length hq
 rw [hjd] at hL
 have hif : (if j = 0 then ([] : Str) else [44]).length = if j = 0 then 0 else 1 := by split <;> rfl
 simp only [List.length_append, List.length_cons, List.length_nil, hif] at hL
 refine Ra (Ja (Ia (Db (Ha (Ca (Za rfl) (Ca (Kb rfl) (Da (Ia (Ha (Ca (Za rfl) ?_))))))))))
 refine Ca (Gn rfl rfl) (Da ?_)
 refine Bc rfl rfl (fun hc1 => ?_) (fun hc1 => ?_)
 refine Ga (Ca (Of rfl) (Ca (Vg rfl) (Ca (Fc Yi rfl) ?_)))
 refine Zb (Ph hB.bd 44 Oa Oa (by rw [if_neg by_Om] at hL; omega)) (Pa Ym rfl rfl rfl) ?_
 rintro _ w ⟨rfl, hBd2, hE⟩
 replace hF := hF.wrote hB hE (by simp [Qj, nb1])
 replace hX := hX.off hE
 replace hB := hB.wrote hBd2 hE
 clear hBd2 hE
 refine Yb (Ca (Of rfl) (Ca (Za rfl) (Ca (Di (((d + 1 : Nat) : Int)) rfl rfl) ?_)))
 refine Zb (I_ _ B pb m ind _ hB.bd (d + 1) hd1 (by (try simp only [List.length_append, List.length_cons, List.length_nil]); first | (rw [if_neg by_Om] at hL; omega) | (rw [if_pos by_Om] at hL; omega))) (Pa S_ rfl rfl rfl) ?_
 rintro _ w ⟨rfl, hBd2, hE⟩
 replace hF := hF.wrote hB hE (by simp [Qj, nb1])
 replace hX := hX.off hE
 replace hB := hB.wrote hBd2 hE
 clear hBd2 hE
 refine Da (Ga (Ca (EC) (Uc (Bi isAgg25 sizeOf25 rfl hF.F 0 rfl rfl) (Ca (Za rfl) (Ca (Za rfl) (Ca (Di (((d + 1 : Nat) : Int)) rfl rfl) ?_))))))
 refine Zb (hI j hjp _ B pb _ A B_ c e hB.bd (hG.wrote hF.same h8 hBd.le) h8 hX (by (try simp only [List.length_append, List.length_cons, List.length_nil]); first | (rw [if_neg by_Om] at hL; omega) | (rw [if_pos by_Om] at hL; omega))) (I8 rfl hen rfl rfl rfl rfl) ?_
 rintro _ w ⟨rfl, hBd2, hE⟩
 replace hF := hF.wrote hB hE (by simp [Qj, nb1])
 replace hX := hX.off hE
 replace hB := hB.wrote hBd2 hE
 clear hBd2 hE
 replace hB : BW w0 (Wk w0 B pb) w B pb 113 [.bool m, .int .i64 (ind : Int)] (o ++ ((if j = 0 then [] else [44]) ++ (Zg m ind (d + 1) ++ ps[j]))) := by first | (have h0 : ¬ j = 0 := by_Om; rw [if_neg h0]; simpa using hB) | (have h0 : j = 0 := by_Om; rw [if_pos h0]; simpa using hB)
 refine Cb (Wb (Ja (Ga (Ca (El rfl rfl) (Ca (Za rfl) (Cb ?_))))))
 refine Gb ⟨_, ?_, j + 1, o ++ ((if j = 0 then [] else [44]) ++ (Zg m ind (d + 1) ++ ps[j])), rfl, by_Om, (by have h := hq; rw [hjd] at h; simpa [List.append_assoc] using h), (hB), (hX), SB, hF⟩
 omega
 refine Ra (Ja (Ha (Ca (Of rfl) (Ca (Za rfl) (Ca (Di (((d + 1 : Nat) : Int)) rfl rfl) ?_)))))
 refine Zb (I_ _ B pb m ind _ hB.bd (d + 1) hd1 (by (try simp only [List.length_append, List.length_cons, List.length_nil]); first | (rw [if_neg by_Om] at hL; omega) | (rw [if_pos by_Om] at hL; omega))) (Pa S_ rfl rfl rfl) ?_
 rintro _ w ⟨rfl, hBd2, hE⟩
 replace hF := hF.wrote hB hE (by simp [Qj, nb1])
 replace hX := hX.off hE
 replace hB := hB.wrote hBd2 hE
 clear hBd2 hE
 refine Da (Ga (Ca (EC) (Uc (Bi isAgg25 sizeOf25 rfl hF.F 0 rfl rfl) (Ca (Za rfl) (Ca (Za rfl) (Ca (Di (((d + 1 : Nat) : Int)) rfl rfl) ?_))))))
 refine Zb (hI j hjp _ B pb _ A B_ c e hB.bd (hG.wrote hF.same h8 hBd.le) h8 hX (by (try simp only [List.length_append, List.length_cons, List.length_nil]); first | (rw [if_neg by_Om] at hL; omega) | (rw [if_pos by_Om] at hL; omega))) (I8 rfl hen rfl rfl rfl rfl) ?_
 rintro _ w ⟨rfl, hBd2, hE⟩
 replace hF := hF.wrote hB hE (by simp [Qj, nb1])
 replace hX := hX.off hE
 replace hB := hB.wrote hBd2 hE
 clear hBd2 hE
 replace hB : BW w0 (Wk w0 B pb) w B pb 113 [.bool m, .int .i64 (ind : Int)] (o ++ ((if j = 0 then [] else [44]) ++ (Zg m ind (d + 1) ++ ps[j]))) := by first | (have h0 : ¬ j = 0 := by_Om; rw [if_neg h0]; simpa using hB) | (have h0 : j = 0 := by_Om; rw [if_pos h0]; simpa using hB)
 refine Cb (Wb (Ja (Ga (Ca (El rfl rfl) (Ca (Za rfl) (Cb ?_))))))
 refine Gb ⟨_, ?_, j + 1, o ++ ((if j = 0 then [] else [44]) ++ (Zg m ind (d + 1) ++ ps[j])), rfl, by_Om, (by have h := hq; rw [hjd] at h; simpa [List.append_assoc] using h), (hB), (hX), SB, hF⟩
 omega
 have hq2 : o = s ++ ([bo] ++ Ii m ind d true ps) := by have h := hq; rw [List.drop_eq_nil_of_le by_Om, XE, List.append_nil] at h; exact h
 refine Oc (Nc rfl ?_)
 refine Ja (Ia (Ha (Ca (Fc Vc rfl) (Uc (Mf isAgg23 rfl hF.F 0 rfl rfl) (Ca (Ji underlying23 rfl) (Ca (Gn rfl rfl) (Da ?_)))))))
 refine Bc rfl rfl (fun hc2 => ?_) (fun hc2 => ?_)
 have hpn : ps ≠ [] := by intro hp; rw [hp] at hps; simp at hps; omega
 refine Ga (Ca (Of rfl) (Ca (Za rfl) ?_))
 refine Zb (I_ _ B pb m ind _ hB.bd d (Nat.le_trans (Nat.mul_le_mul_left ind by_Om) hd1) (by have hp : ps ≠ [] := (by intro hp; rw [hp] at hps; simp at hps; omega); rw [if_neg hp] at hlim; rw [hq2]; (try simp only [List.length_append, List.length_cons, List.length_nil]); omega)) (Pa S_ rfl rfl rfl) ?_
 rintro _ w ⟨rfl, hBd2, hE⟩
 replace hF := hF.wrote hB hE (by simp [Qj, nb1])
 replace hX := hX.off hE
 replace hB := hB.wrote hBd2 hE
 clear hBd2 hE
 refine Da ?_
 refine De [] (.free 0 (.free 1 (.free 2 (.free 3 (.free 4 (.act 5 .nil)))))) hF ?_
 clear hF; intro w hF hE
 replace hX := hX.off_ext hB.lt hE
 replace hB := hB.ext hE
 clear hE
 refine ⟨fun wq => FR w0 (Wk w0 B pb) _ wq, hF, ?_⟩
 refine Eb rfl (Of rfl) (Eb rfl (Vg rfl) (Eb rfl (Fc Yi rfl) (Eb rfl (Pc rfl) ?_)))
 refine Ib rfl (v := .int .u8 (((bc.toNat : Nat) : Int))) (fun w hC => Fd (s := [bo, bc]) 1 underlying9 rfl rfl Sa) ?_
 refine Xf rfl (Ho hB.bd bc (by rw [hq2]; (try simp only [List.length_append, List.length_cons, List.length_nil]); first | (rw [if_neg hpn] at hlim; omega) | omega)) (Pa Ym rfl rfl rfl) ?_
 rintro _ w ⟨rfl, hBd2, hE⟩
 replace hF := hF.wrote hB hE (by simp [Qj, nb1])
 replace hX := hX.off hE
 replace hB := hB.wrote hBd2 hE
 clear hBd2 hE
 refine ⟨hF, ?_⟩
 refine Ic ?_
 refine Ef (Rd (Ah rfl) ?_)
 refine ⟨rfl, ?_, hF.same⟩
 have hb := hB.bd
 rw [hq2] at hb
 rw [Pl, if_neg hpn]
 simpa [List.append_assoc] using hb
 have hpz : ps = [] := List.eq_nil_of_length_eq_zero by_Om
 refine Ra (Ja ?_)
 refine De [] (.free 0 (.free 1 (.free 2 (.free 3 (.free 4 (.act 5 .nil)))))) hF ?_
 clear hF; intro w hF hE
 replace hX := hX.off_ext hB.lt hE
 replace hB := hB.ext hE
 clear hE
 refine ⟨fun wq => FR w0 (Wk w0 B pb) _ wq, hF, ?_⟩
 refine Eb rfl (Of rfl) (Eb rfl (Vg rfl) (Eb rfl (Fc Yi rfl) (Eb rfl (Pc rfl) ?_)))
 refine Ib rfl (v := .int .u8 (((bc.toNat : Nat) : Int))) (fun w hC => Fd (s := [bo, bc]) 1 underlying9 rfl rfl Sa) ?_
 refine Xf rfl (Ho hB.bd bc (by rw [hq2]; (try simp only [List.length_append, List.length_cons, List.length_nil]); first | (rw [if_neg hpn] at hlim; omega) | omega)) (Pa Ym rfl rfl rfl) ?_
 rintro _ w ⟨rfl, hBd2, hE⟩
 replace hF := hF.wrote hB hE (by simp [Qj, nb1])
 replace hX := hX.off hE
 replace hB := hB.wrote hBd2 hE
 clear hBd2 hE
 refine ⟨hF, ?_⟩
 refine Ic ?_
 refine Ef (Rd (Ah rfl) ?_)
 refine ⟨rfl, ?_, hF.same⟩
 have hb := hB.bd
 rw [hq2] at hb
 rw [Pl, if_pos hpz]
 simpa [List.append_assoc] using hb
theorem X8 (k : Int) (t : Str) (ks : List Str) (xs : List Tree) (ih : ∀ x ∈ xs, OG x) (m : Bool) (ind d : Nat) (w0 : World) (B pb : Nat) (s : Str) (A B_ : Option Addr) (c e : Nat) (hBd : Bd w0 B pb 113 [.bool m, .int .i64 (ind : Int)] s) (hG : Gl w0) (h8 : 7 ≤ B) (hX : Rep (fun b => b ∉ Wk w0 B pb) w0 (Gc (.node k t ks xs)) [.int .i64 k, .string (bs t), .slice A ks.length c, .slice B_ xs.length e]) (hok : TC (.node k t ks xs)) (hn : Yd nodeB (.node k t ks xs) = true) (hd : ind * (d + Wc (.node k t ks xs)) ≤ 1000000000) (hd2 : d + Wc (.node k t ks xs) ≤ 1000000000) (hxl : xs.length ≤ 9223372036854775807) (hl : s.length + (Ig m ind (.node k t ks xs) d).length ≤ 140737488355328) : Yt 78 #[.pointer (some ⟨pb, 0, none⟩), .agg #[.int .i64 k, .string (bs t), .slice A ks.length c, .slice B_ xs.length e], .int .i64 (d : Int)] (.tuple #[]) w0 B pb 113 [.bool m, .int .i64 (ind : Int)] (s ++ Ig m ind (.node k t ks xs) d) := by
 unfold Yt
 refine Ma func78 rfl ntmps78 Qb (Bw _ _ _) ?_
 have hB := BW.start hBd
 have hF := FR.start w0 (Wk w0 B pb)
 refine Ha ?_
 refine Bh hF rfl ?_
 clear hF; intro b1 w hb1 hF hE
 have nb1 : b1 ≠ pb := by have := hB.lt; omega
 replace hX := hX.off_ext hB.lt hE
 replace hB := hB.ext hE
 clear hE
 refine Yb (Ca (Fc Ke rfl) (Uc (Nm isAgg3 rfl hF.F 0 rfl rfl) (Da (Db (Ha (Ca (Li rfl rfl) (Ca (Cc rfl) (Cb ?_))))))))
 refine Ja ?_
 refine Bc rfl rfl (fun hc0 => ?_) (fun hc0 => ?_)
 refine Ga (Ca (Of rfl) (Ca (Vg rfl) (Ca (Fc Yi rfl) ?_)))
 have hkk_ : k = 1 := by omega
 refine Zb (Tj hB.bd [110, 117, 108, 108] (by rw [Ig, if_pos hkk_] at hl; exact hl)) (Pa Ez rfl rfl rfl) ?_
 rintro _ w ⟨rfl, hBd2, hE⟩
 replace hF := hF.wrote hB hE (by simp [Qj, nb1])
 replace hX := hX.off hE
 replace hB := hB.wrote hBd2 hE
 clear hBd2 hE
 refine Cb (Wb ?_)
 refine Ef (Rd (Ah rfl) ?_)
 refine ⟨rfl, ?_, hF.same⟩
 rw [Ig]
 first | (rw [if_pos hkk_]; exact hB.bd) | (rw [if_neg by_Om, if_pos hkk_]; exact hB.bd) | (rw [if_neg by_Om, if_neg by_Om, if_pos hkk_]; exact hB.bd) | (rw [if_neg by_Om, if_neg by_Om, if_neg by_Om, if_pos hkk_]; exact hB.bd) | (rw [if_neg by_Om, if_neg by_Om, if_neg by_Om, if_neg by_Om]; exact hB.bd)
 refine Ha (Ca (Li rfl rfl) (Ca (Cc rfl) (Da ?_)))
 refine Bc rfl rfl (fun hc1 => ?_) (fun hc1 => ?_)
 refine Ga (Ca (Of rfl) (Ca (Fc Pf rfl) (Uc (Ko isAgg9 rfl hF.F 0 rfl rfl) ?_)))
 have hkk_ : k = 4 := by omega
 refine Zb (B2 _ B pb m ind s hB.bd (hG.wrote hF.same h8 hBd.le) h8 t (by rw [TC] at hok; exact hok.1) (by rw [Ig, if_neg by_Om, if_pos hkk_] at hl; exact hl)) (Pa YH rfl rfl rfl) ?_
 rintro _ w ⟨rfl, hBd2, hE⟩
 replace hF := hF.wrote hB hE (by simp [Qj, nb1])
 replace hX := hX.off hE
 replace hB := hB.wrote hBd2 hE
 clear hBd2 hE
 refine Cb (Wb ?_)
 refine Ef (Rd (Ah rfl) ?_)
 refine ⟨rfl, ?_, hF.same⟩
 rw [Ig]
 first | (rw [if_pos hkk_]; exact hB.bd) | (rw [if_neg by_Om, if_pos hkk_]; exact hB.bd) | (rw [if_neg by_Om, if_neg by_Om, if_pos hkk_]; exact hB.bd) | (rw [if_neg by_Om, if_neg by_Om, if_neg by_Om, if_pos hkk_]; exact hB.bd) | (rw [if_neg by_Om, if_neg by_Om, if_neg by_Om, if_neg by_Om]; exact hB.bd)
 refine Ha (Ca (Li rfl rfl) (Ca (Cc rfl) (Da ?_)))
 refine Bc rfl rfl (fun hc2 => ?_) (fun hc2 => ?_)
 refine Ga (Ca (Of rfl) (Uc (Bi isAgg25 sizeOf25 rfl hF.F 0 rfl rfl) (Ca (Za rfl) (Ca (Of rfl) (Fa (v := .func (.func 106) #[.pointer (some ⟨pb, 0, none⟩)] #[]) (Yu rfl) ?_)))))
 have hkk_ : k = 5 := by omega
 refine Zb (SA 106 XO k t ks xs m ind d 91 93 (Bo m ind xs (d + 1)) (by rw [Xo, List.length_map]) (fun j hj w1 B1 p1 s1 A1 B1_ c1 e1 hb1_ hg1 h81 hx1 hl1 => by have hj2 : j < xs.length := (by rw [Xo, List.length_map] at hj; exact hj); have hg : (Bo m ind xs (d + 1))[j] = Ig m ind xs[j] (d + 1) := (by simp only [Xo, List.getElem_map]); rw [hg] at hl1 ⊢; exact LO k t ks xs m ind (d + 1) j hj2 w1 B1 p1 s1 A1 B1_ c1 e1 hb1_ hg1 h81 hx1 ih hok hn (by rw [Wc] at hd; exact Nat.le_trans (Nat.mul_le_mul_left ind by_Om) hd) (by rw [Wc] at hd2; omega) hl1) _ B pb s A B_ c e hB.bd (hG.wrote hF.same h8 hBd.le) h8 hX (by have h1 := hd; rw [Wc] at h1; exact Nat.le_trans (Nat.mul_le_mul_left ind by_Om) h1) (by rw [Wc] at hd2; omega) hxl (by rw [Ig] at hl; simpa [hkk_] using hl)) (Tl OH rfl rfl rfl rfl rfl rfl) ?_
 rintro _ w ⟨rfl, hBd2, hE⟩
 replace hF := hF.wrote hB hE (by simp [Qj, nb1])
 replace hX := hX.off hE
 replace hB := hB.wrote hBd2 hE
 clear hBd2 hE
 refine Cb (Wb ?_)
 refine Ef (Rd (Ah rfl) ?_)
 refine ⟨rfl, ?_, hF.same⟩
 rw [Ig]
 first | (rw [if_pos hkk_]; exact hB.bd) | (rw [if_neg by_Om, if_pos hkk_]; exact hB.bd) | (rw [if_neg by_Om, if_neg by_Om, if_pos hkk_]; exact hB.bd) | (rw [if_neg by_Om, if_neg by_Om, if_neg by_Om, if_pos hkk_]; exact hB.bd) | (rw [if_neg by_Om, if_neg by_Om, if_neg by_Om, if_neg by_Om]; exact hB.bd)
 refine Ha (Ca (Li rfl rfl) (Ca (Cc rfl) (Da ?_)))
 refine Bc rfl rfl (fun hc3 => ?_) (fun hc3 => ?_)
 refine Ga (Ca (Of rfl) (Uc (Bi isAgg25 sizeOf25 rfl hF.F 0 rfl rfl) (Ca (Za rfl) (Ca (Of rfl) (Fa (v := .func (.func 107) #[.pointer (some ⟨pb, 0, none⟩)] #[]) (Yu rfl) ?_)))))
 have hkk_ : k = 6 := by omega
 have hkl : ks.length = xs.length := (Kq (hkk_ ▸ (Uf hn).1)).2
 refine Zb (SA 107 TO k t ks xs m ind d 123 125 (Hl m ind xs ks (d + 1)) (by rw [Qm]) (fun j hj w1 B1 p1 s1 A1 B1_ c1 e1 hb1_ hg1 h81 hx1 hl1 => by have hj2 : j < xs.length := (by rw [Qm] at hj; exact hj); have hg := Gw m ind (d + 1) xs ks j hj2 by_Om hj; rw [hg] at hl1 ⊢; exact GJ k t ks xs m ind (d + 1) j hj2 by_Om w1 B1 p1 s1 A1 B1_ c1 e1 hb1_ hg1 h81 hx1 ih hok hn (by rw [Wc] at hd; exact Nat.le_trans (Nat.mul_le_mul_left ind by_Om) hd) (by rw [Wc] at hd2; omega) hl1) _ B pb s A B_ c e hB.bd (hG.wrote hF.same h8 hBd.le) h8 hX (by have h1 := hd; rw [Wc] at h1; exact Nat.le_trans (Nat.mul_le_mul_left ind by_Om) h1) (by rw [Wc] at hd2; omega) hxl (by rw [Ig] at hl; simpa [hkk_] using hl)) (Tl OH rfl rfl rfl rfl rfl rfl) ?_
 rintro _ w ⟨rfl, hBd2, hE⟩
 replace hF := hF.wrote hB hE (by simp [Qj, nb1])
 replace hX := hX.off hE
 replace hB := hB.wrote hBd2 hE
 clear hBd2 hE
 refine Cb (Wb ?_)
 refine Ef (Rd (Ah rfl) ?_)
 refine ⟨rfl, ?_, hF.same⟩
 rw [Ig]
 first | (rw [if_pos hkk_]; exact hB.bd) | (rw [if_neg by_Om, if_pos hkk_]; exact hB.bd) | (rw [if_neg by_Om, if_neg by_Om, if_pos hkk_]; exact hB.bd) | (rw [if_neg by_Om, if_neg by_Om, if_neg by_Om, if_pos hkk_]; exact hB.bd) | (rw [if_neg by_Om, if_neg by_Om, if_neg by_Om, if_neg by_Om]; exact hB.bd)
 refine De [] (.free 0 (.free 1 (.free 2 (.free 3 (.free 4 (.act 5 .nil)))))) hF ?_
 clear hF; intro w hF hE
 replace hX := hX.off_ext hB.lt hE
 replace hB := hB.ext hE
 clear hE
 refine ⟨fun wq => FR w0 (Wk w0 B pb) _ wq, hF, ?_⟩
 refine Eb rfl (Of rfl) (Eb rfl (Vg rfl) (Eb rfl (Fc Yi rfl) (Eb rfl (Fc Pf rfl) (Bk rfl (Ko isAgg9 rfl C0 0 rfl rfl) ?_))))
 refine Xf rfl (Tj hB.bd t (by rw [Ig, if_neg by_Om, if_neg by_Om, if_neg by_Om, if_neg by_Om] at hl; exact hl)) (Pa Ez rfl rfl rfl) ?_
 rintro _ w ⟨rfl, hBd2, hE⟩
 replace hF := hF.wrote hB hE (by simp [Qj, nb1])
 replace hX := hX.off hE
 replace hB := hB.wrote hBd2 hE
 clear hBd2 hE
 refine ⟨hF, ?_⟩
 refine Ic (Wb ?_)
 refine Ef (Rd (Ah rfl) ?_)
 refine ⟨rfl, ?_, hF.same⟩
 rw [Ig]
 first | (rw [if_pos hkk_]; exact hB.bd) | (rw [if_neg by_Om, if_pos hkk_]; exact hB.bd) | (rw [if_neg by_Om, if_neg by_Om, if_pos hkk_]; exact hB.bd) | (rw [if_neg by_Om, if_neg by_Om, if_neg by_Om, if_pos hkk_]; exact hB.bd) | (rw [if_neg by_Om, if_neg by_Om, if_neg by_Om, if_neg by_Om]; exact hB.bd)
theorem WK (x : Tree) : OG x := Tree.ind (Q := OG) (fun k t ks xs ih m ind d w0 B pb s cs hBd hG h8 hX hok hn hd hd2 hl => by
  obtain ⟨A, c, B_, e, rfl, -, -, -, hXs⟩ := hX.tree_inv
  have h1 := hXs.slice_len
  exact X8 k t ks xs ih m ind d w0 B pb s A B_ c e hBd hG h8 hX hok hn hd hd2 by_Om hl) x
end Go.Scarf
namespace Go.Scarf
open Go.RowKit Go.Proofs Go.Proofs.Tryz
theorem C_ {t : Str} (h : Ki t = true) : t ≠ [] := by
  rintro rfl
  revert h
  decide
theorem BK (m : Bool) (ind : Nat) (x : Tree) (d : Nat) (h : Yc x = true) : Ig m ind x d ≠ [] := by
  obtain ⟨k, t, ks, xs⟩ := x
  unfold Yc at h
  rw [Bool.and_eq_true] at h
  have h1 := (Uf h.2).1
  unfold rnodeB at h1
  rw [Bool.and_eq_true, decide_eq_true_eq] at h1
  obtain ⟨h7, h1⟩ := h1
  have h7' : k ≠ 7 := h7
  rw [Ig]
  split
  · simp
  split
  · rename_i h4
    subst h4
    simp [nodeB] at h1
    rw [qS, if_pos h1.2]; simp [Qt]
  split
  · simp [Pl]
  split
  · simp [Pl]
  · rename_i g1 g4 g5 g6
    simp only [nodeB, if_neg g5, if_neg g6, if_neg g1, if_neg g4, if_neg h7'] at h1
    split at h1
    · cases h1
    split at h1
    · rw [Bool.or_eq_true, decide_eq_true_eq, decide_eq_true_eq] at h1
      rcases h1 with rfl | rfl <;> simp
    split at h1
    · exact C_ h1
    · cases h1
theorem CF {x : Tree} (h : Yc x = true) : Yd nodeB x = true := by
  unfold Yc at h
  rw [Bool.and_eq_true] at h
  refine Tree.ind (Q := fun x => Yd rnodeB x = true → Yd nodeB x = true) (fun k t ks xs ih h => ?_) x h.2
  rw [Yd, Bool.and_eq_true] at h ⊢
  have h1 := h.1
  unfold rnodeB at h1
  rw [Bool.and_eq_true] at h1
  refine ⟨h1.2, ?_⟩
  have key : ∀ ys : List Tree, (∀ y ∈ ys, y ∈ xs) → Jp rnodeB ys = true → Jp nodeB ys = true := by
    intro ys
    induction ys with
    | nil => intro _ _; rfl
    | cons y ys ihy =>
      intro hm hs
      rw [Jp, Bool.and_eq_true] at hs ⊢
      exact ⟨ih y (hm y Sa) hs.1, ihy (fun z hz => hm z (by simp [hz])) hs.2⟩
  exact key xs (fun _ h => h) h.2
theorem Eo {x : Tree} (h : Yc x = true) : Wc x ≤ 32 := by
  unfold Yc Yj at h
  simp only [Bool.and_eq_true, decide_eq_true_eq] at h
  exact h.1.2
theorem BF (x : Tree) (S : Nat → Prop) (w0 : World) (cs : List Value) (rx : Rep S w0 (Gc x) cs) (hG : Gl w0) (hk : H5 x) (hq : TC x) (hsz : Ec x ≤ 1000000000) (hlim : Yc x = true → (Ig false 0 x 0).length ≤ 140737488355328) : Calls prog 55 #[.agg cs.toArray] w0 (Ce fun v w' => v = (if Yc x = true then .tuple #[.string (bs (Ig false 0 x 0)), .int .i64 0] else .tuple #[.string (bs []), .int .i64 1]) ∧ Same [] w0 w') := by
 have hl : cs.length = 4 := rx.length.trans (Ac x)
 have ho := rx.one_
 refine Ma func55 rfl ntmps55 Qb (Rc _) ?_
 have hF := FR.start w0 []
 refine Ha ?_
 refine Vf (v := .agg (List.toArray cs)) (cs := (List.toArray cs)) hF rfl rfl ?_
 clear hF; rintro b1 w hb1 hF -
 refine Ca (Ld rfl) (Ca (Kb rfl) (Da (Ia (Ha (Fa (v := .agg (List.toArray cs)) (Rb (l := cs) isAgg25 sizeOf25 rfl hl (hF.cellsAll 0 rfl)) ?_)))))
 refine Va hF (G4 x by_Om _ _ _ (hF.rep rx) hk (hG.ext hF.same)) (Ua BH rfl rfl) ?_
 clear hF; intro w hF
 refine Ca (Dm rfl) (Da ?_)
 refine Vh rfl rfl (fun hc0 => ?_) (fun hc0 => ?_)
 refine Ha (Ca (Ld rfl) (Ca (Kb rfl) (Da ?_)))
 refine Pb (Ob (Qa (Nd (v := .string (bs [])) (x := .int .i64 1) rfl rfl rfl) ?_))
 exact ⟨by rw [if_neg (by simpa using hc0)], hF.same⟩
 refine Ra (Ja (Ha ?_))
 refine Af (cs := #[.pointer none, .slice none 0 0, .bool false, .int .i64 0]) hF zeroValue113 rfl ?_
 clear hF; rintro b2 w hb2 hF -
 refine Yb (Fa (v := .agg (List.toArray cs)) (Rb (l := cs) isAgg25 sizeOf25 rfl hl (hF.cellsAll 1 rfl)) ?_)
 have hB : BW w0 [] w b2 b2 113 [.bool false, .int .i64 ((0 : Nat) : Int)] [] := BW.own ⟨.inr ⟨rfl, _, _, rfl⟩, Nat.le_refl _, _, _, hF.heap (i := 0) rfl, World.ownsRow_nil _ _ _ _, .inl rfl⟩ (hF.ge (i := 0) rfl) hF.same.size
 have nb1 : b1 ≠ b2 := AB hF.desc (i := 1) (j := 0) rfl rfl Oa
 have hge := hF.ge (i := 0) rfl
 replace hF : FR w0 [] [(b1, .cells cs.toArray 25)] w := hF.drop 1
 have hXo : Rep (fun b => b ∉ Wk w b2 b2) w (Gc x) cs := (rx.old.same hF.same Sa).weaken fun b hb _ hm => by have h1 := hb.2; rcases Wg.1 hm with rfl | ⟨-, h2, -⟩ <;> omega
 refine Zb (WK x false 0 0 _ b2 b2 [] cs hB.bd (hG.ext hF.same) (by have := hG.size; omega) hXo hq (CF (by simpa using hc0)) by_Om (by have := Eo (x := x) (by simpa using hc0); omega) (by simpa using hlim (by simpa using hc0))) (Ff QA rfl rfl rfl rfl) ?_
 rintro _ w ⟨rfl, hBd2, hE⟩
 replace hF := hF.wrote hB hE (by simp [Qj, nb1])
 replace hB := hB.wrote hBd2 hE
 clear hBd2 hE
 refine Yb (Ca (Fc Yi rfl) ?_)
 refine Zb (X6 hB.bd (by simpa using BK false 0 x 0 (by simpa using hc0))) (Ua UN rfl rfl) ?_
 rintro _ w ⟨rfl, hE⟩
 replace hF := hF.wrote hB hE (by simp [Qj, nb1])
 clear hE
 refine Ca (Ld rfl) (Ca (Kb rfl) (Da ?_))
 refine Pb (Ob (Qa (Nd (v := .string (bs ([] ++ Ig false 0 x 0))) (x := .int .i64 0) rfl rfl rfl) ?_))
 exact ⟨by rw [if_pos (by simpa using hc0)]; rfl, hF.same⟩
end Go.Scarf
