/- A part of the proof. -/
import Derived.Test.YtepbomjpbdbejaaGreatDoorFacts
import Derived.Test.YtepbomjpbdbejaaGreatDoorNum
import Derived.Lib.AppendStr
import Derived.Lib.Builder
import Derived.Lib.UnsafeStr
import Derived.LaidEqlPtr
import Derived.Test.YtepbomjpbdbejaaGreatDoorShelf
import Derived.Lib.RuneBytes
import Derived.Test.YtepbomjpbdbejaaGreatDoorW19
import Derived.Laws.BytesString
import Derived.Test.YtepbomjpbdbejaaGreatDoorW2
import Derived.Lib.TrimU
set_option linter.all false
set_option maxHeartbeats 8000000
set_option maxRecDepth 10000
namespace Go.Scarf
open Go.RowKit Go.Proofs Go.Proofs.Tryz
section
variable {P : Program} {w w' w0 : World} {Ds E : List Nat} {bs_ : List (Nat × Obj)}
def Rh : Obj → Bool
  | .cells _ e _ => e == 5
  | _ => false
def Eo (w : World) (b : Nat) : Bool := match w.heap[b]? with | some o => Rh o | none => false
def Wk (w : World) (B pb : Nat) : List Nat := pb :: (List.range w.heap.size).filter fun b => decide (B ≤ b) && Eo w b
theorem Re {B pb x : Nat} : x ∈ Wk w B pb ↔ x = pb ∨ (x < w.heap.size ∧ B ≤ x ∧ Eo w x = true) := by simp [Wk]
theorem Zn {b : Nat} {o : Obj} (h : w.heap[b]? = some o) : Eo w b = Rh o := by simp [Eo, h]
def Shp (T : Nat) (rest : List Value) : Prop := (T = 159 ∧ rest = []) ∨ (T = 161 ∧ ∃ m i, rest = [.bool m, .int .i64 i])
theorem Shp.ne {T : Nat} {rest : List Value} (h : Shp T rest) : (T == 5) = false := by rcases h with ⟨rfl, -⟩ | ⟨rfl, -⟩ <;> rfl
structure Bd (w : World) (B pb T : Nat) (rest : List Value) (s : Str) : Prop where
  shp : Shp T rest
  le : B ≤ pb
  ex : ∃ ap v, w.heap[pb]? = some (.cells (ap :: v :: rest).toArray T) ∧ w.ownsRow B 5 1 v s.length (Lib.byteCells s) ∧ (ap = .pointer none ∨ ap = .pointer (some ⟨pb, 0, none⟩))
theorem Bd.lt {B pb T : Nat} {rest : List Value} {s : Str} (h : Bd w B pb T rest s) : pb < w.heap.size := by
  obtain ⟨ap, v, hh, -⟩ := h.ex; exact Ea hh
theorem Bd.base {B pb T : Nat} {rest : List Value} {s : Str} (h : Bd w B pb T rest s) : B ≤ w.heap.size := Nat.le_trans h.le (Nat.le_of_lt h.lt)
theorem Ek {B n g : Nat} {v : Value} {xs : List Value} (h : w.ownsRow B 5 1 v n xs) (hg : v.ownBlock = some g) : g < w.heap.size ∧ B ≤ g ∧ Eo w g = true := by
  rcases h.2 with ⟨rfl, -⟩ | ⟨g', cap, cur, rfl, h1, h2, -⟩
  · cases hg
  · cases hg
    exact ⟨Ea h2, h1, by rw [Zn h2]; rfl⟩
theorem G0 {B n g pb : Nat} {v : Value} {xs : List Value} (h : w.ownsRow B 5 1 v n xs) (hg : v.ownBlock = some g) : g ∈ Wk w B pb := Re.2 (.inr (Ek h hg))
theorem In {B n g pb : Nat} {v : Value} {xs : List Value} {o : Obj} (h : w.ownsRow B 5 1 v n xs) (hg : v.ownBlock = some g) (hh : w.heap[pb]? = some o) (ho : Rh o = false) : g ≠ pb := by
  rintro rfl
  have h1 := (Ek h hg).2.2
  rw [Zn hh, ho] at h1; cases h1
theorem Mg {B n : Nat} {v : Value} {xs : List Value} (h : w.ownsRow B 5 1 v n xs) (hs : Same E w w') (he : ∀ g, v.ownBlock = some g → g ∉ E) : w'.ownsRow B 5 1 v n xs := by
  refine ⟨h.1, ?_⟩
  rcases h.2 with h2 | ⟨g, cap, cur, rfl, h1, h2, h3⟩
  · exact .inl h2
  · exact .inr ⟨g, cap, cur, rfl, h1, (hs.block g (Ea h2) (he g rfl)).trans h2, h3⟩
theorem Jf {B n : Nat} {v : Value} {xs : List Value} (h : w.ownsRow B 5 1 v n xs) : ∃ A c, v = .slice A n c := by
  rcases h.2 with ⟨rfl, rfl⟩ | ⟨g, cap, cur, rfl, -⟩
  · exact ⟨_, _, rfl⟩
  · exact ⟨_, _, rfl⟩
theorem Wk.step {B pb x : Nat} (hs : Same (Wk w B pb) w w') (hx : x ∈ Wk w' B pb) : x ∈ Wk w B pb ∨ w.heap.size ≤ x := by
  by_cases h : x < w.heap.size
  · by_cases hm : x ∈ Wk w B pb
    · exact .inl hm
    · rcases Re.1 hx with rfl | ⟨h1, h2, h3⟩
      · exact .inl (Re.2 (.inl rfl))
      · refine absurd (Re.2 (.inr ⟨h, h2, ?_⟩)) hm
        rw [Eo, ← hs.block x h hm]; exact h3
  · exact .inr by_Om
theorem FR.grown {g : Option Nat} (h : FR w0 Ds bs_ w) (hg : w.grownBy w' g) (hr : ∀ b, g = some b → (b < w0.heap.size → b ∈ Ds) ∧ ∀ p ∈ bs_, p.1 ≠ b) : FR w0 Ds bs_ w' := by
  have hs : Same g.toList w w' := ⟨hg.os, hg.tape, hg.output, hg.size, fun b hb hn => hg.block b hb (fun e => hn (by simp [← e]))⟩
  exact h.touch hs (fun b hb => hr b (by simpa using hb))
theorem Qk (s t : Str) : Lib.byteCells (s ++ t) = Lib.byteCells s ++ Lib.byteCells t := Lib.byteCells_append s t
end
section
variable {P : Program} {w : World} {ρ : Operand → Value} {dst : Option Nat} {ty : TypeId} {pos : String} {aft : Array Edge} {g : Option (Nat × Bool)}
theorem X7 {t t' te : Nat} {x y : Operand} (ht : P.underlying t = some (.pointer te)) (hx : ρ x = .pointer none) (hy : ρ y = .pointer none) :
    (execOp ρ ⟨dst, .binOp .eql t x y t', ty, pos, aft, g⟩).run P w = .ok (.value (.bool true)) w := by
  have h : ∀ d : Nat, (Op.equalIn (d + 1) t (.pointer none) (.pointer none)).run P w = .ok true w := fun d => by
    simp [Op.equalIn, run_underlying ht]
  have hg : (eqGuard .eql t x y (.pointer none) (.pointer none)).run P w = .ok () w := by unfold eqGuard; split <;> simp
  simp only [execOp, hx, hy, Sem.run_bind, hg, Result.andThen_ok, binOp]
  simp [Op.equal, Op.maxDepth, h 9999]
theorem Y7 {t t' te : Nat} {x y : Operand} {a : Addr} (ht : P.underlying t = some (.pointer te)) (hx : ρ x = .pointer (some a)) (hy : ρ y = .pointer none) :
    (execOp ρ ⟨dst, .binOp .eql t x y t', ty, pos, aft, g⟩).run P w = .ok (.value (.bool false)) w := by
  have h : ∀ d : Nat, (Op.equalIn (d + 1) t (.pointer (some a)) (.pointer none)).run P w = .ok false w := fun d => by
    simp [Op.equalIn, run_underlying ht]
  have hg : (eqGuard .eql t x y (.pointer (some a)) (.pointer none)).run P w = .ok () w := by unfold eqGuard; split <;> simp
  simp only [execOp, hx, hy, Sem.run_bind, hg, Result.andThen_ok, binOp]
  simp [Op.equal, Op.maxDepth, h 9999]
theorem MC {t t' te : Nat} {x y : Operand} {a : Addr} {j : TypeInfo} (ht : P.underlying t = some (.pointer te)) (hte : P.info? te = some j) (hx : ρ x = .pointer (some a)) (hy : ρ y = .pointer (some a)) :
    (execOp ρ ⟨dst, .binOp .neq t x y t', ty, pos, aft, g⟩).run P w = .ok (.value (.bool false)) w := by
  have h := Lib.run_neq_ptr_same w a ht hte
  have hg : (eqGuard .neq t x y (.pointer (some a)) (.pointer (some a))).run P w = .ok () w := by unfold eqGuard; split <;> simp
  simp only [execOp, hx, hy, Sem.run_bind, hg, Result.andThen_ok, h, Sem.run_pure]
theorem Ou {t t' : Nat} {x : Operand} {v : Value} (hx : ρ x = v) (h : (convert t t' v).run P w = .ok v w) : (execOp ρ ⟨dst, .convert t t' x, ty, pos, aft, g⟩).run P w = .ok (.value v) w := by
  simp [execOp, hx, h]
theorem GB {f : FuncId} {fn : Func} {e : Array Value → Sem Value} {x1 : Operand} {ats : Array TypeId} {v1 v : Value} (hf : P.funcs[f]? = some fn) (hname : (fn.name == "runtime.NumGoroutine") = false)
    (hb : fn.body.isNone = true) (hn : Extern.findNext fn = none) (he : Extern.find fn = some e) (h0 : ρ (.func f) = .func (.func f) #[] #[]) (h1 : ρ x1 = v1) (hr : (e #[v1]).run P w = .ok v w) :
    (execOp ρ ⟨dst, .call ⟨.value (.func f), #[x1], ats⟩, ty, pos, aft, g⟩).run P w = .ok (.value v) w := by
  simp [execOp, resolve, Deferred.ofValue, h0, h1, invoke, run_callFunc_extern hf hname hb hn he, hr]
theorem QG {x : Operand} {ats : Array TypeId} {a : Addr} {n c : Nat} (hx : ρ x = .slice (some a) n c) (hc : c ≠ 0) : (execOp ρ ⟨dst, .call ⟨.builtin .unsafeSliceData, #[x], ats⟩, ty, pos, aft, g⟩).run P w = .ok (.value (.pointer (some a))) w := by
  simp [execOp, resolve, invoke, builtin, hx, Lib.run_unsafeSliceData_row w ats ty a n c hc]
theorem UF {x y : Operand} {t1 t2 : Nat} {u v r : Value} {w' : World} (hx : ρ x = u) (hy : ρ y = v) (h : (Builtin.unsafeString_ #[t1, t2] ty #[u, v]).run P w = .ok r w') : (execOp ρ ⟨dst, .call ⟨.builtin .unsafeString, #[x, y], #[t1, t2]⟩, ty, pos, aft, g⟩).run P w = .ok (.value r) w' := by
  simp [execOp, resolve, invoke, builtin, hx, hy, h]
theorem X_ {x y : Operand} {t1 t2 : TypeId} {u v : Value} {r : Value} {w' : World} (hx : ρ x = u) (hy : ρ y = v) (h : (Builtin.append_ #[t1, t2] ty #[u, v]).run P w = .ok r w') :
    (execOp ρ ⟨dst, .call ⟨.builtin .append, #[x, y], #[t1, t2]⟩, ty, pos, aft, g⟩).run P w = .ok (.value r) w' := by
  simp [execOp, resolve, invoke, builtin, hx, hy, h]
end
section
variable {P : Program} {R : Exit → Act → World → Prop} {n : Nat} {kt : Kt} {s : Nat → Value} {w : World} {ops rest : List Oper}
variable {d : Nat} {ty : TypeId} {pos : String} {aft : Array Edge} {g : Option (Nat × Bool)}
variable {w0 : World} {Ds : List Nat} {bs_ : List (Nat × Obj)}
theorem AC {x y : Operand} {t B len c2 k : Nat} {v : Value} {xs news : List Value} {a : Addr} (hE : Elems P t 5 1 1)
    (hF : FR w0 Ds bs_ w) (hO : w.ownsRow B 5 1 v len xs) (hB : B ≤ w.heap.size) (hx : ev n s x = v) (hy : ev n s y = .slice (some a) k c2)
    (hl : news.length = k * 1) (hnews : ∀ j u, news[j]? = some u → w.cell? (a.add j) = some u) (h1 : ∀ u ∈ news, u.oneCell' = true) (hb : len + k ≤ 140737488355328)
    (hr : ∀ b, v.ownBlock = some b → (b < w0.heap.size → b ∈ Ds) ∧ ∀ p ∈ bs_, p.1 ≠ b)
    (h : ∀ v' w', w'.ownsRow B 5 1 v' (len + k) (xs ++ news) → FR w0 Ds bs_ w' → w.heap.size ≤ w'.heap.size → Og P R n ops kt rest (Ag s d v') w')
    (hw : Rb ops n s ⟨some d, .call ⟨.builtin .append, #[x, y], #[t, t]⟩, ty, pos, aft, g⟩ = true := by rfl) : Og P R n ops kt (⟨some d, .call ⟨.builtin .append, #[x, y], #[t, t]⟩, ty, pos, aft, g⟩ :: rest) s w := by
  obtain ⟨i, z, hi, hz, h2, h3, h4⟩ := hE.info
  obtain ⟨v', w', hr', hO', hg, -⟩ := run_append_own (P := P) w B t ty 5 i z 1 1 hE.ht hi hz h2 h3 h4 Qa v len xs hO a k c2 news hl hnews h1 (by unfold maxLen; omega) by_Om hB
  exact Ja (Uv hx hy hr') (h v' w' hO' (hF.grown hg hr) hg.size) hw
theorem ED {x y : Operand} {t u B len : Nat} {v : Value} {xs : List Value} {str : Str} (hE : Elems P t 5 1 1) (hz0 : (P.info? 5).map (·.zero) = some (some (.int .u8 0))) (hu : P.underlying u = some .string)
    (hF : FR w0 Ds bs_ w) (hO : w.ownsRow B 5 1 v len xs) (hB : B ≤ w.heap.size) (hx : ev n s x = v) (hy : ev n s y = .string (bs str)) (hb : len + str.length ≤ 140737488355328)
    (hr : ∀ b, v.ownBlock = some b → (b < w0.heap.size → b ∈ Ds) ∧ ∀ p ∈ bs_, p.1 ≠ b)
    (h : ∀ v' w', w'.ownsRow B 5 1 v' (len + str.length) (xs ++ Lib.byteCells str) → FR w0 Ds bs_ w' → w.heap.size ≤ w'.heap.size → Og P R n ops kt rest (Ag s d v') w')
    (hw : Rb ops n s ⟨some d, .call ⟨.builtin .append, #[x, y], #[t, u]⟩, ty, pos, aft, g⟩ = true := by rfl) : Og P R n ops kt (⟨some d, .call ⟨.builtin .append, #[x, y], #[t, u]⟩, ty, pos, aft, g⟩ :: rest) s w := by
  obtain ⟨i, z, hi, hz, h2, h3, h4⟩ := hE.info
  rw [hi] at hz0
  have hz1 : i.zero = some (.int .u8 0) := by simpa using hz0
  have e : (bs str).size = str.length := Ql str
  obtain ⟨v', w', hr', hO', hg, -⟩ := Lib.run_append_own_string (P := P) w B t u ty 5 i hE.ht hu hi hz1 h2 h3 v len xs hO (bs str) (by rw [e]; unfold maxLen; omega) (by rw [e]; omega) hB
  rw [e] at hO'
  exact Ja (X_ hx hy hr') (h v' w' (by simpa [Lib.strCells_eq, Im, bs] using hO') (hF.grown hg hr) hg.size) hw
end
end Go.Scarf
namespace Go.Scarf
open Go.RowKit Go.Proofs Go.Proofs.Tryz
theorem QC : liesAt prog prog.depth 159 (2 / prog.cellsOf 159) 0 159 1 = true := by kernel_rfl
theorem RC : liesAt prog prog.depth 161 (4 / prog.cellsOf 161) 0 159 1 = true := by kernel_rfl
theorem Oq : (prog.info? 159).map (·.size) = some 2 := by kernel_rfl
theorem J0 (w0 : World) (pb : Nat) (v : Value) (hh : w0.heap[pb]? = some (.cells #[.pointer none, v] 159)) : Calls prog 183 #[.pointer (some ⟨pb, 0, none⟩)] w0 (Kd fun v_ w' => v_ = .tuple #[] ∧ Same [pb] w0 w' ∧ w'.heap[pb]? = some (.cells #[.pointer (some ⟨pb, 0, none⟩), v] 159)) := by
 obtain ⟨j, hj, hjs⟩ := Option.map_eq_some_iff.1 Oq
 have hne : pb < w0.heap.size := Ea hh
 refine Ka func183 rfl ntmps183 Jb (Vc _) ?_
 have hF : FR w0 [pb] [(pb, .cells #[.pointer none, v] 159)] w0 := FR.open_ (by simpa using hh) Fa
 refine Ma (Ca (Ld rfl) (Ca (We rfl) (Ca (Ac Pj rfl) (Pd (JE isAgg156 rfl hF.F 0 rfl rfl) (Ja (v := .bool true) (X7 underlying156 rfl rfl) (Ha (He rfl (Da (Ca (Ld rfl) (Ca (Ld rfl) ?_))))))))))
 refine Ja (v := .pointer (some ⟨pb, 0, none⟩)) (Ou rfl (Lib.run_to_unsafe _ ⟨pb, 0, none⟩ underlying156 underlying239 hj (by rw [hjs]; decide) (e := 159) (cells := 2) (by simp [World.shape?, hF.heap (i := 0) rfl]) (Nat.zero_lt_succ _))) ?_
 refine Ja (v := .pointer (some ⟨pb, 0, none⟩)) (GB func219 Db Db Db (e := Extern.AbiNoEscape.same) Db rfl rfl (Lib.run_noEscape _ _)) ?_
 refine Ja (v := .pointer (some ⟨pb, 0, none⟩)) (Ou rfl (Lib.run_from_unsafe _ ⟨pb, 0, none⟩ underlying239 underlying156 hj (e := 159) (cells := 2) (by simp [World.shape?, hF.heap (i := 0) rfl]) QC)) ?_
 refine Ca (We rfl) (Ca (Ac Pj rfl) ?_)
 refine Vl (.pointer _) hF sizeOf156 rfl rfl Hl Hl ?_
 clear hF; rintro w hF -
 refine Wa ?_
 refine Nd (Lc (Oe rfl) ?_)
 exact ⟨rfl, hF.same, hF.heap (i := 0) rfl⟩
theorem X0 (w0 : World) (pb : Nat) (v : Value) (m : Bool) (i : Int) (hh : w0.heap[pb]? = some (.cells #[.pointer none, v, .bool (m), .int .i64 i] 161)) : Calls prog 183 #[.pointer (some ⟨pb, 0, none⟩)] w0 (Kd fun v_ w' => v_ = .tuple #[] ∧ Same [pb] w0 w' ∧ w'.heap[pb]? = some (.cells #[.pointer (some ⟨pb, 0, none⟩), v, .bool (m), .int .i64 i] 161)) := by
 obtain ⟨j, hj, hjs⟩ := Option.map_eq_some_iff.1 Oq
 have hne : pb < w0.heap.size := Ea hh
 refine Ka func183 rfl ntmps183 Jb (Vc _) ?_
 have hF : FR w0 [pb] [(pb, .cells #[.pointer none, v, .bool (m), .int .i64 i] 161)] w0 := FR.open_ (by simpa using hh) Fa
 refine Ma (Ca (Ld rfl) (Ca (We rfl) (Ca (Ac Pj rfl) (Pd (JE isAgg156 rfl hF.F 0 rfl rfl) (Ja (v := .bool true) (X7 underlying156 rfl rfl) (Ha (He rfl (Da (Ca (Ld rfl) (Ca (Ld rfl) ?_))))))))))
 refine Ja (v := .pointer (some ⟨pb, 0, none⟩)) (Ou rfl (Lib.run_to_unsafe _ ⟨pb, 0, none⟩ underlying156 underlying239 hj (by rw [hjs]; decide) (e := 161) (cells := 4) (by simp [World.shape?, hF.heap (i := 0) rfl]) (Nat.zero_lt_succ _))) ?_
 refine Ja (v := .pointer (some ⟨pb, 0, none⟩)) (GB func219 Db Db Db (e := Extern.AbiNoEscape.same) Db rfl rfl (Lib.run_noEscape _ _)) ?_
 refine Ja (v := .pointer (some ⟨pb, 0, none⟩)) (Ou rfl (Lib.run_from_unsafe _ ⟨pb, 0, none⟩ underlying239 underlying156 hj (e := 161) (cells := 4) (by simp [World.shape?, hF.heap (i := 0) rfl]) RC)) ?_
 refine Ca (We rfl) (Ca (Ac Pj rfl) ?_)
 refine Vl (.pointer _) hF sizeOf156 rfl rfl Hl Hl ?_
 clear hF; rintro w hF -
 refine Wa ?_
 refine Nd (Lc (Oe rfl) ?_)
 exact ⟨rfl, hF.same, hF.heap (i := 0) rfl⟩
theorem Wz (w0 : World) (pb : Nat) (v : Value) (hh : w0.heap[pb]? = some (.cells #[.pointer (some ⟨pb, 0, none⟩), v] 159)) : Calls prog 183 #[.pointer (some ⟨pb, 0, none⟩)] w0 (Kd fun v_ w' => v_ = .tuple #[] ∧ Same [pb] w0 w' ∧ w'.heap[pb]? = some (.cells #[.pointer (some ⟨pb, 0, none⟩), v] 159)) := by
 obtain ⟨j, hj, hjs⟩ := Option.map_eq_some_iff.1 Oq
 have hne : pb < w0.heap.size := Ea hh
 refine Ka func183 rfl ntmps183 Jb (Vc _) ?_
 have hF : FR w0 [pb] [(pb, .cells #[.pointer (some ⟨pb, 0, none⟩), v] 159)] w0 := FR.open_ (by simpa using hh) Fa
 refine Ma (Ca (Ld rfl) (Ca (We rfl) (Ca (Ac Pj rfl) (Pd (JE isAgg156 rfl hF.F 0 rfl rfl) (Ja (v := .bool false) (Y7 underlying156 rfl rfl) (Ha (Nf rfl (Ma (Ca (Ld rfl) (Ca (We rfl) ?_))))))))))
 refine Ca (Ac Pj rfl) (Pd (JE isAgg156 rfl hF.F 0 rfl rfl) (Ca (Ld rfl) (Ja (v := .bool false) (MC underlying156 hj rfl rfl) (Ha (Nf rfl (Xa ?_))))))
 refine Nd (Lc (Oe rfl) ?_)
 exact ⟨rfl, hF.same, hF.heap (i := 0) rfl⟩
theorem Qz (w0 : World) (pb : Nat) (v : Value) (m : Bool) (i : Int) (hh : w0.heap[pb]? = some (.cells #[.pointer (some ⟨pb, 0, none⟩), v, .bool (m), .int .i64 i] 161)) : Calls prog 183 #[.pointer (some ⟨pb, 0, none⟩)] w0 (Kd fun v_ w' => v_ = .tuple #[] ∧ Same [pb] w0 w' ∧ w'.heap[pb]? = some (.cells #[.pointer (some ⟨pb, 0, none⟩), v, .bool (m), .int .i64 i] 161)) := by
 obtain ⟨j, hj, hjs⟩ := Option.map_eq_some_iff.1 Oq
 have hne : pb < w0.heap.size := Ea hh
 refine Ka func183 rfl ntmps183 Jb (Vc _) ?_
 have hF : FR w0 [pb] [(pb, .cells #[.pointer (some ⟨pb, 0, none⟩), v, .bool (m), .int .i64 i] 161)] w0 := FR.open_ (by simpa using hh) Fa
 refine Ma (Ca (Ld rfl) (Ca (We rfl) (Ca (Ac Pj rfl) (Pd (JE isAgg156 rfl hF.F 0 rfl rfl) (Ja (v := .bool false) (Y7 underlying156 rfl rfl) (Ha (Nf rfl (Ma (Ca (Ld rfl) (Ca (We rfl) ?_))))))))))
 refine Ca (Ac Pj rfl) (Pd (JE isAgg156 rfl hF.F 0 rfl rfl) (Ca (Ld rfl) (Ja (v := .bool false) (MC underlying156 hj rfl rfl) (Ha (Nf rfl (Xa ?_))))))
 refine Nd (Lc (Oe rfl) ?_)
 exact ⟨rfl, hF.same, hF.heap (i := 0) rfl⟩
theorem Ei {w0 : World} {B pb T : Nat} {rest : List Value} {s : Str} (h : Bd w0 B pb T rest s) :
    ∃ v, w0.ownsRow B 5 1 v s.length (Lib.byteCells s) ∧ (∀ g, v.ownBlock = some g → g ∈ Wk w0 B pb ∧ g ≠ pb) ∧
      Calls prog 183 #[.pointer (some ⟨pb, 0, none⟩)] w0 (Kd fun u w' => u = .tuple #[] ∧ Same [pb] w0 w' ∧ w'.heap[pb]? = some (.cells (.pointer (some ⟨pb, 0, none⟩) :: v :: rest).toArray T) ∧ w'.ownsRow B 5 1 v s.length (Lib.byteCells s)) := by
  obtain ⟨hs, hle, ap, v, hh, hO, ha⟩ := h
  have hne : ∀ g, v.ownBlock = some g → g ≠ pb := fun g hg => In hO hg hh (by exact hs.ne)
  refine ⟨v, hO, fun g hg => ⟨G0 hO hg, hne g hg⟩, ?_⟩
  have fin : ∀ {u : Value} {w' : World}, (u = .tuple #[] ∧ Same [pb] w0 w' ∧ w'.heap[pb]? = some (.cells (.pointer (some ⟨pb, 0, none⟩) :: v :: rest).toArray T)) → (u = .tuple #[] ∧ Same [pb] w0 w' ∧ w'.heap[pb]? = some (.cells (.pointer (some ⟨pb, 0, none⟩) :: v :: rest).toArray T) ∧ w'.ownsRow B 5 1 v s.length (Lib.byteCells s)) :=
    fun ⟨h1, h2, h3⟩ => ⟨h1, h2, h3, Mg hO h2 (fun g hg => by simpa using hne g hg)⟩
  rcases hs with ⟨rfl, rfl⟩ | ⟨rfl, m, i, rfl⟩ <;> rcases ha with rfl | rfl
  · exact Sh (J0 w0 pb v hh) fun _ _ => fin
  · exact Sh (Wz w0 pb v hh) fun _ _ => fin
  · exact Sh (X0 w0 pb v m i hh) fun _ _ => fin
  · exact Sh (Qz w0 pb v m i hh) fun _ _ => fin
end Go.Scarf
namespace Go.Scarf
open Go.RowKit Go.Proofs Go.Proofs.Tryz
theorem Wx : (prog.info? 5).map (·.zero) = some (some (.int .u8 0)) := by kernel_rfl
theorem FR.addD {w0 w : World} {Ds : List Nat} {bs_ : List (Nat × Obj)} {b : Nat} {o : Obj} (h : FR w0 Ds bs_ w) (hh : w.heap[b]? = some o) (hd : w0.heap.size ≤ b ∨ b ∈ Ds) (hn : ∀ p ∈ bs_, p.1 ≠ b) : FR w0 Ds ((b, o) :: bs_) w :=
  ⟨h.same, fun p hp => by
    rcases List.mem_cons.1 hp with rfl | hp
    · exact ⟨hh, hd⟩
    · exact h.own p hp, List.pairwise_cons.2 ⟨fun q hq => hn q hq, h.desc⟩⟩
def Fi (r : Int) : Str := (Lib.encodeRuneZ r).map fun x => UInt8.ofNat x.toNat
theorem Cn (r : Int) : 1 ≤ (Fi r).length ∧ (Fi r).length ≤ 4 := by rw [Fi, List.length_map]; exact Lib.encodeRuneZ_length r
theorem Jg (r : Int) : Lib.byteCells (Fi r) = Lib.runeCells r := by
  rw [Fi, Lib.byteCells, Lib.runeCells, List.map_map]
  refine List.map_congr_left fun x hx => ?_
  have := Lib.encodeRuneZ_byte r x hx
  simp only [Function.comp_apply, Value.int.injEq, true_and, UInt8.toNat_ofNat']
  omega
theorem Tq {w : World} {B n : Nat} {v : Value} {xs : List Value} {r : Int} (hO : w.ownsRow B 5 1 v n xs) (h0 : -2147483648 ≤ r) (h1 : r ≤ 2147483647) (hn : n + 4 ≤ 140737488355328) (hB : B ≤ w.heap.size) :
    Calls prog 238 #[v, .int .i32 r] w (Kd fun v' w' => w'.ownsRow B 5 1 v' (n + (Fi r).length) (xs ++ Lib.byteCells (Fi r)) ∧ ∃ o, (w.alloc o).grownBy w' v.ownBlock) := by
  refine (utf8_AppendRune_plain B v n xs r h0 h1 w hO hn hB).mono fun e w' ⟨v', he, h2, h3⟩ => ⟨v', he, ?_, h3⟩
  have e1 : (Fi r).length = (Lib.runeCells r).length := by rw [← Jg, Lib.byteCells_length]
  rw [e1, Jg]; exact h2
def Nq (f : Nat) (args : Array Value) (u : Value) (w0 : World) (B pb T : Nat) (rest : List Value) (s : Str) : Prop :=
  Calls prog f args w0 (Kd fun v w' => v = u ∧ Bd w' B pb T rest s ∧ Same (Wk w0 B pb) w0 w')
theorem I4 (w0 : World) (B pb : Nat) (s : Str) (hB : Bd w0 B pb 159 [] s) (c : UInt8) (hl : s.length + 1 ≤ 140737488355328) : Nq 191 #[.pointer (some ⟨pb, 0, none⟩), .int .u8 ((c.toNat : Nat) : Int)] .nilIface w0 B pb 159 [] (s ++ [c]) := by
 unfold Nq
 refine Ka func191 rfl ntmps191 Jb (Td _ _) ?_
 obtain ⟨v, hO0, hv, hC⟩ := Ei hB
 have hle := hB.le
 have hBw := hB.base
 have hlt := hB.lt
 have hws := Nat.le_refl w0.heap.size
 have hvl : ∀ g, v.ownBlock = some g → g < w0.heap.size := fun g hg => (Ek hO0 hg).1
 obtain ⟨A1, c1, rfl⟩ := Jf hO0
 have hF := FR.start w0 (Wk w0 B pb)
 refine Ma (Ca (Ex) (Dc (Ca (Ld rfl) ?_)))
 refine Cb hC (Ib Xs rfl rfl) ?_
 rintro _ w ⟨rfl, hE, hh, hO⟩
 replace hws := Nat.le_trans hws hE.size
 replace hBw := Nat.le_trans hBw hE.size
 replace hF : FR w0 (Wk w0 B pb) [(pb, .cells #[.pointer (some ⟨pb, 0, none⟩), .slice A1 s.length c1] 159)] w := (hF.touch hE (fun b hb => by obtain rfl := List.mem_singleton.1 hb; exact ⟨fun _ => Re.2 (.inl rfl), by simp⟩)).addD hh (.inr (Re.2 (.inl rfl))) Fa
 clear hE hh
 refine Dc (Ca (Ld rfl) (Ca (Ld rfl) (Ca (We rfl) (Ca (Ac Vd rfl) (Pd (Xi isAgg157 rfl hF.F 0 rfl rfl) (Ca (Hb rfl) ?_))))))
 refine Hf 1 hF (Ta (cs := #[.int .u8 ((c.toNat : Nat))]) underlying157 sizeOf5 zeroValue5 Qa Qa Db) ?_
 clear hF; intro b1 w hb1 hF hE
 have nb1 : w0.heap.size ≤ b1 := by rw [hb1]; exact hws
 replace hws := Nat.le_trans hws hE.size
 replace hBw := Nat.le_trans hBw hE.size
 replace hO := Mg hO hE Fa
 clear hE
 refine AC (news := [.int .u8 ((c.toNat : Nat) : Int)]) Gz hF hO hBw rfl rfl rfl (Sb (hF.cellsAll 0 rfl)) (by simp [Value.oneCell']) by_Om (fun b hb => ⟨fun _ => (hv b hb).1, by have h1 := (hv b hb).2; have h2 := hvl b hb; intro p hp; simp only [List.mem_cons, List.not_mem_nil, or_false] at hp; rcases hp with rfl | rfl <;> grind⟩) ?_
 clear hF hO; intro v2 w hO hF hsz
 replace hws := Nat.le_trans hws hsz
 replace hBw := Nat.le_trans hBw hsz
 have hne2 : ∀ g, v2.ownBlock = some g → g ≠ pb := fun g hg => In hO hg (hF.heap (i := 1) rfl) rfl
 obtain ⟨A2, c2, rfl⟩ := Jf hO
 clear hsz
 refine Ca (We rfl) (Ca (Ac Vd rfl) ?_)
 refine Vl (.slice _ _ _) hF sizeOf157 rfl rfl G1 G1 ?_
 clear hF; intro w hF hE
 replace hws := Nat.le_trans hws hE.size
 replace hBw := Nat.le_trans hBw hE.size
 replace hO := Mg hO hE (fun g hg => by simpa using hne2 g hg)
 clear hE
 refine Dc (Ca (Ex) (Ha ?_))
 refine Le (v := .nilIface) rfl rfl ?_
 exact ⟨rfl, ⟨.inl ⟨rfl, rfl⟩, hle, _, _, hF.heap (i := 1) rfl, by simpa [Qk, Lib.byteCells, Jg] using hO, .inr rfl⟩, hF.same⟩
theorem Kx (w0 : World) (B pb : Nat) (s : Str) (hB : Bd w0 B pb 159 [] s) (t : Str) (hl : s.length + t.length ≤ 140737488355328) : Nq 154 #[.pointer (some ⟨pb, 0, none⟩), .string (bs t)] (.tuple #[.int .i64 ((t.length : Nat) : Int), .nilIface]) w0 B pb 159 [] (s ++ t) := by
 unfold Nq
 refine Ka func154 rfl ntmps154 Jb (Td _ _) ?_
 obtain ⟨v, hO0, hv, hC⟩ := Ei hB
 have hle := hB.le
 have hBw := hB.base
 have hlt := hB.lt
 have hws := Nat.le_refl w0.heap.size
 have hvl : ∀ g, v.ownBlock = some g → g < w0.heap.size := fun g hg => (Ek hO0 hg).1
 obtain ⟨A1, c1, rfl⟩ := Jf hO0
 have hF := FR.start w0 (Wk w0 B pb)
 refine Ma (Ca (Qc rfl) (Ca (Ex) (Dc (Ca (Ld rfl) ?_))))
 refine Cb hC (Ib Xs rfl rfl) ?_
 rintro _ w ⟨rfl, hE, hh, hO⟩
 replace hws := Nat.le_trans hws hE.size
 replace hBw := Nat.le_trans hBw hE.size
 replace hF : FR w0 (Wk w0 B pb) [(pb, .cells #[.pointer (some ⟨pb, 0, none⟩), .slice A1 s.length c1] 159)] w := (hF.touch hE (fun b hb => by obtain rfl := List.mem_singleton.1 hb; exact ⟨fun _ => Re.2 (.inl rfl), by simp⟩)).addD hh (.inr (Re.2 (.inl rfl))) Fa
 clear hE hh
 refine Dc (Ca (Ld rfl) (Ca (Ld rfl) (Ca (We rfl) (Ca (Ac Vd rfl) (Pd (Xi isAgg157 rfl hF.F 0 rfl rfl) (Ca (Ve rfl) ?_))))))
 refine ED (str := t) Gz Wx underlying9 hF hO hBw rfl rfl by_Om (fun b hb => ⟨fun _ => (hv b hb).1, by have h1 := (hv b hb).2; have h2 := hvl b hb; intro p hp; simp only [List.mem_cons, List.not_mem_nil, or_false] at hp; rcases hp with rfl <;> grind⟩) ?_
 clear hF hO; intro v2 w hO hF hsz
 replace hws := Nat.le_trans hws hsz
 replace hBw := Nat.le_trans hBw hsz
 have hne2 : ∀ g, v2.ownBlock = some g → g ≠ pb := fun g hg => In hO hg (hF.heap (i := 0) rfl) rfl
 obtain ⟨A2, c2, rfl⟩ := Jf hO
 clear hsz
 refine Ca (We rfl) (Ca (Ac Vd rfl) ?_)
 refine Vl (.slice _ _ _) hF sizeOf157 rfl rfl Hl G1 ?_
 clear hF; intro w hF hE
 replace hws := Nat.le_trans hws hE.size
 replace hBw := Nat.le_trans hBw hE.size
 replace hO := Mg hO hE (fun g hg => by simpa using hne2 g hg)
 clear hE
 refine Dc (Ca (Ve rfl) (Ca (X5 underlying9 rfl) (Ca (Qc rfl) (Ca (Ex) (Ha ?_)))))
 refine Wb (Vb (Ua (Wd (v := .int .i64 ((((t) : Str).length : Int))) (x := .nilIface) rfl rfl rfl) ?_))
 exact ⟨rfl, ⟨.inl ⟨rfl, rfl⟩, hle, _, _, hF.heap (i := 0) rfl, by simpa [Qk, Lib.byteCells, Jg] using hO, .inr rfl⟩, hF.same⟩
theorem F2 (w0 : World) (B pb : Nat) (s : Str) (hB : Bd w0 B pb 159 [] s) (r : Int) (hr0 : -2147483648 ≤ r) (hr1 : r ≤ 2147483647) (hl : s.length + 4 ≤ 140737488355328) : Nq 226 #[.pointer (some ⟨pb, 0, none⟩), .int .i32 r] (.tuple #[.int .i64 (((Fi r).length : Nat) : Int), .nilIface]) w0 B pb 159 [] (s ++ Fi r) := by
 unfold Nq
 have hrl := Cn r
 refine Ka func226 rfl ntmps226 Jb (Td _ _) ?_
 obtain ⟨v, hO0, hv, hC⟩ := Ei hB
 have hle := hB.le
 have hBw := hB.base
 have hlt := hB.lt
 have hws := Nat.le_refl w0.heap.size
 have hvl : ∀ g, v.ownBlock = some g → g < w0.heap.size := fun g hg => (Ek hO0 hg).1
 obtain ⟨A1, c1, rfl⟩ := Jf hO0
 have hF := FR.start w0 (Wk w0 B pb)
 refine Ma (Ca (Qc rfl) (Ca (Ex) (Dc (Ca (Ld rfl) ?_))))
 refine Cb hC (Ib Xs rfl rfl) ?_
 rintro _ w ⟨rfl, hE, hh, hO⟩
 replace hws := Nat.le_trans hws hE.size
 replace hBw := Nat.le_trans hBw hE.size
 replace hF : FR w0 (Wk w0 B pb) [(pb, .cells #[.pointer (some ⟨pb, 0, none⟩), .slice A1 s.length c1] 159)] w := (hF.touch hE (fun b hb => by obtain rfl := List.mem_singleton.1 hb; exact ⟨fun _ => Re.2 (.inl rfl), by simp⟩)).addD hh (.inr (Re.2 (.inl rfl))) Fa
 clear hE hh
 refine Dc (Ca (Ld rfl) (Ca (We rfl) (Ca (Ac Vd rfl) (Pd (Xi isAgg157 rfl hF.F 0 rfl rfl) (Ca (Ff underlying157 rfl) (Ca (Qc rfl) (Dc ?_)))))))
 refine Ca (Ld rfl) (Ca (Ld rfl) (Ca (We rfl) (Ca (Ac Vd rfl) (Pd (Xi isAgg157 rfl hF.F 0 rfl rfl) (Ca (Hb rfl) ?_)))))
 refine Cb (Tq hO hr0 hr1 by_Om hBw) (Kb EC rfl rfl rfl) ?_
 rintro v2 w2 ⟨hO2, o, hg⟩
 replace hF := (hF.ext (Same.alloc _ o)).grown hg (fun b hb => ⟨fun _ => (hv b hb).1, by have h1 := (hv b hb).2; have h2 := hvl b hb; intro p hp; simp only [List.mem_cons, List.not_mem_nil, or_false] at hp; rcases hp with rfl <;> grind⟩)
 have hsz := Nat.le_trans (Same.alloc _ o).size hg.size
 clear hO hg; revert hsz hF hO2; generalize w2 = w; intro hO hF hsz
 replace hws := Nat.le_trans hws hsz
 replace hBw := Nat.le_trans hBw hsz
 have hne2 : ∀ g, v2.ownBlock = some g → g ≠ pb := fun g hg => In hO hg (hF.heap (i := 0) rfl) rfl
 obtain ⟨A2, c2, rfl⟩ := Jf hO
 clear hsz
 refine Ca (We rfl) (Ca (Ac Vd rfl) ?_)
 refine Vl (.slice _ _ _) hF sizeOf157 rfl rfl Hl G1 ?_
 clear hF; intro w hF hE
 replace hws := Nat.le_trans hws hE.size
 replace hBw := Nat.le_trans hBw hE.size
 replace hO := Mg hO hE (fun g hg => by simpa using hne2 g hg)
 clear hE
 refine Dc (Ca (Ld rfl) (Ca (We rfl) (Ca (Ac Vd rfl) (Pd (Xi isAgg157 rfl hF.F 0 rfl rfl) (Ca (Ff underlying157 rfl) (Ca (Hb rfl) (Ca (Ju (((Fi r).length : Nat)) rfl rfl) (Ca (Qc rfl) (Ca (Ex) (Wa ?_))))))))))
 refine Ga ?_
 refine Wb (Vb (Ua (Wd (v := .int .i64 (((Fi r).length : Nat))) (x := .nilIface) rfl rfl rfl) ?_))
 exact ⟨rfl, ⟨.inl ⟨rfl, rfl⟩, hle, _, _, hF.heap (i := 0) rfl, by simpa [Qk, Lib.byteCells, Jg] using hO, .inr rfl⟩, hF.same⟩
theorem T3 (w0 : World) (B pb : Nat) (m : Bool) (i : Int) (s : Str) (hB : Bd w0 B pb 161 [.bool (m), .int .i64 i] s) (c : UInt8) (hl : s.length + 1 ≤ 140737488355328) : Nq 191 #[.pointer (some ⟨pb, 0, none⟩), .int .u8 ((c.toNat : Nat) : Int)] .nilIface w0 B pb 161 [.bool (m), .int .i64 i] (s ++ [c]) := by
 unfold Nq
 refine Ka func191 rfl ntmps191 Jb (Td _ _) ?_
 obtain ⟨v, hO0, hv, hC⟩ := Ei hB
 have hle := hB.le
 have hBw := hB.base
 have hlt := hB.lt
 have hws := Nat.le_refl w0.heap.size
 have hvl : ∀ g, v.ownBlock = some g → g < w0.heap.size := fun g hg => (Ek hO0 hg).1
 obtain ⟨A1, c1, rfl⟩ := Jf hO0
 have hF := FR.start w0 (Wk w0 B pb)
 refine Ma (Ca (Ex) (Dc (Ca (Ld rfl) ?_)))
 refine Cb hC (Ib Xs rfl rfl) ?_
 rintro _ w ⟨rfl, hE, hh, hO⟩
 replace hws := Nat.le_trans hws hE.size
 replace hBw := Nat.le_trans hBw hE.size
 replace hF : FR w0 (Wk w0 B pb) [(pb, .cells #[.pointer (some ⟨pb, 0, none⟩), .slice A1 s.length c1, .bool (m), .int .i64 i] 161)] w := (hF.touch hE (fun b hb => by obtain rfl := List.mem_singleton.1 hb; exact ⟨fun _ => Re.2 (.inl rfl), by simp⟩)).addD hh (.inr (Re.2 (.inl rfl))) Fa
 clear hE hh
 refine Dc (Ca (Ld rfl) (Ca (Ld rfl) (Ca (We rfl) (Ca (Ac Vd rfl) (Pd (Xi isAgg157 rfl hF.F 0 rfl rfl) (Ca (Hb rfl) ?_))))))
 refine Hf 1 hF (Ta (cs := #[.int .u8 ((c.toNat : Nat))]) underlying157 sizeOf5 zeroValue5 Qa Qa Db) ?_
 clear hF; intro b1 w hb1 hF hE
 have nb1 : w0.heap.size ≤ b1 := by rw [hb1]; exact hws
 replace hws := Nat.le_trans hws hE.size
 replace hBw := Nat.le_trans hBw hE.size
 replace hO := Mg hO hE Fa
 clear hE
 refine AC (news := [.int .u8 ((c.toNat : Nat) : Int)]) Gz hF hO hBw rfl rfl rfl (Sb (hF.cellsAll 0 rfl)) (by simp [Value.oneCell']) by_Om (fun b hb => ⟨fun _ => (hv b hb).1, by have h1 := (hv b hb).2; have h2 := hvl b hb; intro p hp; simp only [List.mem_cons, List.not_mem_nil, or_false] at hp; rcases hp with rfl | rfl <;> grind⟩) ?_
 clear hF hO; intro v2 w hO hF hsz
 replace hws := Nat.le_trans hws hsz
 replace hBw := Nat.le_trans hBw hsz
 have hne2 : ∀ g, v2.ownBlock = some g → g ≠ pb := fun g hg => In hO hg (hF.heap (i := 1) rfl) rfl
 obtain ⟨A2, c2, rfl⟩ := Jf hO
 clear hsz
 refine Ca (We rfl) (Ca (Ac Vd rfl) ?_)
 refine Vl (.slice _ _ _) hF sizeOf157 rfl rfl G1 G1 ?_
 clear hF; intro w hF hE
 replace hws := Nat.le_trans hws hE.size
 replace hBw := Nat.le_trans hBw hE.size
 replace hO := Mg hO hE (fun g hg => by simpa using hne2 g hg)
 clear hE
 refine Dc (Ca (Ex) (Ha ?_))
 refine Le (v := .nilIface) rfl rfl ?_
 exact ⟨rfl, ⟨.inr ⟨rfl, m, i, rfl⟩, hle, _, _, hF.heap (i := 1) rfl, by simpa [Qk, Lib.byteCells, Jg] using hO, .inr rfl⟩, hF.same⟩
theorem Hx (w0 : World) (B pb : Nat) (m : Bool) (i : Int) (s : Str) (hB : Bd w0 B pb 161 [.bool (m), .int .i64 i] s) (t : Str) (hl : s.length + t.length ≤ 140737488355328) : Nq 154 #[.pointer (some ⟨pb, 0, none⟩), .string (bs t)] (.tuple #[.int .i64 ((t.length : Nat) : Int), .nilIface]) w0 B pb 161 [.bool (m), .int .i64 i] (s ++ t) := by
 unfold Nq
 refine Ka func154 rfl ntmps154 Jb (Td _ _) ?_
 obtain ⟨v, hO0, hv, hC⟩ := Ei hB
 have hle := hB.le
 have hBw := hB.base
 have hlt := hB.lt
 have hws := Nat.le_refl w0.heap.size
 have hvl : ∀ g, v.ownBlock = some g → g < w0.heap.size := fun g hg => (Ek hO0 hg).1
 obtain ⟨A1, c1, rfl⟩ := Jf hO0
 have hF := FR.start w0 (Wk w0 B pb)
 refine Ma (Ca (Qc rfl) (Ca (Ex) (Dc (Ca (Ld rfl) ?_))))
 refine Cb hC (Ib Xs rfl rfl) ?_
 rintro _ w ⟨rfl, hE, hh, hO⟩
 replace hws := Nat.le_trans hws hE.size
 replace hBw := Nat.le_trans hBw hE.size
 replace hF : FR w0 (Wk w0 B pb) [(pb, .cells #[.pointer (some ⟨pb, 0, none⟩), .slice A1 s.length c1, .bool (m), .int .i64 i] 161)] w := (hF.touch hE (fun b hb => by obtain rfl := List.mem_singleton.1 hb; exact ⟨fun _ => Re.2 (.inl rfl), by simp⟩)).addD hh (.inr (Re.2 (.inl rfl))) Fa
 clear hE hh
 refine Dc (Ca (Ld rfl) (Ca (Ld rfl) (Ca (We rfl) (Ca (Ac Vd rfl) (Pd (Xi isAgg157 rfl hF.F 0 rfl rfl) (Ca (Ve rfl) ?_))))))
 refine ED (str := t) Gz Wx underlying9 hF hO hBw rfl rfl by_Om (fun b hb => ⟨fun _ => (hv b hb).1, by have h1 := (hv b hb).2; have h2 := hvl b hb; intro p hp; simp only [List.mem_cons, List.not_mem_nil, or_false] at hp; rcases hp with rfl <;> grind⟩) ?_
 clear hF hO; intro v2 w hO hF hsz
 replace hws := Nat.le_trans hws hsz
 replace hBw := Nat.le_trans hBw hsz
 have hne2 : ∀ g, v2.ownBlock = some g → g ≠ pb := fun g hg => In hO hg (hF.heap (i := 0) rfl) rfl
 obtain ⟨A2, c2, rfl⟩ := Jf hO
 clear hsz
 refine Ca (We rfl) (Ca (Ac Vd rfl) ?_)
 refine Vl (.slice _ _ _) hF sizeOf157 rfl rfl Hl G1 ?_
 clear hF; intro w hF hE
 replace hws := Nat.le_trans hws hE.size
 replace hBw := Nat.le_trans hBw hE.size
 replace hO := Mg hO hE (fun g hg => by simpa using hne2 g hg)
 clear hE
 refine Dc (Ca (Ve rfl) (Ca (X5 underlying9 rfl) (Ca (Qc rfl) (Ca (Ex) (Ha ?_)))))
 refine Wb (Vb (Ua (Wd (v := .int .i64 ((((t) : Str).length : Int))) (x := .nilIface) rfl rfl rfl) ?_))
 exact ⟨rfl, ⟨.inr ⟨rfl, m, i, rfl⟩, hle, _, _, hF.heap (i := 0) rfl, by simpa [Qk, Lib.byteCells, Jg] using hO, .inr rfl⟩, hF.same⟩
theorem Y3 (w0 : World) (B pb : Nat) (m : Bool) (i : Int) (s : Str) (hB : Bd w0 B pb 161 [.bool (m), .int .i64 i] s) (r : Int) (hr0 : -2147483648 ≤ r) (hr1 : r ≤ 2147483647) (hl : s.length + 4 ≤ 140737488355328) : Nq 226 #[.pointer (some ⟨pb, 0, none⟩), .int .i32 r] (.tuple #[.int .i64 (((Fi r).length : Nat) : Int), .nilIface]) w0 B pb 161 [.bool (m), .int .i64 i] (s ++ Fi r) := by
 unfold Nq
 have hrl := Cn r
 refine Ka func226 rfl ntmps226 Jb (Td _ _) ?_
 obtain ⟨v, hO0, hv, hC⟩ := Ei hB
 have hle := hB.le
 have hBw := hB.base
 have hlt := hB.lt
 have hws := Nat.le_refl w0.heap.size
 have hvl : ∀ g, v.ownBlock = some g → g < w0.heap.size := fun g hg => (Ek hO0 hg).1
 obtain ⟨A1, c1, rfl⟩ := Jf hO0
 have hF := FR.start w0 (Wk w0 B pb)
 refine Ma (Ca (Qc rfl) (Ca (Ex) (Dc (Ca (Ld rfl) ?_))))
 refine Cb hC (Ib Xs rfl rfl) ?_
 rintro _ w ⟨rfl, hE, hh, hO⟩
 replace hws := Nat.le_trans hws hE.size
 replace hBw := Nat.le_trans hBw hE.size
 replace hF : FR w0 (Wk w0 B pb) [(pb, .cells #[.pointer (some ⟨pb, 0, none⟩), .slice A1 s.length c1, .bool (m), .int .i64 i] 161)] w := (hF.touch hE (fun b hb => by obtain rfl := List.mem_singleton.1 hb; exact ⟨fun _ => Re.2 (.inl rfl), by simp⟩)).addD hh (.inr (Re.2 (.inl rfl))) Fa
 clear hE hh
 refine Dc (Ca (Ld rfl) (Ca (We rfl) (Ca (Ac Vd rfl) (Pd (Xi isAgg157 rfl hF.F 0 rfl rfl) (Ca (Ff underlying157 rfl) (Ca (Qc rfl) (Dc ?_)))))))
 refine Ca (Ld rfl) (Ca (Ld rfl) (Ca (We rfl) (Ca (Ac Vd rfl) (Pd (Xi isAgg157 rfl hF.F 0 rfl rfl) (Ca (Hb rfl) ?_)))))
 refine Cb (Tq hO hr0 hr1 by_Om hBw) (Kb EC rfl rfl rfl) ?_
 rintro v2 w2 ⟨hO2, o, hg⟩
 replace hF := (hF.ext (Same.alloc _ o)).grown hg (fun b hb => ⟨fun _ => (hv b hb).1, by have h1 := (hv b hb).2; have h2 := hvl b hb; intro p hp; simp only [List.mem_cons, List.not_mem_nil, or_false] at hp; rcases hp with rfl <;> grind⟩)
 have hsz := Nat.le_trans (Same.alloc _ o).size hg.size
 clear hO hg; revert hsz hF hO2; generalize w2 = w; intro hO hF hsz
 replace hws := Nat.le_trans hws hsz
 replace hBw := Nat.le_trans hBw hsz
 have hne2 : ∀ g, v2.ownBlock = some g → g ≠ pb := fun g hg => In hO hg (hF.heap (i := 0) rfl) rfl
 obtain ⟨A2, c2, rfl⟩ := Jf hO
 clear hsz
 refine Ca (We rfl) (Ca (Ac Vd rfl) ?_)
 refine Vl (.slice _ _ _) hF sizeOf157 rfl rfl Hl G1 ?_
 clear hF; intro w hF hE
 replace hws := Nat.le_trans hws hE.size
 replace hBw := Nat.le_trans hBw hE.size
 replace hO := Mg hO hE (fun g hg => by simpa using hne2 g hg)
 clear hE
 refine Dc (Ca (Ld rfl) (Ca (We rfl) (Ca (Ac Vd rfl) (Pd (Xi isAgg157 rfl hF.F 0 rfl rfl) (Ca (Ff underlying157 rfl) (Ca (Hb rfl) (Ca (Ju (((Fi r).length : Nat)) rfl rfl) (Ca (Qc rfl) (Ca (Ex) (Wa ?_))))))))))
 refine Ga ?_
 refine Wb (Vb (Ua (Wd (v := .int .i64 (((Fi r).length : Nat))) (x := .nilIface) rfl rfl rfl) ?_))
 exact ⟨rfl, ⟨.inr ⟨rfl, m, i, rfl⟩, hle, _, _, hF.heap (i := 0) rfl, by simpa [Qk, Lib.byteCells, Jg] using hO, .inr rfl⟩, hF.same⟩
end Go.Scarf
namespace Go.Scarf
open Go.RowKit Go.Proofs Go.Proofs.Tryz
theorem Wu : prog.cellsOf 5 = 1 := by kernel_rfl
theorem Same.freeze (w : World) (a : Addr) (n : Nat) : Same [a.block] w (w.freeze a n) := by
  have h := Lib.below_freeze (B := a.block) (Below.refl a.block w) (p := a) (Nat.le_refl _) n
  refine ⟨h.os, h.tape, h.output, h.size, fun b hb hn => ?_⟩
  have hn' : b ≠ a.block := by simpa using hn
  unfold World.freeze
  split
  · rfl
  · simp [Array.getElem?_modify, hn'.symm]
theorem HA (w0 : World) (B pb : Nat) (s : Str) (hB : Bd w0 B pb 159 [] s) (h0 : s ≠ []) : Calls prog 127 #[.pointer (some ⟨pb, 0, none⟩)] w0 (Kd fun v w' => v = .string (bs s) ∧ Same (Wk w0 B pb) w0 w') := by
  refine Ka func127 rfl ntmps127 Jb (Vc _) ?_
  obtain ⟨-, hle, ap, v, hh, hO, -⟩ := hB
  have hsl : s.length ≠ 0 := by simpa using h0
  obtain ⟨g, c1, cur, rfl, hbg, hg, hnc, hcm, hcs, htake⟩ : ∃ g cap cur, v = .slice (some ⟨g, 0, none⟩) s.length cap ∧ B ≤ g ∧ w0.heap[g]? = some (.cells cur 5 (0, 0)) ∧ s.length ≤ cap ∧ cap ≤ maxLen ∧ cur.size = cap * 1 ∧ cur.toList.take (s.length * 1) = Lib.byteCells s := by
    rcases hO.2 with ⟨_, hz⟩ | ⟨g, cap, cur, hv, r⟩
    · exact absurd hz hsl
    · exact ⟨g, cap, cur, hv, r⟩
  have hgm : g ∈ Wk w0 B pb := G0 hO rfl
  have hgn : g ≠ pb := In hO rfl hh (by rfl)
  have hF : FR w0 (Wk w0 B pb) [(pb, .cells #[ap, .slice (some ⟨g, 0, none⟩) s.length c1] 159)] w0 := (FR.start w0 (Wk w0 B pb)).addD hh (.inr (Re.2 (.inl rfl))) Fa
  refine Ia ?_
  refine Da ?_
  refine Ca (Ti rfl) ?_
  refine Wa ?_
  refine Ga ?_
  refine Ia ?_
  refine Yc [] (.free 0 (.free 1 (.free 2 (.free 3 (.free 5 (.free 6 (.free 7 (.free 8 (.free 9 (.act 4 (.act 10 (.free 11 .nil)))))))))))) hF ?_
  clear hF; intro w hF hE
  replace hg := (hE.block g (Ea hg) Fa).trans hg
  replace hO := Mg hO hE Fa
  clear hE
  refine ⟨fun wq => FR w0 (Wk w0 B pb) _ wq, hF, ?_⟩
  refine Eb rfl (Ld rfl) ?_
  refine Eb rfl (We rfl) ?_
  refine Eb rfl (Ac Vd rfl) ?_
  refine Tn rfl (Xi isAgg157 rfl C0 0 rfl rfl) ?_
  refine Eb rfl (Ld rfl) ?_
  refine Eb rfl (We rfl) ?_
  refine Eb rfl (Ac Vd rfl) ?_
  refine Tn rfl (Xi isAgg157 rfl C0 0 rfl rfl) ?_
  refine Eb rfl (Ff underlying157 rfl) ?_
  refine Cd rfl (QG rfl by_Om) hF ?_
  have hu : (Builtin.unsafeString_ #[196, 3] 9 #[.pointer (some ⟨g, 0, none⟩), .int .i64 s.length]).run prog w = .ok (.string (bs s)) (w.freeze ⟨g, 0, none⟩ s.length) := Lib.run_unsafeString_row w 196 3 9 5 underlying196 Wu g cur.size (by simp [World.shape?, hg]) s h0 by_Om (by simp only [maxLen] at hcm; omega) (fun j x hx => hO.cells (g := g) rfl j (.int .u8 x.toNat) (by simp [Lib.byteCells, hx]))
  have hEf : FR w0 (Wk w0 B pb) _ (w.freeze ⟨g, 0, none⟩ s.length) := hF.touch (Same.freeze w ⟨g, 0, none⟩ s.length) (fun b hb => by obtain rfl := List.mem_singleton.1 hb; exact ⟨fun _ => hgm, by simpa using hgn.symm⟩)
  refine Cd rfl (UF rfl rfl hu) hEf ?_
  replace hF := hEf
  refine Eb rfl (Ti rfl) ?_
  refine Cc ?_
  refine Ga ?_
  refine Le (v := .string (bs s)) rfl rfl ?_
  exact ⟨rfl, hF.same⟩
theorem RA (w0 : World) (B pb : Nat) (m : Bool) (i : Int) (s : Str) (hB : Bd w0 B pb 161 [.bool (m), .int .i64 i] s) (h0 : s ≠ []) : Calls prog 127 #[.pointer (some ⟨pb, 0, none⟩)] w0 (Kd fun v w' => v = .string (bs s) ∧ Same (Wk w0 B pb) w0 w') := by
  refine Ka func127 rfl ntmps127 Jb (Vc _) ?_
  obtain ⟨-, hle, ap, v, hh, hO, -⟩ := hB
  have hsl : s.length ≠ 0 := by simpa using h0
  obtain ⟨g, c1, cur, rfl, hbg, hg, hnc, hcm, hcs, htake⟩ : ∃ g cap cur, v = .slice (some ⟨g, 0, none⟩) s.length cap ∧ B ≤ g ∧ w0.heap[g]? = some (.cells cur 5 (0, 0)) ∧ s.length ≤ cap ∧ cap ≤ maxLen ∧ cur.size = cap * 1 ∧ cur.toList.take (s.length * 1) = Lib.byteCells s := by
    rcases hO.2 with ⟨_, hz⟩ | ⟨g, cap, cur, hv, r⟩
    · exact absurd hz hsl
    · exact ⟨g, cap, cur, hv, r⟩
  have hgm : g ∈ Wk w0 B pb := G0 hO rfl
  have hgn : g ≠ pb := In hO rfl hh (by rfl)
  have hF : FR w0 (Wk w0 B pb) [(pb, .cells #[ap, .slice (some ⟨g, 0, none⟩) s.length c1, .bool (m), .int .i64 i] 161)] w0 := (FR.start w0 (Wk w0 B pb)).addD hh (.inr (Re.2 (.inl rfl))) Fa
  refine Ia ?_
  refine Da ?_
  refine Ca (Ti rfl) ?_
  refine Wa ?_
  refine Ga ?_
  refine Ia ?_
  refine Yc [] (.free 0 (.free 1 (.free 2 (.free 3 (.free 5 (.free 6 (.free 7 (.free 8 (.free 9 (.act 4 (.act 10 (.free 11 .nil)))))))))))) hF ?_
  clear hF; intro w hF hE
  replace hg := (hE.block g (Ea hg) Fa).trans hg
  replace hO := Mg hO hE Fa
  clear hE
  refine ⟨fun wq => FR w0 (Wk w0 B pb) _ wq, hF, ?_⟩
  refine Eb rfl (Ld rfl) ?_
  refine Eb rfl (We rfl) ?_
  refine Eb rfl (Ac Vd rfl) ?_
  refine Tn rfl (Xi isAgg157 rfl C0 0 rfl rfl) ?_
  refine Eb rfl (Ld rfl) ?_
  refine Eb rfl (We rfl) ?_
  refine Eb rfl (Ac Vd rfl) ?_
  refine Tn rfl (Xi isAgg157 rfl C0 0 rfl rfl) ?_
  refine Eb rfl (Ff underlying157 rfl) ?_
  refine Cd rfl (QG rfl by_Om) hF ?_
  have hu : (Builtin.unsafeString_ #[196, 3] 9 #[.pointer (some ⟨g, 0, none⟩), .int .i64 s.length]).run prog w = .ok (.string (bs s)) (w.freeze ⟨g, 0, none⟩ s.length) := Lib.run_unsafeString_row w 196 3 9 5 underlying196 Wu g cur.size (by simp [World.shape?, hg]) s h0 by_Om (by simp only [maxLen] at hcm; omega) (fun j x hx => hO.cells (g := g) rfl j (.int .u8 x.toNat) (by simp [Lib.byteCells, hx]))
  have hEf : FR w0 (Wk w0 B pb) _ (w.freeze ⟨g, 0, none⟩ s.length) := hF.touch (Same.freeze w ⟨g, 0, none⟩ s.length) (fun b hb => by obtain rfl := List.mem_singleton.1 hb; exact ⟨fun _ => hgm, by simpa using hgn.symm⟩)
  refine Cd rfl (UF rfl rfl hu) hEf ?_
  replace hF := hEf
  refine Eb rfl (Ti rfl) ?_
  refine Cc ?_
  refine Ga ?_
  refine Le (v := .string (bs s)) rfl rfl ?_
  exact ⟨rfl, hF.same⟩
theorem Nl {w0 : World} {B pb T : Nat} {rest : List Value} {s : Str} (hB : Bd w0 B pb T rest s) (c : UInt8) (hl : s.length + 1 ≤ 140737488355328) : Nq 191 #[.pointer (some ⟨pb, 0, none⟩), .int .u8 ((c.toNat : Nat) : Int)] .nilIface w0 B pb T rest (s ++ [c]) := by
  rcases hB.shp with ⟨rfl, rfl⟩ | ⟨rfl, m, i, rfl⟩
  · exact I4 w0 B pb s hB c hl
  · exact T3 w0 B pb m i s hB c hl
theorem Uh {w0 : World} {B pb T : Nat} {rest : List Value} {s : Str} (hB : Bd w0 B pb T rest s) (t : Str) (hl : s.length + t.length ≤ 140737488355328) : Nq 154 #[.pointer (some ⟨pb, 0, none⟩), .string (bs t)] (.tuple #[.int .i64 ((t.length : Nat) : Int), .nilIface]) w0 B pb T rest (s ++ t) := by
  rcases hB.shp with ⟨rfl, rfl⟩ | ⟨rfl, m, i, rfl⟩
  · exact Kx w0 B pb s hB t hl
  · exact Hx w0 B pb m i s hB t hl
theorem I3 {w0 : World} {B pb T : Nat} {rest : List Value} {s : Str} (hB : Bd w0 B pb T rest s) (r : Int) (h0 : -2147483648 ≤ r) (h1 : r ≤ 2147483647) (hl : s.length + 4 ≤ 140737488355328) : Nq 226 #[.pointer (some ⟨pb, 0, none⟩), .int .i32 r] (.tuple #[.int .i64 (((Fi r).length : Nat) : Int), .nilIface]) w0 B pb T rest (s ++ Fi r) := by
  rcases hB.shp with ⟨rfl, rfl⟩ | ⟨rfl, m, i, rfl⟩
  · exact F2 w0 B pb s hB r h0 h1 hl
  · exact Y3 w0 B pb m i s hB r h0 h1 hl
theorem H4 {w0 : World} {B pb T : Nat} {rest : List Value} {s : Str} (hB : Bd w0 B pb T rest s) (h0 : s ≠ []) : Calls prog 127 #[.pointer (some ⟨pb, 0, none⟩)] w0 (Kd fun v w' => v = .string (bs s) ∧ Same (Wk w0 B pb) w0 w') := by
  rcases hB.shp with ⟨rfl, rfl⟩ | ⟨rfl, m, i, rfl⟩
  · exact HA w0 B pb s hB h0
  · exact RA w0 B pb m i s hB h0
structure BW (w0 : World) (Ds : List Nat) (w : World) (B pb T : Nat) (rest : List Value) (s : Str) : Prop where
  bd : Bd w B pb T rest s
  sub : ∀ x ∈ Wk w B pb, x < w0.heap.size → x ∈ Ds
  ge : w0.heap.size ≤ w.heap.size
section
variable {w0 w w' : World} {Ds E : List Nat} {bs_ : List (Nat × Obj)} {B pb T : Nat} {rest : List Value} {s t : Str}
theorem BW.start (h : Bd w0 B pb T rest s) : BW w0 (Wk w0 B pb) w0 B pb T rest s := ⟨h, fun x hx _ => hx, Nat.le_refl _⟩
theorem BW.own (h : Bd w B pb T rest s) (hb : w0.heap.size ≤ B) (hg : w0.heap.size ≤ w.heap.size) : BW w0 Ds w B pb T rest s :=
  ⟨h, fun x hx hl => by
    have := h.le
    rcases Re.1 hx with rfl | ⟨-, h2, -⟩ <;> omega, hg⟩
theorem BW.lt (h : BW w0 Ds w B pb T rest s) : pb < w.heap.size := h.bd.lt
theorem BW.wrote (h : BW w0 Ds w B pb T rest s) (hb : Bd w' B pb T rest t) (hs : Same (Wk w B pb) w w') : BW w0 Ds w' B pb T rest t :=
  ⟨hb, fun x hx hl => by
    rcases Wk.step hs hx with h1 | h1
    · exact h.sub x h1 hl
    · have := h.ge; omega, Nat.le_trans h.ge hs.size⟩
theorem FR.wrote (hF : FR w0 Ds bs_ w) (h : BW w0 Ds w B pb T rest s) (hs : Same (Wk w B pb) w w') (hb : ∀ p ∈ bs_, Rh p.2 = false ∧ p.1 ≠ pb) : FR w0 Ds bs_ w' :=
  hF.touch hs fun x hx => ⟨h.sub x hx, fun p hp e => by
    have h1 := hb p hp
    rcases Re.1 hx with h2 | ⟨-, -, h3⟩
    · exact h1.2 (e.trans h2)
    · rw [← e, Zn (hF.memHeap hp), h1.1] at h3; cases h3⟩
theorem Bd.same (h : Bd w B pb T rest s) (hs : Same E w w') (hp : pb ∉ E) (he : ∀ x ∈ E, Eo w x = false) : Bd w' B pb T rest s := by
  obtain ⟨h1, h2, ap, v, h3, h4, h5⟩ := h
  refine ⟨h1, h2, ap, v, (hs.block pb (Ea h3) hp).trans h3, Mg h4 hs (fun g hg hm => ?_), h5⟩
  have := (Ek h4 hg).2.2
  rw [he g hm] at this; cases this
theorem Bd.ext (h : Bd w B pb T rest s) (hs : Same [] w w') : Bd w' B pb T rest s := h.same hs Fa Fa
theorem BW.step (h : BW w0 Ds w B pb T rest s) (hs : Same E w w') (hp : pb ∉ E) (he : ∀ x ∈ E, Eo w x = false) (he' : ∀ x ∈ E, Eo w' x = false) : BW w0 Ds w' B pb T rest s :=
  ⟨h.bd.same hs hp he, fun x hx hl => by
    refine h.sub x (Re.2 ?_) hl
    have hl2 := Nat.lt_of_lt_of_le hl h.ge
    rcases Re.1 hx with rfl | ⟨-, h2, h3⟩
    · exact .inl rfl
    · refine .inr ⟨hl2, h2, ?_⟩
      have hn : x ∉ E := fun hm => by rw [he' x hm] at h3; cases h3
      rw [Eo, ← hs.block x hl2 hn]; exact h3, Nat.le_trans h.ge hs.size⟩
theorem BW.ext (h : BW w0 Ds w B pb T rest s) (hs : Same [] w w') : BW w0 Ds w' B pb T rest s := h.step hs Fa Fa Fa
theorem Rep.off {d : D} {cs : List Value} (h : Rep (fun x => x ∉ Wk w B pb) w d cs) (hs : Same (Wk w B pb) w w') : Rep (fun x => x ∉ Wk w' B pb) w' d cs :=
  ((h.old).same hs (fun b hb hn => hn.1 hb)).weaken fun x hx _ hm => by
    rcases Wk.step hs hm with h1 | h1
    · exact hx.1 h1
    · have := hx.2; omega
theorem Rep.off_ext {d : D} {cs : List Value} (h : Rep (fun x => x ∉ Wk w B pb) w d cs) (hp : pb < w.heap.size) (hs : Same [] w w') : Rep (fun x => x ∉ Wk w' B pb) w' d cs := h.off (hs.mono Fa)
end
end Go.Scarf
namespace Go.Scarf
open Go.RowKit Go.Proofs Go.Proofs.Tryz
section
variable {P : Program} {w : World} {ρ : Operand → Value} {dst : Option Nat} {ty : TypeId} {pos : String} {aft : Array Edge} {g : Option (Nat × Bool)}
theorem GC {t t' : TypeId} {x y : Operand} {k : IntKind} {a b c : Int} (hx : ρ x = .int k a) (hy : ρ y = .int k b) (h : bits .and k a b = c) :
    (execOp ρ ⟨dst, .binOp .and t x y t', ty, pos, aft, g⟩).run P w = .ok (.value (.int k c)) w := by
  simp [execOp, hx, hy, Jd, binOp, intBits_and, h]
theorem YF {t t' : TypeId} {x y : Operand} {k k2 : IntKind} {a c : Int} (m : Nat) (hx : ρ x = .int k a) (hy : ρ y = .int k2 m) (hm : m ≤ k.bits) (h : a.fdiv (2 ^ m) = c) :
    (execOp ρ ⟨dst, .binOp .shr t x y t', ty, pos, aft, g⟩).run P w = .ok (.value (.int k c)) w := by
  have hg : (eqGuard .shr t x y (.int k a) (.int k2 m)).run P w = .ok () w := by unfold eqGuard; simp
  have h0 : ¬ ((m : Int) < 0) := by omega
  simp [execOp, hx, hy, hg, binOp, Op.shift, h0, Nat.min_eq_left hm, h]
theorem Jq {t e N : Nat} {x y : Operand} {kk : IntKind} {b : Nat} (i : Nat) (ht : P.underlying t = some (.array N e)) (hs : ∀ w, (sizeOf e).run P w = .ok 1 w) (hx : ρ x = .pointer (some ⟨b, 0, none⟩)) (hy : ρ y = .int kk (i : Int)) (h1 : i < N) :
    (execOp ρ ⟨dst, .indexAddr t x y, ty, pos, aft, g⟩).run P w = .ok (.value (.pointer (some ⟨b, i, none⟩))) w := by
  have h2 : (0 : Int) ≤ (i : Int) ∧ (i : Int) < (N : Int) := by omega
  have e1 : (⟨b, 0, none⟩ : Addr).add i = ⟨b, i, none⟩ := by rw [Yh, Nat.zero_add]
  simp [execOp, hx, hy, Instr.indexAt, run_underlying ht, Instr.sureAddr, asIntOf, h2, hs, e1]
  intro hh; omega
theorem Z6 {t e N : Nat} {x y : Operand} {kk : IntKind} {b : Nat} (i : Nat) (ht : P.underlying t = some (.array N e)) (hs : ∀ w, (sizeOf e).run P w = .ok 1 w) (hx : ρ x = .pointer (some ⟨b, 0, none⟩)) (hy : ρ y = .int kk (i : Int)) (h1 : i < N) :
    (execOp ρ ⟨dst, .slice t x (some y) none none, ty, pos, aft, g⟩).run P w = .ok (.value (.slice (some ⟨b, i, none⟩) (N - i) (N - i))) w := by
  have h0 : ¬ N = i := by omega
  have e1 : (⟨b, 0, none⟩ : Addr).add i = ⟨b, i, none⟩ := by rw [Yh, Nat.zero_add]
  have e2 : (0 : Int) ≤ (i : Int) ∧ (i : Int) ≤ (N : Int) := by omega
  simp [execOp, hx, hy, Instr.sliceAt, run_underlying ht, Instr.sureAddr, Instr.sliceBounds, run_sliceBound, hs, e1, h0, e2]
theorem QB {t t' e : Nat} {x : Operand} {a : Addr} {n c : Nat} (s : Str) (ht : P.underlying t = some (.slice e)) (he : P.underlying e = some (.int .u8)) (hd : P.underlying t' = some .string) (hx : ρ x = .slice (some a) n c) (hn : s.length = n)
    (h : ∀ j (hj : j < s.length), w.cell? (a.add j) = some (.int .u8 (s[j].toNat : Int))) :
    (execOp ρ ⟨dst, .convert t t' x, ty, pos, aft, g⟩).run P w = .ok (.value (.string (bs s))) w := by
  have hl := Wl (P := P) a w ((s.map fun u => (u.toNat : Int)).map (Value.int .u8)) (m := n) (by simp [hn]) (fun j hj => by simp at hj ⊢; exact h j hj)
  have hb := run_bytesToString w a n c (s.map fun u => (u.toNat : Int)) hl
  have e1 : ∀ (l : Str) (acc : ByteArray), (l.map fun u => (u.toNat : Int)).foldl (fun r n => r.push (UInt8.ofNat n.toNat)) acc = ⟨acc.data ++ l.toArray⟩ := by
    intro l
    induction l with
    | nil => intro acc; simp
    | cons u l ih => intro acc; rw [List.map_cons, List.foldl_cons, ih]; simp [ByteArray.push]
  rw [e1] at hb
  simp [execOp, hx, run_convert_bytes_string w t t' e _ _ _ ht he hd, hb]
end
def M6 : List Value := List.replicate 65 (.int .u8 0)
def Sr : Str := [48, 49, 50, 51, 52, 53, 54, 55, 56, 57, 97, 98, 99, 100, 101, 102, 103, 104, 105, 106, 107, 108, 109, 110, 111, 112, 113, 114, 115, 116, 117, 118, 119, 120, 121, 122]
def dg (k : Nat) : UInt8 := Sr.getD k 0
def Zi (r : Nat) : Str := if r < 16 then [dg r] else [dg (r / 16), dg (r % 16)]
theorem Yt {k : Nat} (h : k < Sr.length) : Sr[k] = dg k := by simp [dg, h]
theorem TH : ∀ r < 32, IntKind.u64.wrap ((r : Nat) : Int) = r := by decide
theorem EK : ∀ u < 32, bits .and .u64 ((u : Nat) : Int) 15 = ((u % 16 : Nat) : Int) := by decide
theorem DI (w0 : World) (hG : Gl w0) : Calls prog 213 #[.int .u64 16] w0 (Kd fun v w' => v = .int .i64 4 ∧ Same [] w0 w') := by
 obtain ⟨e, fz, hbr⟩ := hG.bru
 refine Ka func213 rfl ntmps213 Jb (Vc _) ?_
 have hF := FR.start w0 []
 refine Ma (Ca (Qc rfl) (Ha (Ia (Ma (Ca (Hb rfl) (Ja (v := .bool false) (Id (Nh rfl rfl) Qa) (Ha (Nf rfl (Xa ?_)))))))))
 refine Ga (Ma (Ca (Hb rfl) (Ca (Hb rfl) (Ja (v := .int .u64 18446744073709551600) (UG rfl Qa) (Ja (v := .int .u64 16) (GC rfl rfl Qa) (Ja (v := .int .u64 4573923408821661840) (I2 rfl rfl Qa) (Ja (v := .int .u64 15) (YF 58 rfl rfl Qa Qa) (Ja (v := .pointer (some (⟨6, 15, none⟩))) (Jq 15 underlying257 sizeOf5 rfl rfl Qa) ?_))))))))
 refine Ja (v := .int .u8 4) (Va isAgg5 rfl (by rw [Fb (hF.heap0 hbr)]; rfl)) ?_
 refine Ja (v := .int .i64 4) (Tf underlying5 underlying3 rfl Qa) (Ca (Qc rfl) (Ha ?_))
 refine Le (v := .int .i64 4) rfl rfl ?_
 exact ⟨rfl, hF.same⟩
theorem LL (w0 : World) (hG : Gl w0) : Calls prog 170 #[.int .u64 16] w0 (Kd fun v w' => v = .int .i64 4 ∧ Same [] w0 w') := by
 refine Ka func170 rfl ntmps170 Jb (Vc _) ?_
 have hF := FR.start w0 []
 refine Ma (Ca (Qc rfl) (Ha (Ia (Sv rfl (Ma (Ca (Hb rfl) ?_))))))
 refine Pb hF (DI _ (hG.ext hF.same)) (Ib JI rfl rfl) ?_
 clear hF; intro w hF
 refine Ca (Qc rfl) (Ha ?_)
 refine Le (v := .int .i64 4) rfl rfl ?_
 exact ⟨rfl, hF.same⟩
theorem LI (w0 : World) : Calls prog 169 #[.int .i64 16] w0 (Kd fun v w' => v = .bool true ∧ Same [] w0 w') := by
 refine Ka func169 rfl ntmps169 Jb (Vc _) ?_
 have hF := FR.start w0 []
 refine Ma (Ca (Gc rfl) (Dc (Ca (Hb rfl) (Ca (Hb rfl) (Ja (v := .int .i64 15) (Tt rfl rfl Qa) (Ja (v := .int .i64 0) (GC rfl rfl Qa) (Ja (v := .bool true) (Pe (Nh rfl rfl) Qa) (Ca (Gc rfl) (Wa ?_)))))))))
 refine Ga ?_
 refine Le (v := .bool true) rfl rfl ?_
 exact ⟨rfl, hF.same⟩
theorem V0 (w0 : World) (hG : Gl w0) (r : Nat) (hr : r < 32) : Calls prog 136 #[.slice none 0 0, .int .u64 (r : Int), .int .i64 16, .bool false, .bool false] w0 (Kd fun v w' => v = .tuple #[.slice none 0 0, .string (bs (Zi r))] ∧ Same [] w0 w') := by
  refine Ka func136 rfl ntmps136 Jb (D6 _ _ _ _ _) ?_
  have hF := FR.start w0 []
  refine Ia ?_
  refine Da ?_
  refine Ca (Ji rfl) ?_
  refine Ca (Ti rfl) ?_
  refine Wa ?_
  refine Ga ?_
  refine Ia ?_
  refine Ia ?_
  refine Da ?_
  refine Ca (Hb rfl) ?_
  refine Ja (v := .bool false) (Id (K8 rfl rfl) Qa) ?_
  refine Ca (Ud rfl) ?_
  refine Ca (Hb rfl) ?_
  refine Ja (v := .bool false) (Id (Nh rfl rfl) Qa) ?_
  refine Ca (Md rfl rfl) ?_
  refine Ca (Ud rfl) ?_
  refine Ca (Hb rfl) ?_
  refine Ja (v := .bool false) (Id (D8 rfl rfl) Qa) ?_
  refine Ca (Md rfl rfl) ?_
  refine Wa ?_
  refine Ga ?_
  refine Nf rfl ?_
  refine Xa ?_
  refine Ga ?_
  refine Ia ?_
  refine Da ?_
  refine Zg (cs := (List.toArray M6)) hF zeroValue205 Db ?_
  clear hF; intro b1 w hb1 hF hE
  clear hE
  refine Wa ?_
  refine Ga ?_
  refine Ia ?_
  refine Da ?_
  refine Ca (Qc rfl) ?_
  refine Wa ?_
  refine Ga ?_
  refine Ia ?_
  refine Ia ?_
  refine Da ?_
  refine Ca (Ud rfl) ?_
  refine Wa ?_
  refine Ga ?_
  refine Nf rfl ?_
  refine Xa ?_
  refine Ga ?_
  refine Ia ?_
  refine Ia ?_
  refine Da ?_
  refine Ca (Hb rfl) ?_
  refine Pb hF (LI _) (Ib FI rfl rfl) ?_
  clear hF; intro w hF
  refine Wa ?_
  refine Ga ?_
  refine He rfl ?_
  refine Ia ?_
  refine Da ?_
  refine Ca (Hb rfl) ?_
  refine Ja (v := .int .u64 16) (Tf underlying3 underlying183 rfl Qa) ?_
  refine Pb hF (LL _ (hG.ext hF.same)) (Ib AI rfl rfl) ?_
  clear hF; intro w hF
  refine Ja (v := .int .u64 4) (Tf underlying3 underlying183 rfl Qa) ?_
  refine Ca (Qc rfl) ?_
  refine Wa ?_
  refine Ga ?_
  refine Ia ?_
  refine Da ?_
  refine Ca (Hb rfl) ?_
  refine Ja (v := .int .u64 16) (Tf underlying3 underlying169 rfl Qa) ?_
  refine Ca (Qc rfl) ?_
  refine Wa ?_
  refine Ga ?_
  refine Ia ?_
  refine Da ?_
  refine Ca (Hb rfl) ?_
  refine Ja (v := .int .u64 16) (Tf underlying3 underlying183 rfl Qa) ?_
  refine Ja (v := .int .u64 15) (Tt rfl rfl Qa) ?_
  refine Ca (Qc rfl) ?_
  refine Wa ?_
  refine Ga ?_
  refine Ia ?_
  refine Za ?_
  refine Uc (fun μ σ w => ∃ (u : Nat), ∃ (i : Nat), ∃ (cs : List Value), μ = 2 * u ∧ ((u = r ∧ i = 65 ∧ cs = M6) ∨ (16 ≤ r ∧ u = r / 16 ∧ i = 64 ∧ cs = M6.set 64 (.int .u8 ((dg (r % 16)).toNat : Int)))) ∧ AllEq σ [(0, .slice none 0 0), (1, .int .u64 ((u : Int))), (3, .bool false), (4, .bool false), (10, .slice none 0 0), (11, .string (bs [])), (12, .pointer (some ⟨b1, 0, none⟩)), (13, .int .i64 ((i : Int))), (14, .int .u64 4), (15, .int .u64 16), (16, .int .u64 15)] ∧ FR w0 [] [(b1, .cells (List.toArray cs) 205)] w) _ ⟨r, 65, M6, rfl, (.inl ⟨rfl, rfl, rfl⟩), ⟨rfl, rfl, rfl, rfl, rfl, rfl, rfl, rfl, rfl, rfl, rfl, trivial⟩, hF⟩ ?_
  clear hF; rintro μ σ w ⟨u, i, cs, rfl, hI, hs, hF⟩
  refine Cg.slots hs ?_
  clear hs; intro σ
  have hcl : cs.length = 65 := by rcases hI with ⟨-, -, rfl⟩ | ⟨-, -, -, rfl⟩ <;> simp [M6]
  have hu32 : u < 32 := by omega
  refine Ia ?_
  refine Ia ?_
  refine Da ?_
  refine Ca (Hb rfl) ?_
  refine Ca (Hb rfl) ?_
  refine Ca (CC rfl rfl) ?_
  refine Wa ?_
  refine Ga ?_
  refine Jc rfl rfl (fun hc3 => ?_) (fun hc3 => ?_)
  ·
    refine Xa ?_
    refine Ga ?_
    refine Za ?_
    refine Ia ?_
    refine Da ?_
    refine Ca (Hb rfl) ?_
    refine Ca (Ju (((64 : Nat) : Int)) rfl rfl) ?_
    refine Ca (Qc rfl) ?_
    refine Wa ?_
    refine Ga ?_
    refine Ia ?_
    refine Da ?_
    refine Ca (Hb rfl) ?_
    refine Ca (Hb rfl) ?_
    refine Ca (Hb rfl) ?_
    refine Ja (v := .int .u64 (((u % 16 : Nat) : Int))) (GC rfl rfl (EK u by_Om)) ?_
    refine Ja (v := .int .u8 (((dg (u % 16)).toNat : Int))) (by rw [← Yt (show u % 16 < Sr.length by show u % 16 < 36; omega)]; exact Ug (u % 16) underlying9 rfl rfl _) ?_
    refine Ja (v := .pointer (some ⟨b1, 64, none⟩)) (Jq 64 underlying205 sizeOf5 rfl rfl Qa) ?_
    refine Xf 0 (l := [.int .u8 (((dg (u % 16)).toNat : Nat) : Int)]) (cs' := (List.toArray (cs.set 64 (.int .u8 (((dg (u % 16)).toNat : Nat) : Int))))) hF sizeOf5 rfl (v := .int .u8 (((dg (u % 16)).toNat : Nat) : Int)) rfl rfl Ad rfl (by simp [hcl] <;> omega) (by simp [Di]) ?_
    clear hF; intro w hF hE
    clear hE
    replace hF : FR w0 [] [(b1, .cells (List.toArray (cs.set 64 (.int .u8 (((dg (u % 16)).toNat : Nat) : Int)))) 205)] w := hF
    refine Wa ?_
    refine Ga ?_
    refine Da ?_
    refine Ca (Hb rfl) ?_
    refine Ca (Hb rfl) ?_
    refine Ja (v := .int .u64 (((u / 16 : Nat) : Int))) (YF 4 rfl rfl Qa (by rw [Int.fdiv_eq_ediv_of_nonneg _ Qa]; omega)) ?_
    refine Ca (Qc rfl) ?_
    refine Wa ?_
    refine Mb ?_
    refine Fc ⟨_, ?_, u / 16, 64, cs.set 64 (.int .u8 (((dg (u % 16)).toNat : Nat) : Int)), rfl, (.inr (by rcases hI with ⟨rfl, rfl, rfl⟩ | ⟨h16, rfl, rfl, rfl⟩ <;> first | omega | exact ⟨by omega, rfl, rfl, rfl⟩)), ⟨rfl, rfl, rfl, rfl, rfl, rfl, rfl, rfl, rfl, rfl, rfl, trivial⟩, hF⟩
    omega
  ·
    refine Oc (Mc rfl ?_)
    refine Ga ?_
    refine Ia ?_
    refine Da ?_
    refine Ca (Hb rfl) ?_
    refine Ca (Ju (((i - 1 : Nat) : Int)) rfl rfl) ?_
    refine Ca (Qc rfl) ?_
    refine Wa ?_
    refine Ga ?_
    refine Da ?_
    refine Ca (Hb rfl) ?_
    refine Ca (Hb rfl) ?_
    refine Ja (v := .int .u8 (((dg u).toNat : Int))) (by rw [← Yt (show u < Sr.length by show u < 36; omega)]; exact Ug u underlying9 rfl rfl _) ?_
    refine Ja (v := .pointer (some ⟨b1, (i - 1), none⟩)) (Jq (i - 1) underlying205 sizeOf5 rfl rfl by_Om) ?_
    refine Xf 0 (l := [.int .u8 (((dg (u)).toNat : Nat) : Int)]) (cs' := (List.toArray (cs.set (i - 1) (.int .u8 (((dg (u)).toNat : Nat) : Int))))) hF sizeOf5 rfl (v := .int .u8 (((dg (u)).toNat : Nat) : Int)) rfl rfl Ad rfl (by simp [hcl] <;> omega) (by simp [Di]) ?_
    clear hF; intro w hF hE
    clear hE
    replace hF : FR w0 [] [(b1, .cells (List.toArray (cs.set (i - 1) (.int .u8 (((dg (u)).toNat : Nat) : Int)))) 205)] w := hF
    refine Wa ?_
    refine Ga ?_
    refine Ia ?_
    refine Ia ?_
    refine Da ?_
    refine Ca (Ud rfl) ?_
    refine Wa ?_
    refine Ga ?_
    refine Nf rfl ?_
    refine Xa ?_
    refine Ga ?_
    refine Ia ?_
    refine Ia ?_
    refine Da ?_
    refine Ca (Ud rfl) ?_
    refine Wa ?_
    refine Ga ?_
    refine Nf rfl ?_
    refine Xa ?_
    refine Ga ?_
    refine Ia ?_
    refine Da ?_
    refine Ca (Hb rfl) ?_
    refine Ja (v := .slice (some ⟨b1, i - 1, none⟩) (65 - (i - 1)) (65 - (i - 1))) (Z6 (i - 1) underlying205 sizeOf5 rfl rfl by_Om) ?_
    have hfin : (Zi r).length = 65 - (i - 1) ∧ ∀ j (hj : j < (Zi r).length), w.cell? ((⟨b1, i - 1, none⟩ : Addr).add j) = some (.int .u8 ((Zi r)[j].toNat : Int)) := by
      have hh := hF.heap (i := 0) rfl
      rcases hI with ⟨rfl, rfl, rfl⟩ | ⟨h16, rfl, rfl, rfl⟩
      · have h1 : Zi u = [dg u] := by rw [Zi, if_pos by_Om]
        refine ⟨by rw [h1]; rfl, fun j hj => ?_⟩
        have hj0 : j = 0 := by rw [h1] at hj; simpa using hj
        subst hj0
        rw [Yh, Fb hh]; simp [h1, M6]
      · have h1 : Zi r = [dg (r / 16), dg (r % 16)] := by rw [Zi, if_neg by_Om]
        refine ⟨by rw [h1]; rfl, fun j hj => ?_⟩
        have hj2 : j = 0 ∨ j = 1 := by rw [h1] at hj; simp at hj; omega
        rw [Yh, Fb hh]
        rcases hj2 with rfl | rfl <;> simp [h1, M6]
    refine Ja (v := .string (bs (Zi r))) (QB (Zi r) underlying157 underlying5 underlying9 rfl hfin.1 hfin.2) ?_
    refine Ca (Ti rfl) ?_
    refine Wa ?_
    refine Ga ?_
    refine Wb (Vb (Ua (Wd (v := .slice _ _ _) (x := .string (bs (Zi r))) rfl rfl rfl) ?_))
    exact ⟨rfl, hF.same⟩
theorem ZD (w0 : World) (hG : Gl w0) (r : Nat) (hr : r < 32) : Calls prog 106 #[.int .i64 (r : Int), .int .i64 16] w0 (Kd fun v w' => v = .string (bs (Zi r)) ∧ Same [] w0 w') := by
 refine Ka func106 rfl ntmps106 Jb (Td _ _) ?_
 have hF := FR.start w0 []
 refine Ma (Ca (Ti rfl) (Ha (Ia (Ma (Ca (Hb rfl) (Ja (v := .bool false) (Id (Nh rfl rfl) Qa) (Ha (Nf rfl (Xa ?_)))))))))
 refine Ga (Ma (Ca (Hb rfl) (Ja (v := .int .u64 ((r : Int))) (Tf underlying2 underlying169 rfl (TH r hr)) (Ca (Hb rfl) (Ca (Hb rfl) (Ja (v := .bool false) (Id (K8 rfl rfl) by_Om) ?_))))))
 refine Pb hF (V0 _ (hG.ext hF.same) r hr) (Yr XH rfl rfl rfl rfl rfl rfl) ?_
 clear hF; intro w hF
 refine Ca (Hn rfl) (Ca (O4 rfl rfl) (Ca (G_ rfl rfl) (Ca (Ji rfl) (Ca (Ti rfl) (Dc (Ca (Ve rfl) (Ca (Ti rfl) (Ha ?_))))))))
 refine Le (v := .string (bs (Zi r))) rfl rfl ?_
 exact ⟨rfl, hF.same⟩
theorem BK (w0 : World) (hG : Gl w0) (r : Nat) (hr : r < 32) : Calls prog 227 #[.int .i64 (r : Int), .int .i64 16] w0 (Kd fun v w' => v = .string (bs (Zi r)) ∧ Same [] w0 w') := by
 refine Ka func227 rfl ntmps227 Jb (Td _ _) ?_
 have hF := FR.start w0 []
 refine Ma (Ca (Ti rfl) (Dc (Ca (Hb rfl) (Ca (Hb rfl) ?_))))
 refine Pb hF (ZD _ (hG.ext hF.same) r hr) (Kb FH rfl rfl rfl) ?_
 clear hF; intro w hF
 refine Ca (Ti rfl) (Ha ?_)
 refine Le (v := .string (bs (Zi r))) rfl rfl ?_
 exact ⟨rfl, hF.same⟩
def Me (r : Int) : Int := if r = 34 then 34 else if r = 92 then 92 else if r = 8 then 98 else if r = 12 then 102 else if r = 10 then 110 else if r = 13 then 114 else if r = 9 then 116 else 0
theorem JD (w0 : World) (r : Int) : Calls prog 225 #[.int .i32 r] w0 (Kd fun v w' => v = .int .u8 (Me r) ∧ Same [] w0 w') := by
 refine Ka func225 rfl ntmps225 Jb (Vc _) ?_
 have hF := FR.start w0 []
 refine Ma (Ca (Qc rfl) (Ha (Ia (Ma (Ca (Hb rfl) (Ha (Za (Ia (Ia ?_)))))))))
 refine Da (Ca (Un rfl rfl) (Ca (Gc rfl) (Ha ?_)))
 refine Jc rfl rfl (fun hc0 => ?_) (fun hc0 => ?_)
 refine Xa (Ga (He rfl (Ma (Ca (Hb rfl) ?_))))
 refine Ja (v := .int .u8 (Me r)) (Tf underlying21 underlying5 rfl (by rcases (by first | exact .inl (by assumption) | exact .inr (by assumption) : r = 34 ∨ r = 92) with rfl | rfl <;> decide)) ?_
 refine Ca (Qc rfl) (Ha ?_)
 refine Le (v := .int .u8 (Me r)) rfl rfl ?_
 refine ⟨?_, hF.same⟩; simp_all [Me]
 refine Da (Ca (Un rfl rfl) (Ca (Gc rfl) (Ha ?_)))
 refine Jc rfl rfl (fun hc1 => ?_) (fun hc1 => ?_)
 refine Ma (Ca (Hb rfl) ?_)
 refine Ja (v := .int .u8 (Me r)) (Tf underlying21 underlying5 rfl (by rcases (by first | exact .inl (by assumption) | exact .inr (by assumption) : r = 34 ∨ r = 92) with rfl | rfl <;> decide)) ?_
 refine Ca (Qc rfl) (Ha ?_)
 refine Le (v := .int .u8 (Me r)) rfl rfl ?_
 refine ⟨?_, hF.same⟩; simp_all [Me]
 refine Ma (Ca (Un rfl rfl) (Ca (Gc rfl) (Ha ?_)))
 refine Jc rfl rfl (fun hc2 => ?_) (fun hc2 => ?_)
 refine Ma (Ca (Qc rfl) (Ha ?_))
 refine Le (v := .int .u8 98) rfl rfl ?_
 refine ⟨?_, hF.same⟩; simp_all [Me]
 refine Ma (Ca (Un rfl rfl) (Ca (Gc rfl) (Ha ?_)))
 refine Jc rfl rfl (fun hc3 => ?_) (fun hc3 => ?_)
 refine Ma (Ca (Qc rfl) (Ha ?_))
 refine Le (v := .int .u8 102) rfl rfl ?_
 refine ⟨?_, hF.same⟩; simp_all [Me]
 refine Ma (Ca (Un rfl rfl) (Ca (Gc rfl) (Ha ?_)))
 refine Jc rfl rfl (fun hc4 => ?_) (fun hc4 => ?_)
 refine Ma (Ca (Qc rfl) (Ha ?_))
 refine Le (v := .int .u8 110) rfl rfl ?_
 refine ⟨?_, hF.same⟩; simp_all [Me]
 refine Ma (Ca (Un rfl rfl) (Ca (Gc rfl) (Ha ?_)))
 refine Jc rfl rfl (fun hc5 => ?_) (fun hc5 => ?_)
 refine Ma (Ca (Qc rfl) (Ha ?_))
 refine Le (v := .int .u8 114) rfl rfl ?_
 refine ⟨?_, hF.same⟩; simp_all [Me]
 refine Ma (Ca (Un rfl rfl) (Ca (Gc rfl) (Ha ?_)))
 refine Jc rfl rfl (fun hc6 => ?_) (fun hc6 => ?_)
 refine Ma (Ca (Qc rfl) (Ha ?_))
 refine Le (v := .int .u8 116) rfl rfl ?_
 refine ⟨?_, hF.same⟩; simp_all [Me]
 refine Xa (Mb (Ga (Ma (Ca (Qc rfl) (Ha ?_)))))
 refine Le (v := .int .u8 0) rfl rfl ?_
 refine ⟨?_, hF.same⟩; simp_all [Me]
end Go.Scarf
namespace Go.Scarf
open Go.RowKit Go.Proofs Go.Proofs.Tryz
def Bt (r : Nat) : Str := if Me r ≠ 0 then [92, UInt8.ofNat (Me r).toNat] else if 32 ≤ r then Fi r else [92, 117] ++ Lib.repeatL [48] (4 - (Zi r).length) ++ Zi r
def Fu : Nat → Str → Nat → Str
  | 0, _, _ => []
  | f + 1, s, p => if p < s.length then Bt (Utf8.decode (bs s) p).1 ++ Fu f s (p + (Utf8.decode (bs s) p).2) else []
theorem S8 : ∀ (f g : Nat) (s : Str) (p : Nat), s.length - p ≤ f → s.length - p ≤ g → Fu f s p = Fu g s p
  | 0, 0, _, _, _, _ => rfl
  | 0, g + 1, s, p, h, _ => by rw [Fu, Fu, if_neg by_Om]
  | f + 1, 0, s, p, _, h => by rw [Fu, Fu, if_neg by_Om]
  | f + 1, g + 1, s, p, h1, h2 => by
    rw [Fu, Fu]
    split
    · have h3 := Ye s p
      rw [S8 f g s _ by_Om by_Om]
    · rfl
def Pp (s : Str) (p : Nat) : Str := Fu (s.length - p) s p
theorem Um {s : Str} {p : Nat} (h : p < s.length) : Pp s p = Bt (Utf8.decode (bs s) p).1 ++ Pp s (p + (Utf8.decode (bs s) p).2) := by
  have h3 := Ye s p
  obtain ⟨f, hf⟩ : ∃ f, s.length - p = f + 1 := ⟨s.length - p - 1, by omega⟩
  rw [Pp, hf, Fu, if_pos h, Pp, S8 f (s.length - (p + (Utf8.decode (bs s) p).2)) s _ by_Om by_Om]
theorem Dy {s : Str} {p : Nat} (h : ¬ p < s.length) : Pp s p = [] := by
  have e : s.length - p = 0 := by omega
  rw [Pp, e, Fu]
def Zu (s : Str) : Str := [34] ++ Pp s 0 ++ [34]
theorem Zp (r : Int) : 0 ≤ Me r ∧ Me r < 256 := by
  unfold Me
  repeat' split
  all_goals omega
theorem Mj (r : Nat) : 1 ≤ (Zi r).length ∧ (Zi r).length ≤ 2 := by unfold Zi; split <;> simp
theorem Jn (n : Nat) : (Lib.repeatL [48] n).length = n := by
  induction n with
  | zero => rfl
  | succ n ih => simp [Lib.repeatL, ih]; try omega
theorem Ml (r : Nat) : (Bt r).length ≤ 6 := by
  unfold Bt
  have h1 := Cn r
  have h2 := Mj r
  repeat' split
  · simp
  · omega
  · simp [Jn]; omega
theorem Lf {w0 : World} {B pb T : Nat} {rest : List Value} {s : Str} (hB : Bd w0 B pb T rest s) (z : Int) (h0 : 0 ≤ z) (h1 : z < 256) (hl : s.length + 1 ≤ 140737488355328) : Nq 191 #[.pointer (some ⟨pb, 0, none⟩), .int .u8 z] .nilIface w0 B pb T rest (s ++ [UInt8.ofNat z.toNat]) := by
  have h := Nl hB (UInt8.ofNat z.toNat) hl
  have e : (((UInt8.ofNat z.toNat).toNat : Nat) : Int) = z := by simp only [UInt8.toNat_ofNat']; omega
  rwa [e] at h
theorem BF (w0 : World) (hG : Gl w0) (s : Str) (hl : s.length ≤ 17592186044416) : Calls prog 190 #[.string (bs s)] w0 (Kd fun v w' => v = (if Lib.validD s = true then .tuple #[.string (bs (Zu s)), .int .i64 0] else .tuple #[.string (bs []), .int .i64 2]) ∧ Same [] w0 w') := by
 refine Ka func190 rfl ntmps190 Jb (Vc _) ?_
 have hF := FR.start w0 []
 refine Ma (Ca (Ti rfl) (Ca (Qc rfl) (Ha (Ia (Ma (Ca (Ve rfl) ?_))))))
 refine Cb (I7 s by_Om _ (hG.ext hF.same)) (Ib CG rfl rfl) ?_
 rintro _ w ⟨n0, rfl, hE⟩
 replace hF := hF.ext hE
 clear hE
 refine Ca (Hn rfl) (Ca (At rfl rfl) (Ca (Dp rfl rfl) (Ca (Qc rfl) (Ca (Gc rfl) (Dc (Ca (Ud rfl) (Ca (Zo rfl) (Ha ?_))))))))
 refine Gk rfl rfl (fun hc0 => ?_) (fun hc0 => ?_)
 refine Ma (Ca (Ti rfl) (Ca (Qc rfl) (Ha ?_)))
 refine Wb (Vb (Ua (Wd (v := .string (bs [])) (x := .int .i64 2) rfl rfl rfl) ?_))
 exact ⟨by rw [if_neg (by simpa using hc0)], hF.same⟩
 refine Xa (Ga (Ma ?_))
 refine Zg (cs := #[.pointer none, .slice none 0 0]) hF zeroValue159 rfl ?_
 clear hF; rintro b1 w hb1 hF -
 refine Dc ?_
 have hBn : BW w0 [] w b1 b1 159 [] [] := BW.own ⟨.inl ⟨rfl, rfl⟩, Nat.le_refl _, _, _, hF.heap (i := 0) rfl, World.ownsRow_nil _ _ _ _, .inl rfl⟩ (hF.ge (i := 0) rfl) hF.same.size
 have hB := hBn
 replace hF := hF.drop 1
 replace hF : FR w0 [] [] w := hF
 have ho : (0 : Nat) ≤ 0 ∧ ([] : Str).length ≤ 0 := by simp
 refine Cb (Lf hB.bd (34) by_Om by_Om Fa) (Kb Zk rfl rfl rfl) ?_
 rintro _ w ⟨rfl, hBd, hE⟩
 replace hF := hF.wrote hB hE Fa
 replace hB := hB.wrote hBd hE
 clear hBd hE
 refine Ha (Ia (Ma (Ca (Ve rfl) ?_)))
 refine Hr (str := s) hF underlying9 rfl ?_
 clear hF; intro b2 w hb2 hF hE
 have nb2 : b2 ≠ b1 := by have := hB.lt; omega
 replace hB := hB.ext hE
 clear hE
 refine Ha (Za ?_)
 refine Uc (fun μ σ w => ∃ (q : Nat), ∃ (o : Str), μ = s.length - q ∧ (o ++ Pp s q = [34] ++ Pp s 0) ∧ (o.length ≤ 1 + 6 * q ∧ o.length ≤ 1 + 6 * s.length) ∧ (BW w0 [] w b1 b1 159 [] o) ∧ AllEq σ [(6, .pointer (some ⟨b1, 0, none⟩)), (20, .pointer (some ⟨b2, 0, none⟩))] ∧ FR w0 [] [(b2, .stringIter (bs s) (q))] w) _ ⟨0, [34], rfl, (rfl), Fa, (hB), EB, hF⟩ ?_
 clear hF; rintro μ σ w ⟨q, o, rfl, hq, ho, hB, hs, hF⟩
 refine Cg.slots hs ?_
 clear hs; intro σ
 have hr2 : Eo w b2 = false := by rw [Zn (hF.heap (i := 0) rfl)]; rfl
 refine Ma ?_
 by_cases hn0 : (q) < (s : Str).length
 refine Lu 0 (p := q) (str := s) hF rfl rfl hn0 ?_
 clear hF; intro w hF hE
 replace hB := hB.step hE (by simpa using nb2.symm) (by simpa using hr2) (by simp [Zn (hF.heap (i := 0) rfl), Rh])
 clear hE
 replace hF : FR w0 [] [(b2, .stringIter (bs s) (q + (Utf8.decode (bs s) (q)).2))] w := hF
 refine Ca (Dp rfl rfl) (Ha (Ia (He rfl (Xa (Ga (Za (Ma (Ca (At rfl rfl) (Ca (Qc rfl) (Ha ?_))))))))))
 refine Ia (Ma (Ca (Hb rfl) ?_))
 refine Cb (JD _ (((Utf8.decode (bs s) q).1 : Nat) : Int)) (Ib RI rfl rfl) ?_
 rintro _ w ⟨rfl, hE⟩
 replace hF := hF.ext hE
 replace hB := hB.ext hE
 clear hE
 refine Ca (Qc rfl) (Dc (Ca (Hb rfl) (Ca (N4 rfl rfl) (Ha ?_))))
 refine Jc rfl rfl (fun hc2 => ?_) (fun hc2 => ?_)
 refine Ma ?_
 refine Cb (Lf hB.bd (92) by_Om by_Om (by have h1 := ho.1; have h2 := ho.2; simp; omega)) (Kb Zk rfl rfl rfl) ?_
 rintro _ w ⟨rfl, hBd, hE⟩
 replace hF := hF.wrote hB hE (by simp [Rh, nb2])
 replace hB := hB.wrote hBd hE
 clear hBd hE
 refine Dc (Ca (Hb rfl) ?_)
 refine Cb (Lf hB.bd (Me (((Utf8.decode (bs s) q).1 : Nat) : Int)) (Zp _).1 (Zp _).2 (by have h1 := ho.1; have h2 := ho.2; simp; omega)) (Kb Zk rfl rfl rfl) ?_
 rintro _ w ⟨rfl, hBd, hE⟩
 replace hF := hF.wrote hB hE (by simp [Rh, nb2])
 replace hB := hB.wrote hBd hE
 have e1 : o ++ [UInt8.ofNat (92 : Int).toNat] ++ [UInt8.ofNat (Me (((Utf8.decode (bs s) q).1 : Nat) : Int)).toNat] = o ++ Bt (Utf8.decode (bs s) q).1 := by rw [Bt, if_pos (by simpa using hc2)]; simp
 rw [e1] at hB
 clear hBd hE
 refine Ha ?_
 refine Oc (Mc rfl ?_)
 have h1 := Ye s q
 refine Fc ⟨_, ?_, q + (Utf8.decode (bs s) q).2, o ++ Bt (Utf8.decode (bs s) q).1, rfl, (by rw [List.append_assoc, ← Um by_Om]; exact hq), (by have h1 := Ye s q; have h2 := Ml (Utf8.decode (bs s) q).1; rw [List.length_append]; omega), (hB), EB, hF⟩
 omega
 refine Xa (Ga (Ia (Ma (Ca (Hb rfl) (Ca (CC rfl rfl) (Ha ?_))))))
 refine Jc rfl rfl (fun hc3 => ?_) (fun hc3 => ?_)
 refine Ma (Ca (Hb rfl) ?_)
 refine Cb (I3 hB.bd (((Utf8.decode (bs s) q).1 : Nat) : Int) by_Om (by have := Lib.rune_le (bs s) q; omega) (by have h1 := ho.1; have h2 := ho.2; simp; omega)) (Kb JH rfl rfl rfl) ?_
 rintro _ w ⟨rfl, hBd, hE⟩
 replace hF := hF.wrote hB hE (by simp [Rh, nb2])
 replace hB := hB.wrote hBd hE
 have e1 : o ++ Fi (((Utf8.decode (bs s) q).1 : Nat) : Int) = o ++ Bt (Utf8.decode (bs s) q).1 := by rw [Bt, if_neg (by simpa using hc2), if_pos by_Om]
 rw [e1] at hB
 clear hBd hE
 refine Ha ?_
 refine Oc (Mc rfl ?_)
 have h1 := Ye s q
 refine Fc ⟨_, ?_, q + (Utf8.decode (bs s) q).2, o ++ Bt (Utf8.decode (bs s) q).1, rfl, (by rw [List.append_assoc, ← Um by_Om]; exact hq), (by have h1 := Ye s q; have h2 := Ml (Utf8.decode (bs s) q).1; rw [List.length_append]; omega), (hB), EB, hF⟩
 omega
 refine Xa (Ga (Ma (Ca (Hb rfl) (Ja (v := .int .i64 ((((Utf8.decode (bs s) q).1 : Nat) : Int))) (Tf underlying21 underlying2 rfl (Pl by_Om by_Om)) ?_))))
 refine Cb (BK _ (hG.ext hF.same) (Utf8.decode (bs s) q).1 by_Om) (Kb CH rfl rfl rfl) ?_
 rintro _ w ⟨rfl, hE⟩
 replace hF := hF.ext hE
 replace hB := hB.ext hE
 clear hE
 refine Ca (Ti rfl) (Ha (Da (Ca (Ve rfl) (Ca (X5 underlying9 rfl) (Ja (v := .int .i64 (((4 - (Zi (Utf8.decode (bs s) q).1).length : Nat) : Int))) (Tt rfl rfl (have := Mj (Utf8.decode (bs s) q).1; Gh by_Om by_Om by_Om)) ?_)))))
 refine Cb (My ((4 - (Zi (Utf8.decode (bs s) q).1).length : Nat) : Int) by_Om by_Om _) (Kb S5 rfl rfl rfl) ?_
 rintro _ w ⟨rfl, hE⟩
 replace hF := hF.ext hE
 replace hB := hB.ext hE
 clear hE
 refine Ja (v := .string (bs (([92, 117]) ++ (Lib.repeatL [48] (4 - (Zi (Utf8.decode (bs s) q).1).length))))) (Mo rfl rfl (by have := Mj (Utf8.decode (bs s) q).1; simp [Jn]; omega)) ?_
 refine Ca (Ve rfl) ?_
 refine Ja (v := .string (bs ((([92, 117]) ++ (Lib.repeatL [48] (4 - (Zi (Utf8.decode (bs s) q).1).length))) ++ (Zi (Utf8.decode (bs s) q).1)))) (Mo rfl rfl (by have := Mj (Utf8.decode (bs s) q).1; simp [Jn]; omega)) ?_
 refine Cb (Uh hB.bd _ (by have := Mj (Utf8.decode (bs s) q).1; have h1 := ho.1; have h2 := ho.2; simp [Jn]; omega)) (Kb Lv rfl rfl rfl) ?_
 rintro _ w ⟨rfl, hBd, hE⟩
 replace hF := hF.wrote hB hE (by simp [Rh, nb2])
 replace hB := hB.wrote hBd hE
 have e1 : o ++ ((([92, 117]) ++ (Lib.repeatL [48] (4 - (Zi (Utf8.decode (bs s) q).1).length))) ++ (Zi (Utf8.decode (bs s) q).1)) = o ++ Bt (Utf8.decode (bs s) q).1 := by rw [Bt, if_neg (by simpa using hc2), if_neg by_Om]
 rw [e1] at hB
 clear hBd hE
 refine Wa (Mb ?_)
 have h1 := Ye s q
 refine Fc ⟨_, ?_, q + (Utf8.decode (bs s) q).2, o ++ Bt (Utf8.decode (bs s) q).1, rfl, (by rw [List.append_assoc, ← Um by_Om]; exact hq), (by have h1 := Ye s q; have h2 := Ml (Utf8.decode (bs s) q).1; rw [List.length_append]; omega), (hB), EB, hF⟩
 omega
 refine Mn 0 (p := q) (str := s) hF rfl rfl hn0 ?_
 refine Ca (Dp rfl rfl) (Ha (Ia (Nf rfl ?_)))
 refine Oc (Mc rfl ?_)
 refine Ga (Ma ?_)
 refine Cb (Lf hB.bd (34) by_Om by_Om (by have h1 := ho.1; have h2 := ho.2; simp; omega)) (Kb Zk rfl rfl rfl) ?_
 rintro _ w ⟨rfl, hBd, hE⟩
 replace hF := hF.wrote hB hE (by simp [Rh, nb2])
 replace hB := hB.wrote hBd hE
 clear hBd hE
 refine Dc ?_
 refine Cb (H4 hB.bd Fa) (Ib ZC rfl rfl) ?_
 rintro _ w ⟨rfl, hE⟩
 replace hF := hF.wrote hB hE (by simp [Rh, nb2])
 clear hE
 refine Ca (Ti rfl) (Ca (Qc rfl) (Ha ?_))
 refine Wb (Vb (Ua (Wd (v := .string (bs (o ++ [34]))) (x := .int .i64 0) rfl rfl rfl) ?_))
 refine ⟨?_, hF.same⟩
 rw [if_pos (by simpa using hc0), Zu, ← hq, Dy by_Om, List.append_nil]
end Go.Scarf
namespace Go.Scarf
open Go.RowKit Go.Proofs Go.Proofs.Tryz
def El (m : Bool) (ind d : Nat) : Str := if m then [10] ++ Lib.repeatL [32] (ind * d) else []
def qS (t : Str) : Str := if Lib.validD t = true then Zu t else []
theorem Do (c : UInt8) (n : Nat) : (Lib.repeatL [c] n).length = n := by
  induction n with
  | zero => rfl
  | succ n ih => simp [Lib.repeatL, ih]; try omega
theorem Er (m : Bool) (ind d : Nat) : (El m ind d).length ≤ 1 + ind * d := by unfold El; split <;> simp [Do] <;> omega
theorem K0 (s : Str) (p : Nat) : (Pp s p).length ≤ 6 * (s.length - p) := by
  induction h : s.length - p using Nat.strongRecOn generalizing p with
  | ind n ih =>
    by_cases hp : p < s.length
    · rw [Um hp, List.length_append]
      have h1 := Ml (Utf8.decode (bs s) p).1
      have h2 := Ye s p
      have h3 := ih (s.length - (p + (Utf8.decode (bs s) p).2)) by_Om (p + (Utf8.decode (bs s) p).2) rfl
      omega
    · rw [Dy hp]; simp
theorem Zx (s : Str) : (qS s).length ≤ 6 * s.length + 2 := by
  unfold qS
  split
  · have := K0 s 0
    simp [Zu]; omega
  · simp
theorem IA (t : Str) (c : Nat) (h1 : c ≤ 9223372036854775807) (h2 : t.length * c ≤ 140737488355328) (w : World) : Calls prog 124 #[.string (bs t), .int .i64 (c : Int)] w (Kd fun v w' => v = .string (bs (Lib.repeatL t c)) ∧ Same [] w w') := by
  have h := strings_Repeat (bs t) c w h1 (by rw [Ql]; exact h2)
  exact Ip h
theorem LC (t : Str) (hl : t.length ≤ 17592186044416) (w0 : World) (hG : Gl w0) : Calls prog 190 #[.string (bs t)] w0 (Kd fun v w' => v = .tuple #[.string (bs (qS t)), .int .i64 (if Lib.validD t = true then 0 else 2)] ∧ Same [] w0 w') := by
  refine Sh (BF w0 hG t hl) fun v w' ⟨h1, h2⟩ => ⟨?_, h2⟩
  rw [h1, qS]
  split <;> rfl
theorem Bd.mul {w : World} {B pb T : Nat} {m : Bool} {ind : Int} {s : Str} (h : Bd w B pb T [.bool m, .int .i64 ind] s) : w.cell? ⟨pb, 2, none⟩ = some (.bool m) := by
  obtain ⟨ap, v, hh, -⟩ := h.ex
  rw [Fb hh]; rfl
theorem Bd.ind {w : World} {B pb T : Nat} {m : Bool} {ind : Int} {s : Str} (h : Bd w B pb T [.bool m, .int .i64 ind] s) : w.cell? ⟨pb, 3, none⟩ = some (.int .i64 ind) := by
  obtain ⟨ap, v, hh, -⟩ := h.ex
  rw [Fb hh]; rfl
theorem Gl.wrote {w0 w : World} {B pb : Nat} (h : Gl w0) (hs : Same (Wk w0 B pb) w0 w) (hb : 7 ≤ B) (hp : B ≤ pb) : Gl w := h.same hs fun x hx => by
  rcases Re.1 hx with rfl | ⟨-, h1, -⟩ <;> omega
theorem Z4 (w0 : World) (B pb : Nat) (m : Bool) (ind : Nat) (s : Str) (hBd : Bd w0 B pb 161 [.bool m, .int .i64 (ind : Int)] s) (d : Nat) (hd : ind * d ≤ 1000000000) (hl : s.length + (El m ind d).length ≤ 140737488355328) : Nq 192 #[.pointer (some ⟨pb, 0, none⟩), .int .i64 (d : Int)] (.tuple #[]) w0 B pb 161 [.bool m, .int .i64 (ind : Int)] (s ++ El m ind d) := by
 unfold Nq
 refine Ka func192 rfl ntmps192 Jb (Td _ _) ?_
 have hB := BW.start hBd
 have hF := FR.start w0 (Wk w0 B pb)
 refine Ma (Ca (Ld rfl) (Ca (We rfl) (Ca (Ac W2 rfl) (Ja (v := .bool (m)) (Va isAgg4 rfl hB.bd.mul) (Ha ?_)))))
 refine Gk rfl rfl (fun hc0 => ?_) (fun hc0 => ?_)
 rw [El, if_pos hc0] at hl
 simp only [List.length_append, List.length_cons, List.length_nil, Do] at hl
 refine Ma (Ca (Ld rfl) (Ca (We rfl) (Ca (Ac Lg rfl) ?_)))
 refine Cb (Lf hB.bd 10 Qa Qa by_Om) (Kb Zk rfl rfl rfl) ?_
 rintro _ w ⟨rfl, hBd, hE⟩
 replace hF := hF.wrote hB hE Fa
 replace hB := hB.wrote hBd hE
 clear hBd hE
 refine Ha ?_
 refine Yc [] (.free 0 (.free 1 (.free 2 (.free 3 (.free 4 (.free 5 (.free 6 (.free 7 (.free 8 (.act 9 (.act 10 .nil))))))))))) hF ?_
 clear hF; intro w hF hE
 replace hB := hB.ext hE
 clear hE
 refine ⟨fun wq => FR w0 (Wk w0 B pb) _ wq ∧ ∃ s', Bd wq B pb 161 [.bool m, .int .i64 (ind : Int)] s', ⟨hF, ⟨_, hB.bd⟩⟩, ?_⟩
 refine Eb rfl (Ld rfl) (Eb rfl (We rfl) (Eb rfl (Ac Lg rfl) (Eb rfl (Ld rfl) (Eb rfl (We rfl) (Eb rfl (Ac FC rfl) ?_)))))
 refine Sa rfl (v := .int .i64 ((ind : Int))) (fun w hC => Va isAgg3 rfl (by obtain ⟨-, s_, hs_⟩ := hC; exact hs_.ind)) ?_
 refine Eb rfl (Hb rfl) ?_
 refine Sa rfl (v := .int .i64 (((ind * d : Nat) : Int))) (fun w hC => I2 rfl rfl (Gh (by rw [Int.natCast_mul]) by_Om by_Om)) ?_
 refine De rfl (IA [32] (ind * d) by_Om (by simp; omega) _) (Kb S5 rfl rfl rfl) ?_
 rintro _ w ⟨rfl, hE⟩
 replace hF := hF.ext hE
 replace hB := hB.ext hE
 clear hE
 refine ⟨⟨hF, ⟨_, hB.bd⟩⟩, ?_⟩
 refine De rfl (Uh hB.bd (Lib.repeatL [32] (ind * d)) (by simp [Do]; omega)) (Kb Lv rfl rfl rfl) ?_
 rintro _ w ⟨rfl, hBd, hE⟩
 replace hF := hF.wrote hB hE Fa
 replace hB := hB.wrote hBd hE
 clear hBd hE
 refine ⟨⟨hF, ⟨_, hB.bd⟩⟩, ?_⟩
 refine Cc ?_
 refine Nd (Lc (Oe rfl) ?_)
 exact ⟨rfl, by simpa [El, hc0] using hB.bd, hF.same⟩
 refine Xa ?_
 refine Nd (Lc (Oe rfl) ?_)
 exact ⟨rfl, by simpa [El, hc0] using hB.bd, hF.same⟩
theorem Xx (w0 : World) (B pb : Nat) (m : Bool) (ind : Nat) (s : Str) (hBd : Bd w0 B pb 161 [.bool m, .int .i64 (ind : Int)] s) (hG : Gl w0) (h8 : 7 ≤ B) (t : Str) (ht : t.length ≤ 17592186044416) (hl : s.length + (qS t).length ≤ 140737488355328) : Nq 158 #[.pointer (some ⟨pb, 0, none⟩), .string (bs t)] (.tuple #[]) w0 B pb 161 [.bool m, .int .i64 (ind : Int)] (s ++ qS t) := by
 unfold Nq
 refine Ka func158 rfl ntmps158 Jb (Td _ _) ?_
 have hB := BW.start hBd
 have hF := FR.start w0 (Wk w0 B pb)
 refine Ma (Ca (Ve rfl) ?_)
 refine Cb (LC t ht _ ((hG.wrote hF.same h8 hBd.le))) (Ib OI rfl rfl) ?_
 rintro _ w ⟨rfl, hE⟩
 replace hF := hF.ext hE
 replace hB := hB.ext hE
 clear hE
 refine Ca (Hn rfl) (Ca (G_ rfl rfl) (Ca (At rfl rfl) (Ca (Ti rfl) (Ca (Qc rfl) (Ha (Da (Ca (Ld rfl) (Ca (We rfl) (Ca (Ac Lg rfl) (Ca (Ve rfl) ?_))))))))))
 refine Cb (Uh hB.bd (qS t) by_Om) (Kb Lv rfl rfl rfl) ?_
 rintro _ w ⟨rfl, hBd, hE⟩
 replace hF := hF.wrote hB hE Fa
 replace hB := hB.wrote hBd hE
 clear hBd hE
 refine Wa ?_
 refine Nd (Lc (Oe rfl) ?_)
 exact ⟨rfl, hB.bd, hF.same⟩
end Go.Scarf
namespace Go.Scarf
open Go.RowKit Go.Proofs Go.Proofs.Tryz
def Sl (m : Bool) (ind d : Nat) : Bool → List Str → Str
  | _, [] => []
  | first, p :: ps => (if first then [] else [44]) ++ (El m ind (d + 1) ++ (p ++ Sl m ind d false ps))
def Xk (m : Bool) (ind d : Nat) (o c : UInt8) (ps : List Str) : Str := [o] ++ (Sl m ind d true ps ++ ((if ps = [] then [] else El m ind d) ++ [c]))
mutual
def Ci (m : Bool) (ind : Nat) : Tree → Nat → Str
  | .node k t ks xs, d => if k = 1 then [110, 117, 108, 108] else if k = 4 then qS t else if k = 5 then Xk m ind d 91 93 (Wn m ind xs (d + 1)) else if k = 6 then Xk m ind d 123 125 (Dl m ind xs ks (d + 1)) else t
def Wn (m : Bool) (ind : Nat) : List Tree → Nat → List Str
  | [], _ => []
  | x :: xs, d => Ci m ind x d :: Wn m ind xs d
def Dl (m : Bool) (ind : Nat) : List Tree → List Str → Nat → List Str
  | [], _, _ => []
  | x :: xs, ks, d => (qS (ks.headD []) ++ ([58] ++ ((if m then [32] else []) ++ Ci m ind x d))) :: Dl m ind xs ks.tail d
end
theorem Of : ∀ {xs : List Tree} {x : Tree}, x ∈ xs → Hd x ≤ Tc xs
  | y :: ys, x, h => by
    rw [Tc]
    rcases List.mem_cons.1 h with rfl | h
    · omega
    · have := Of h; omega
theorem Wq (m : Bool) (ind d : Nat) : ∀ xs, Wn m ind xs d = xs.map (fun x => Ci m ind x d)
  | [] => by simp [Wn]
  | x :: xs => by simp [Wn, Wq m ind d xs]
def Y6 (m : Bool) (ind d : Nat) (k : Str) (x : Tree) : Str := qS k ++ ([58] ++ ((if m then [32] else []) ++ Ci m ind x d))
theorem An (m : Bool) (ind d : Nat) : ∀ xs ks, (Dl m ind xs ks d).length = xs.length
  | [], ks => by simp [Dl]
  | x :: xs, ks => by simp [Dl, An m ind d xs ks.tail]
theorem Cy (m : Bool) (ind d : Nat) : ∀ (xs : List Tree) (ks : List Str) (j : Nat) (h : j < xs.length) (hk : j < ks.length) (h' : j < (Dl m ind xs ks d).length), (Dl m ind xs ks d)[j] = Y6 m ind d ks[j] xs[j]
  | x :: xs, k :: ks, 0, _, _, _ => by simp [Dl, Y6]
  | x :: xs, k :: ks, j + 1, h, hk, h' => by
    simp only [Dl, List.tail_cons, List.getElem_cons_succ]
    exact Cy m ind d xs ks j (by simpa using h) (by simpa using hk) (by simpa [Dl] using h')
theorem O9 (m : Bool) (ind d : Nat) {ps : List Str} {j : Nat} (h : j < ps.length) : Sl m ind d (decide (j = 0)) (ps.drop j) = (if j = 0 then [] else [44]) ++ (El m ind (d + 1) ++ (ps[j] ++ Sl m ind d (decide (j + 1 = 0)) (ps.drop (j + 1)))) := by
  rw [List.drop_eq_getElem_cons h, Sl]
  simp
mutual
def K7 : Tree → Prop | .node _ t ks xs => t.length ≤ 17592186044416 ∧ (∀ k ∈ ks, k.length ≤ 17592186044416) ∧ F6 xs
def F6 : List Tree → Prop | [] => True | x :: xs => K7 x ∧ F6 xs
end
theorem As : ∀ {xs : List Tree}, F6 xs → ∀ x ∈ xs, K7 x
  | [], _, _, h => absurd h Fa
  | y :: ys, h, x, hx => by
    rw [F6] at h
    rcases List.mem_cons.1 hx with rfl | hx
    · exact h.1
    · exact As h.2 x hx
def YA (x : Tree) : Prop := ∀ (m : Bool) (ind d : Nat) (w0 : World) (B pb : Nat) (s : Str) (cs : List Value), Bd w0 B pb 161 [.bool m, .int .i64 (ind : Int)] s → Gl w0 → 7 ≤ B → Rep (fun b => b ∉ Wk w0 B pb) w0 (Zc x) cs → K7 x → Rd nodeB x = true →
  ind * (d + Hd x) ≤ 1000000000 → d + Hd x ≤ 1000000000 → s.length + (Ci m ind x d).length ≤ 140737488355328 → Nq 126 #[.pointer (some ⟨pb, 0, none⟩), .agg cs.toArray, .int .i64 (d : Int)] (.tuple #[]) w0 B pb 161 [.bool m, .int .i64 (ind : Int)] (s ++ Ci m ind x d)
def XK (f : Nat) (k : Int) (t : Str) (ks : List Str) (xs : List Tree) (m : Bool) (ind d : Nat) (ps : List Str) : Prop := ∀ (j : Nat) (hj : j < ps.length) (w0 : World) (B pb : Nat) (s : Str) (A B' : Option Addr) (c e : Nat), Bd w0 B pb 161 [.bool m, .int .i64 (ind : Int)] s → Gl w0 → 7 ≤ B →
  Rep (fun b => b ∉ Wk w0 B pb) w0 (Zc (.node k t ks xs)) [.int .i64 k, .string (bs t), .slice A ks.length c, .slice B' xs.length e] → s.length + ps[j].length ≤ 140737488355328 →
  Nq f #[.pointer (some ⟨pb, 0, none⟩), .agg #[.int .i64 k, .string (bs t), .slice A ks.length c, .slice B' xs.length e], .int .i64 (j : Int), .int .i64 (d : Int)] (.tuple #[]) w0 B pb 161 [.bool m, .int .i64 (ind : Int)] (s ++ ps[j])
theorem BJ (k : Int) (t : Str) (ks : List Str) (xs : List Tree) (m : Bool) (ind d : Nat) (j : Nat) (hj : j < xs.length) (w0 : World) (B pb : Nat) (s : Str) (A B_ : Option Addr) (c e : Nat) (hBd : Bd w0 B pb 161 [.bool m, .int .i64 (ind : Int)] s) (hG : Gl w0) (h8 : 7 ≤ B) (hX : Rep (fun b => b ∉ Wk w0 B pb) w0 (Zc (.node k t ks xs)) [.int .i64 k, .string (bs t), .slice A ks.length c, .slice B_ xs.length e]) (hv : ∀ x ∈ xs, YA x) (hok : K7 (.node k t ks xs)) (hn : Rd nodeB (.node k t ks xs) = true) (hd : ind * (d + Tc xs) ≤ 1000000000) (hd2 : d + Tc xs ≤ 1000000000) (hl : s.length + (Ci m ind xs[j] d).length ≤ 140737488355328) : Nq 160 #[.pointer (some ⟨pb, 0, none⟩), .agg #[.int .i64 k, .string (bs t), .slice A ks.length c, .slice B_ xs.length e], .int .i64 (j : Int), .int .i64 (d : Int)] (.tuple #[]) w0 B pb 161 [.bool m, .int .i64 (ind : Int)] (s ++ Ci m ind xs[j] d) := by
 unfold Nq
 rw [K7] at hok
 refine Ka func160 rfl ntmps160 Jb (R5 _ _ _ _) ?_
 have hB := BW.start hBd
 have hF := FR.start w0 (Wk w0 B pb)
 refine Ma ?_
 refine Vj hF rfl ?_
 clear hF; intro b1 w hb1 hF hE
 have nb1 : b1 ≠ pb := by have := hB.lt; omega
 replace hX := hX.off_ext hB.lt hE
 replace hB := hB.ext hE
 clear hE
 refine Ha (Da (Ca (Ld rfl) (Ca (Ac Te rfl) (Pd (Xi isAgg22 rfl hF.F 0 rfl rfl) (Ca (Hb rfl) ?_)))))
 obtain ⟨A_, c_, B__, e_, heq_, -, -, hK_, hXs_⟩ := hX.tree_inv
 simp only [List.cons.injEq, Value.slice.injEq, true_and, and_true] at heq_
 obtain ⟨⟨rfl, rfl⟩, rfl, rfl⟩ := heq_
 obtain ⟨ad0, cs0, hA0, hl0, hk0, hx0⟩ := hXs_.tree_elem (i := j) by_Om
 have ho0 := hx0.one_
 refine Ja (v := .pointer (some (ad0.add (j * 4)))) (Ra (i := (j : Int)) Sn rfl hA0 rfl by_Om by_Om) (Ja (v := .agg (List.toArray cs0)) (Ec (l := cs0) isAgg27 sizeOf27 rfl hl0 hk0) (Ca (Hb rfl) ?_))
 refine Cb (hv xs[j] (List.getElem_mem hj) m ind d _ B pb s _ hB.bd (hG.wrote hF.same h8 hBd.le) h8 hx0 (As hok.2.2 _ (List.getElem_mem hj)) ((Gg hn).2 _ (List.getElem_mem hj)) (by have h1 := Of (List.getElem_mem hj); exact Nat.le_trans (Nat.mul_le_mul_left ind by_Om) hd) (by have h1 := Of (List.getElem_mem hj); omega) hl) (Bc O0 rfl rfl rfl rfl) ?_
 rintro _ w ⟨rfl, hBd2, hE⟩
 replace hF := hF.wrote hB hE (by simp [Rh, nb1])
 replace hX := hX.off hE
 replace hB := hB.wrote hBd2 hE
 clear hBd2 hE
 refine Wa ?_
 refine Nd (Lc (Oe rfl) ?_)
 exact ⟨rfl, hB.bd, hF.same⟩
theorem IB (k : Int) (t : Str) (ks : List Str) (xs : List Tree) (m : Bool) (ind d : Nat) (j : Nat) (hj : j < xs.length) (hjk : j < ks.length) (w0 : World) (B pb : Nat) (s : Str) (A B_ : Option Addr) (c e : Nat) (hBd : Bd w0 B pb 161 [.bool m, .int .i64 (ind : Int)] s) (hG : Gl w0) (h8 : 7 ≤ B) (hX : Rep (fun b => b ∉ Wk w0 B pb) w0 (Zc (.node k t ks xs)) [.int .i64 k, .string (bs t), .slice A ks.length c, .slice B_ xs.length e]) (hv : ∀ x ∈ xs, YA x) (hok : K7 (.node k t ks xs)) (hn : Rd nodeB (.node k t ks xs) = true) (hd : ind * (d + Tc xs) ≤ 1000000000) (hd2 : d + Tc xs ≤ 1000000000) (hl : s.length + (Y6 m ind d ks[j] xs[j]).length ≤ 140737488355328) : Nq 161 #[.pointer (some ⟨pb, 0, none⟩), .agg #[.int .i64 k, .string (bs t), .slice A ks.length c, .slice B_ xs.length e], .int .i64 (j : Int), .int .i64 (d : Int)] (.tuple #[]) w0 B pb 161 [.bool m, .int .i64 (ind : Int)] (s ++ Y6 m ind d ks[j] xs[j]) := by
 unfold Nq
 rw [K7] at hok
 rw [Y6] at hl
 simp only [List.length_append, List.length_cons, List.length_nil] at hl
 refine Ka func161 rfl ntmps161 Jb (R5 _ _ _ _) ?_
 have hB := BW.start hBd
 have hF := FR.start w0 (Wk w0 B pb)
 refine Ma ?_
 refine Vj hF rfl ?_
 clear hF; intro b1 w hb1 hF hE
 have nb1 : b1 ≠ pb := by have := hB.lt; omega
 replace hX := hX.off_ext hB.lt hE
 replace hB := hB.ext hE
 clear hE
 refine Dc (Ca (Ld rfl) (Ca (Ac Tl rfl) (Pd (Xi isAgg25 rfl hF.F 0 rfl rfl) (Ca (Hb rfl) ?_))))
 obtain ⟨A_, c_, B__, e_, heq_, -, -, hK_, hXs_⟩ := hX.tree_inv
 simp only [List.cons.injEq, Value.slice.injEq, true_and, and_true] at heq_
 obtain ⟨⟨rfl, rfl⟩, rfl, rfl⟩ := heq_
 obtain ⟨ad0, hA0, hk0, hx0⟩ := hK_.str_elem (i := j) by_Om
 refine Ja (v := .pointer (some (ad0.add (j * 1)))) (Ra (i := (j : Int)) Bv rfl hA0 rfl by_Om by_Om) (Ja (v := .string (bs (ks[j]))) (Va isAgg9 rfl hk0) ?_)
 refine Cb (Xx _ B pb m ind s hB.bd (hG.wrote hF.same h8 hBd.le) h8 ks[j] (hok.2.1 _ (List.getElem_mem hjk)) by_Om) (Kb TA rfl rfl rfl) ?_
 rintro _ w ⟨rfl, hBd2, hE⟩
 replace hF := hF.wrote hB hE (by simp [Rh, nb1])
 replace hX := hX.off hE
 replace hB := hB.wrote hBd2 hE
 clear hBd2 hE
 refine Dc (Ca (Ld rfl) (Ca (We rfl) (Ca (Ac Lg rfl) ?_)))
 refine Cb (Lf hB.bd 58 Qa Qa (by rw [List.length_append]; omega)) (Kb Zk rfl rfl rfl) ?_
 rintro _ w ⟨rfl, hBd2, hE⟩
 replace hF := hF.wrote hB hE (by simp [Rh, nb1])
 replace hX := hX.off hE
 replace hB := hB.wrote hBd2 hE
 clear hBd2 hE
 refine Ha (Ia (Ma (Ca (Ld rfl) (Ca (We rfl) (Ca (Ac W2 rfl) (Ja (v := .bool (m)) (Va isAgg4 rfl hB.bd.mul) (Ha ?_)))))))
 refine Gk rfl rfl (fun hc0 => ?_) (fun hc0 => ?_)
 refine Da (Ca (Ld rfl) (Ca (We rfl) (Ca (Ac Lg rfl) ?_)))
 refine Cb (Lf hB.bd 32 Qa Qa (by simp only [List.length_append, List.length_cons, List.length_nil]; (first | rw [if_pos hc0] at hl | rw [if_neg (by simp [hc0])] at hl); simp only [List.length_cons, List.length_nil] at hl; omega)) (Kb Zk rfl rfl rfl) ?_
 rintro _ w ⟨rfl, hBd2, hE⟩
 replace hF := hF.wrote hB hE (by simp [Rh, nb1])
 replace hX := hX.off hE
 replace hB := hB.wrote hBd2 hE
 clear hBd2 hE
 refine Ha (Da (Ca (Ld rfl) (Ca (Ac Te rfl) (Pd (Xi isAgg22 rfl hF.F 0 rfl rfl) (Ca (Hb rfl) ?_)))))
 obtain ⟨A_, c_, B__, e_, heq_, -, -, hK_, hXs_⟩ := hX.tree_inv
 simp only [List.cons.injEq, Value.slice.injEq, true_and, and_true] at heq_
 obtain ⟨⟨rfl, rfl⟩, rfl, rfl⟩ := heq_
 obtain ⟨ad1, cs1, hA1, hl1, hk1, hx1⟩ := hXs_.tree_elem (i := j) by_Om
 have ho1 := hx1.one_
 refine Ja (v := .pointer (some (ad1.add (j * 4)))) (Ra (i := (j : Int)) Sn rfl hA1 rfl by_Om by_Om) (Ja (v := .agg (List.toArray cs1)) (Ec (l := cs1) isAgg27 sizeOf27 rfl hl1 hk1) (Ca (Hb rfl) ?_))
 refine Cb (hv xs[j] (List.getElem_mem hj) m ind d _ B pb _ _ hB.bd (hG.wrote hF.same h8 hBd.le) h8 hx1 (As hok.2.2 _ (List.getElem_mem hj)) ((Gg hn).2 _ (List.getElem_mem hj)) (by have h1 := Of (List.getElem_mem hj); exact Nat.le_trans (Nat.mul_le_mul_left ind by_Om) hd) (by have h1 := Of (List.getElem_mem hj); omega) (by simp only [List.length_append, List.length_cons, List.length_nil]; (first | rw [if_pos hc0] at hl | rw [if_neg (by simp [hc0])] at hl); simp only [List.length_cons, List.length_nil] at hl; omega)) (Bc O0 rfl rfl rfl rfl) ?_
 rintro _ w ⟨rfl, hBd2, hE⟩
 replace hF := hF.wrote hB hE (by simp [Rh, nb1])
 replace hX := hX.off hE
 replace hB := hB.wrote hBd2 hE
 clear hBd2 hE
 refine Wa ?_
 refine Nd (Lc (Oe rfl) ?_)
 exact ⟨rfl, by simpa [Y6, hc0] using hB.bd, hF.same⟩
 refine Xa (Ga (Da (Ca (Ld rfl) (Ca (Ac Te rfl) (Pd (Xi isAgg22 rfl hF.F 0 rfl rfl) (Ca (Hb rfl) ?_))))))
 obtain ⟨A_, c_, B__, e_, heq_, -, -, hK_, hXs_⟩ := hX.tree_inv
 simp only [List.cons.injEq, Value.slice.injEq, true_and, and_true] at heq_
 obtain ⟨⟨rfl, rfl⟩, rfl, rfl⟩ := heq_
 obtain ⟨ad2, cs2, hA2, hl2, hk2, hx2⟩ := hXs_.tree_elem (i := j) by_Om
 have ho2 := hx2.one_
 refine Ja (v := .pointer (some (ad2.add (j * 4)))) (Ra (i := (j : Int)) Sn rfl hA2 rfl by_Om by_Om) (Ja (v := .agg (List.toArray cs2)) (Ec (l := cs2) isAgg27 sizeOf27 rfl hl2 hk2) (Ca (Hb rfl) ?_))
 refine Cb (hv xs[j] (List.getElem_mem hj) m ind d _ B pb _ _ hB.bd (hG.wrote hF.same h8 hBd.le) h8 hx2 (As hok.2.2 _ (List.getElem_mem hj)) ((Gg hn).2 _ (List.getElem_mem hj)) (by have h1 := Of (List.getElem_mem hj); exact Nat.le_trans (Nat.mul_le_mul_left ind by_Om) hd) (by have h1 := Of (List.getElem_mem hj); omega) (by simp only [List.length_append, List.length_cons, List.length_nil]; (first | rw [if_pos hc0] at hl | rw [if_neg (by simp [hc0])] at hl); simp only [List.length_cons, List.length_nil] at hl; omega)) (Bc O0 rfl rfl rfl rfl) ?_
 rintro _ w ⟨rfl, hBd2, hE⟩
 replace hF := hF.wrote hB hE (by simp [Rh, nb1])
 replace hX := hX.off hE
 replace hB := hB.wrote hBd2 hE
 clear hBd2 hE
 refine Wa ?_
 refine Nd (Lc (Oe rfl) ?_)
 exact ⟨rfl, by simpa [Y6, hc0] using hB.bd, hF.same⟩
end Go.Scarf
namespace Go.Scarf
open Go.RowKit Go.Proofs Go.Proofs.Tryz
theorem V9 (m : Bool) (ind d : Nat) (b : Bool) : Sl m ind d b [] = [] := by cases b <;> rfl
theorem E8 (f : Nat) (hen : Gb prog f) (k : Int) (t : Str) (ks : List Str) (xs : List Tree) (m : Bool) (ind d : Nat) (bo bc : UInt8) (ps : List Str) (hps : ps.length = xs.length) (hI : XK f k t ks xs m ind (d + 1) ps) (w0 : World) (B pb : Nat) (s : Str) (A B_ : Option Addr) (c e : Nat) (hBd : Bd w0 B pb 161 [.bool m, .int .i64 (ind : Int)] s) (hG : Gl w0) (h8 : 7 ≤ B) (hX : Rep (fun b => b ∉ Wk w0 B pb) w0 (Zc (.node k t ks xs)) [.int .i64 k, .string (bs t), .slice A ks.length c, .slice B_ xs.length e]) (hd1 : ind * (d + 1) ≤ 1000000000) (hd2 : d + 1 ≤ 1000000000) (hxl : xs.length ≤ 9223372036854775807) (hlim : s.length + (Xk m ind d bo bc ps).length ≤ 140737488355328) : Nq 159 #[.pointer (some ⟨pb, 0, none⟩), .agg #[.int .i64 k, .string (bs t), .slice A ks.length c, .slice B_ xs.length e], .int .i64 (d : Int), .string (bs [bo, bc]), .func (.func f) #[.pointer (some ⟨pb, 0, none⟩)] #[]] (.tuple #[]) w0 B pb 161 [.bool m, .int .i64 (ind : Int)] (s ++ Xk m ind d bo bc ps) := by
 unfold Nq
 rw [Xk] at hlim
 simp only [List.length_append, List.length_cons, List.length_nil] at hlim
 refine Ka func159 rfl ntmps159 Jb (D6 _ _ _ _ _) ?_
 have hB := BW.start hBd
 have hF := FR.start w0 (Wk w0 B pb)
 refine Ma ?_
 refine Vj hF rfl ?_
 clear hF; intro b1 w hb1 hF hE
 have nb1 : b1 ≠ pb := by have := hB.lt; omega
 replace hX := hX.off_ext hB.lt hE
 replace hB := hB.ext hE
 clear hE
 refine Ha (Ia ?_)
 refine Yc [] (.free 0 (.free 1 (.free 2 (.free 3 (.free 4 (.act 5 .nil)))))) hF ?_
 clear hF; intro w hF hE
 replace hX := hX.off_ext hB.lt hE
 replace hB := hB.ext hE
 clear hE
 refine ⟨fun wq => FR w0 (Wk w0 B pb) _ wq, hF, ?_⟩
 refine Eb rfl (Ld rfl) (Eb rfl (We rfl) (Eb rfl (Ac Lg rfl) (Eb rfl (Ve rfl) ?_)))
 refine Sa rfl (v := .int .u8 (((bo.toNat : Nat) : Int))) (fun w hC => Ug (s := [bo, bc]) 0 underlying9 rfl rfl Fa) ?_
 refine De rfl (Nl hB.bd bo by_Om) (Kb Zk rfl rfl rfl) ?_
 rintro _ w ⟨rfl, hBd2, hE⟩
 replace hF := hF.wrote hB hE (by simp [Rh, nb1])
 replace hX := hX.off hE
 replace hB := hB.wrote hBd2 hE
 clear hBd2 hE
 refine ⟨hF, ?_⟩
 refine Cc (Ga (Ia (Ma (Ca (Ac Te rfl) (Pd (Xi isAgg22 rfl hF.F 0 rfl rfl) (Ca (Ff underlying22 rfl) (Ca (Hb rfl) (Ha (Za ?_)))))))))
 refine Uc (fun μ σ w => ∃ (j : Nat), ∃ (o : Str), μ = xs.length - j ∧ (j ≤ xs.length) ∧ (o ++ Sl m ind d (decide (j = 0)) (ps.drop j) = s ++ ([bo] ++ Sl m ind d true ps)) ∧ (BW w0 (Wk w0 B pb) w B pb 161 [.bool m, .int .i64 (ind : Int)] (o)) ∧ (Rep (fun b => b ∉ Wk w B pb) w (Zc (.node k t ks xs)) [.int .i64 k, .string (bs t), .slice A ks.length c, .slice B_ xs.length e]) ∧ AllEq σ [(0, .pointer (some ⟨pb, 0, none⟩)), (2, .int .i64 ((d : Int))), (3, .string (bs ([bo, bc]))), (4, .func (.func f) #[.pointer (some ⟨pb, 0, none⟩)] #[]), (6, .pointer (some ⟨b1, 0, none⟩)), (19, .int .i64 ((xs.length : Nat))), (20, .int .i64 ((j : Int)))] ∧ FR w0 (Wk w0 B pb) [(b1, .cells #[.int .i64 k, .string (bs t), .slice A ks.length c, .slice B_ xs.length e] 27)] w) _ ⟨0, s ++ [bo], rfl, (Nat.zero_le _), Fa, (hB), (hX), F9, hF⟩ ?_
 clear hF; rintro μ σ w ⟨j, o, rfl, hj, hq, hB, hX, hs, hF⟩
 refine Cg.slots hs ?_
 clear hs; intro σ
 refine Ma (Ca (Zl rfl rfl) (Ha (Ia ?_)))
 refine Jc rfl rfl (fun hc0 => ?_) (fun hc0 => ?_)
 have hjp : j < ps.length := by omega
 have hjd := O9 m ind d hjp
 have hL := congrArg List.length hq
 rw [hjd] at hL
 have hif : (if j = 0 then ([] : Str) else [44]).length = if j = 0 then 0 else 1 := by split <;> rfl
 simp only [List.length_append, List.length_cons, List.length_nil, hif] at hL
 refine Xa (Ga (Ia (Za (Ma (Ca (Hb rfl) (Ca (Qc rfl) (Ha (Ia (Ma (Ca (Hb rfl) ?_))))))))))
 refine Ca (Rx rfl rfl) (Ha ?_)
 refine Jc rfl rfl (fun hc1 => ?_) (fun hc1 => ?_)
 refine Da (Ca (Ld rfl) (Ca (We rfl) (Ca (Ac Lg rfl) ?_)))
 refine Cb (Lf hB.bd 44 Qa Qa (by rw [if_neg by_Om] at hL; omega)) (Kb Zk rfl rfl rfl) ?_
 rintro _ w ⟨rfl, hBd2, hE⟩
 replace hF := hF.wrote hB hE (by simp [Rh, nb1])
 replace hX := hX.off hE
 replace hB := hB.wrote hBd2 hE
 clear hBd2 hE
 refine Dc (Ca (Ld rfl) (Ca (Hb rfl) (Ca (Bi (((d + 1 : Nat) : Int)) rfl rfl) ?_)))
 refine Cb (Z4 _ B pb m ind _ hB.bd (d + 1) hd1 (by (try simp only [List.length_append, List.length_cons, List.length_nil]); first | (rw [if_neg by_Om] at hL; omega) | (rw [if_pos by_Om] at hL; omega))) (Kb R4 rfl rfl rfl) ?_
 rintro _ w ⟨rfl, hBd2, hE⟩
 replace hF := hF.wrote hB hE (by simp [Rh, nb1])
 replace hX := hX.off hE
 replace hB := hB.wrote hBd2 hE
 clear hBd2 hE
 refine Ha (Da (Ca (K4) (Pd (Pk isAgg27 sizeOf27 rfl hF.F 0 rfl rfl) (Ca (Hb rfl) (Ca (Hb rfl) (Ca (Bi (((d + 1 : Nat) : Int)) rfl rfl) ?_))))))
 refine Cb (hI j hjp _ B pb _ A B_ c e hB.bd (hG.wrote hF.same h8 hBd.le) h8 hX (by (try simp only [List.length_append, List.length_cons, List.length_nil]); first | (rw [if_neg by_Om] at hL; omega) | (rw [if_pos by_Om] at hL; omega))) (J3 rfl hen rfl rfl rfl rfl) ?_
 rintro _ w ⟨rfl, hBd2, hE⟩
 replace hF := hF.wrote hB hE (by simp [Rh, nb1])
 replace hX := hX.off hE
 replace hB := hB.wrote hBd2 hE
 clear hBd2 hE
 replace hB : BW w0 (Wk w0 B pb) w B pb 161 [.bool m, .int .i64 (ind : Int)] (o ++ ((if j = 0 then [] else [44]) ++ (El m ind (d + 1) ++ ps[j]))) := by first | (have h0 : ¬ j = 0 := by_Om; rw [if_neg h0]; simpa using hB) | (have h0 : j = 0 := by_Om; rw [if_pos h0]; simpa using hB)
 refine Wa (Mb (Ga (Da (Ca (Ko rfl rfl) (Ca (Hb rfl) (Wa ?_))))))
 refine Fc ⟨_, ?_, j + 1, o ++ ((if j = 0 then [] else [44]) ++ (El m ind (d + 1) ++ ps[j])), rfl, by_Om, (by have h := hq; rw [hjd] at h; simpa [List.append_assoc] using h), (hB), (hX), F9, hF⟩
 omega
 refine Xa (Ga (Ma (Ca (Ld rfl) (Ca (Hb rfl) (Ca (Bi (((d + 1 : Nat) : Int)) rfl rfl) ?_)))))
 refine Cb (Z4 _ B pb m ind _ hB.bd (d + 1) hd1 (by (try simp only [List.length_append, List.length_cons, List.length_nil]); first | (rw [if_neg by_Om] at hL; omega) | (rw [if_pos by_Om] at hL; omega))) (Kb R4 rfl rfl rfl) ?_
 rintro _ w ⟨rfl, hBd2, hE⟩
 replace hF := hF.wrote hB hE (by simp [Rh, nb1])
 replace hX := hX.off hE
 replace hB := hB.wrote hBd2 hE
 clear hBd2 hE
 refine Ha (Da (Ca (K4) (Pd (Pk isAgg27 sizeOf27 rfl hF.F 0 rfl rfl) (Ca (Hb rfl) (Ca (Hb rfl) (Ca (Bi (((d + 1 : Nat) : Int)) rfl rfl) ?_))))))
 refine Cb (hI j hjp _ B pb _ A B_ c e hB.bd (hG.wrote hF.same h8 hBd.le) h8 hX (by (try simp only [List.length_append, List.length_cons, List.length_nil]); first | (rw [if_neg by_Om] at hL; omega) | (rw [if_pos by_Om] at hL; omega))) (J3 rfl hen rfl rfl rfl rfl) ?_
 rintro _ w ⟨rfl, hBd2, hE⟩
 replace hF := hF.wrote hB hE (by simp [Rh, nb1])
 replace hX := hX.off hE
 replace hB := hB.wrote hBd2 hE
 clear hBd2 hE
 replace hB : BW w0 (Wk w0 B pb) w B pb 161 [.bool m, .int .i64 (ind : Int)] (o ++ ((if j = 0 then [] else [44]) ++ (El m ind (d + 1) ++ ps[j]))) := by first | (have h0 : ¬ j = 0 := by_Om; rw [if_neg h0]; simpa using hB) | (have h0 : j = 0 := by_Om; rw [if_pos h0]; simpa using hB)
 refine Wa (Mb (Ga (Da (Ca (Ko rfl rfl) (Ca (Hb rfl) (Wa ?_))))))
 refine Fc ⟨_, ?_, j + 1, o ++ ((if j = 0 then [] else [44]) ++ (El m ind (d + 1) ++ ps[j])), rfl, by_Om, (by have h := hq; rw [hjd] at h; simpa [List.append_assoc] using h), (hB), (hX), F9, hF⟩
 omega
 have hq2 : o = s ++ ([bo] ++ Sl m ind d true ps) := by have h := hq; rw [List.drop_eq_nil_of_le by_Om, V9, List.append_nil] at h; exact h
 refine Oc (Mc rfl ?_)
 refine Ga (Ia (Ma (Ca (Ac Te rfl) (Pd (Xi isAgg22 rfl hF.F 0 rfl rfl) (Ca (Ff underlying22 rfl) (Ca (Rx rfl rfl) (Ha ?_)))))))
 refine Jc rfl rfl (fun hc2 => ?_) (fun hc2 => ?_)
 have hpn : ps ≠ [] := by intro hp; rw [hp] at hps; simp at hps; omega
 refine Da (Ca (Ld rfl) (Ca (Hb rfl) ?_))
 refine Cb (Z4 _ B pb m ind _ hB.bd d (Nat.le_trans (Nat.mul_le_mul_left ind by_Om) hd1) (by have hp : ps ≠ [] := (by intro hp; rw [hp] at hps; simp at hps; omega); rw [if_neg hp] at hlim; rw [hq2]; (try simp only [List.length_append, List.length_cons, List.length_nil]); omega)) (Kb R4 rfl rfl rfl) ?_
 rintro _ w ⟨rfl, hBd2, hE⟩
 replace hF := hF.wrote hB hE (by simp [Rh, nb1])
 replace hX := hX.off hE
 replace hB := hB.wrote hBd2 hE
 clear hBd2 hE
 refine Ha ?_
 refine Yc [] (.free 0 (.free 1 (.free 2 (.free 3 (.free 4 (.act 5 .nil)))))) hF ?_
 clear hF; intro w hF hE
 replace hX := hX.off_ext hB.lt hE
 replace hB := hB.ext hE
 clear hE
 refine ⟨fun wq => FR w0 (Wk w0 B pb) _ wq, hF, ?_⟩
 refine Eb rfl (Ld rfl) (Eb rfl (We rfl) (Eb rfl (Ac Lg rfl) (Eb rfl (Ve rfl) ?_)))
 refine Sa rfl (v := .int .u8 (((bc.toNat : Nat) : Int))) (fun w hC => Ug (s := [bo, bc]) 1 underlying9 rfl rfl Fa) ?_
 refine De rfl (Nl hB.bd bc (by rw [hq2]; (try simp only [List.length_append, List.length_cons, List.length_nil]); first | (rw [if_neg hpn] at hlim; omega) | omega)) (Kb Zk rfl rfl rfl) ?_
 rintro _ w ⟨rfl, hBd2, hE⟩
 replace hF := hF.wrote hB hE (by simp [Rh, nb1])
 replace hX := hX.off hE
 replace hB := hB.wrote hBd2 hE
 clear hBd2 hE
 refine ⟨hF, ?_⟩
 refine Cc ?_
 refine Nd (Lc (Oe rfl) ?_)
 refine ⟨rfl, ?_, hF.same⟩
 have hb := hB.bd
 rw [hq2] at hb
 rw [Xk, if_neg hpn]
 simpa [List.append_assoc] using hb
 have hpz : ps = [] := List.eq_nil_of_length_eq_zero by_Om
 refine Xa (Ga ?_)
 refine Yc [] (.free 0 (.free 1 (.free 2 (.free 3 (.free 4 (.act 5 .nil)))))) hF ?_
 clear hF; intro w hF hE
 replace hX := hX.off_ext hB.lt hE
 replace hB := hB.ext hE
 clear hE
 refine ⟨fun wq => FR w0 (Wk w0 B pb) _ wq, hF, ?_⟩
 refine Eb rfl (Ld rfl) (Eb rfl (We rfl) (Eb rfl (Ac Lg rfl) (Eb rfl (Ve rfl) ?_)))
 refine Sa rfl (v := .int .u8 (((bc.toNat : Nat) : Int))) (fun w hC => Ug (s := [bo, bc]) 1 underlying9 rfl rfl Fa) ?_
 refine De rfl (Nl hB.bd bc (by rw [hq2]; (try simp only [List.length_append, List.length_cons, List.length_nil]); first | (rw [if_neg hpn] at hlim; omega) | omega)) (Kb Zk rfl rfl rfl) ?_
 rintro _ w ⟨rfl, hBd2, hE⟩
 replace hF := hF.wrote hB hE (by simp [Rh, nb1])
 replace hX := hX.off hE
 replace hB := hB.wrote hBd2 hE
 clear hBd2 hE
 refine ⟨hF, ?_⟩
 refine Cc ?_
 refine Nd (Lc (Oe rfl) ?_)
 refine ⟨rfl, ?_, hF.same⟩
 have hb := hB.bd
 rw [hq2] at hb
 rw [Xk, if_pos hpz]
 simpa [List.append_assoc] using hb
theorem U4 (k : Int) (t : Str) (ks : List Str) (xs : List Tree) (ih : ∀ x ∈ xs, YA x) (m : Bool) (ind d : Nat) (w0 : World) (B pb : Nat) (s : Str) (A B_ : Option Addr) (c e : Nat) (hBd : Bd w0 B pb 161 [.bool m, .int .i64 (ind : Int)] s) (hG : Gl w0) (h8 : 7 ≤ B) (hX : Rep (fun b => b ∉ Wk w0 B pb) w0 (Zc (.node k t ks xs)) [.int .i64 k, .string (bs t), .slice A ks.length c, .slice B_ xs.length e]) (hok : K7 (.node k t ks xs)) (hn : Rd nodeB (.node k t ks xs) = true) (hd : ind * (d + Hd (.node k t ks xs)) ≤ 1000000000) (hd2 : d + Hd (.node k t ks xs) ≤ 1000000000) (hxl : xs.length ≤ 9223372036854775807) (hl : s.length + (Ci m ind (.node k t ks xs) d).length ≤ 140737488355328) : Nq 126 #[.pointer (some ⟨pb, 0, none⟩), .agg #[.int .i64 k, .string (bs t), .slice A ks.length c, .slice B_ xs.length e], .int .i64 (d : Int)] (.tuple #[]) w0 B pb 161 [.bool m, .int .i64 (ind : Int)] (s ++ Ci m ind (.node k t ks xs) d) := by
 unfold Nq
 refine Ka func126 rfl ntmps126 Jb (Bj _ _ _) ?_
 have hB := BW.start hBd
 have hF := FR.start w0 (Wk w0 B pb)
 refine Ma ?_
 refine Vj hF rfl ?_
 clear hF; intro b1 w hb1 hF hE
 have nb1 : b1 ≠ pb := by have := hB.lt; omega
 replace hX := hX.off_ext hB.lt hE
 replace hB := hB.ext hE
 clear hE
 refine Dc (Ca (Ac Ln rfl) (Pd (Ar isAgg3 rfl hF.F 0 rfl rfl) (Ha (Za (Ma (Ca (Un rfl rfl) (Ca (Gc rfl) (Wa ?_))))))))
 refine Ga ?_
 refine Jc rfl rfl (fun hc0 => ?_) (fun hc0 => ?_)
 refine Da (Ca (Ld rfl) (Ca (We rfl) (Ca (Ac Lg rfl) ?_)))
 have hkk_ : k = 1 := by omega
 refine Cb (Uh hB.bd [110, 117, 108, 108] (by rw [Ci, if_pos hkk_] at hl; exact hl)) (Kb Lv rfl rfl rfl) ?_
 rintro _ w ⟨rfl, hBd2, hE⟩
 replace hF := hF.wrote hB hE (by simp [Rh, nb1])
 replace hX := hX.off hE
 replace hB := hB.wrote hBd2 hE
 clear hBd2 hE
 refine Wa (Mb ?_)
 refine Nd (Lc (Oe rfl) ?_)
 refine ⟨rfl, ?_, hF.same⟩
 rw [Ci]
 first | (rw [if_pos hkk_]; exact hB.bd) | (rw [if_neg by_Om, if_pos hkk_]; exact hB.bd) | (rw [if_neg by_Om, if_neg by_Om, if_pos hkk_]; exact hB.bd) | (rw [if_neg by_Om, if_neg by_Om, if_neg by_Om, if_pos hkk_]; exact hB.bd) | (rw [if_neg by_Om, if_neg by_Om, if_neg by_Om, if_neg by_Om]; exact hB.bd)
 refine Ma (Ca (Un rfl rfl) (Ca (Gc rfl) (Ha ?_)))
 refine Jc rfl rfl (fun hc1 => ?_) (fun hc1 => ?_)
 refine Da (Ca (Ld rfl) (Ca (Ac Oi rfl) (Pd (Cx isAgg9 rfl hF.F 0 rfl rfl) ?_)))
 have hkk_ : k = 4 := by omega
 refine Cb (Xx _ B pb m ind s hB.bd (hG.wrote hF.same h8 hBd.le) h8 t (by rw [K7] at hok; exact hok.1) (by rw [Ci, if_neg by_Om, if_pos hkk_] at hl; exact hl)) (Kb TA rfl rfl rfl) ?_
 rintro _ w ⟨rfl, hBd2, hE⟩
 replace hF := hF.wrote hB hE (by simp [Rh, nb1])
 replace hX := hX.off hE
 replace hB := hB.wrote hBd2 hE
 clear hBd2 hE
 refine Wa (Mb ?_)
 refine Nd (Lc (Oe rfl) ?_)
 refine ⟨rfl, ?_, hF.same⟩
 rw [Ci]
 first | (rw [if_pos hkk_]; exact hB.bd) | (rw [if_neg by_Om, if_pos hkk_]; exact hB.bd) | (rw [if_neg by_Om, if_neg by_Om, if_pos hkk_]; exact hB.bd) | (rw [if_neg by_Om, if_neg by_Om, if_neg by_Om, if_pos hkk_]; exact hB.bd) | (rw [if_neg by_Om, if_neg by_Om, if_neg by_Om, if_neg by_Om]; exact hB.bd)
 refine Ma (Ca (Un rfl rfl) (Ca (Gc rfl) (Ha ?_)))
 refine Jc rfl rfl (fun hc2 => ?_) (fun hc2 => ?_)
 refine Da (Ca (Ld rfl) (Pd (Pk isAgg27 sizeOf27 rfl hF.F 0 rfl rfl) (Ca (Hb rfl) (Ca (Ld rfl) (Ja (v := .func (.func 160) #[.pointer (some ⟨pb, 0, none⟩)] #[]) (Yq rfl) ?_)))))
 have hkk_ : k = 5 := by omega
 refine Cb (E8 160 HH k t ks xs m ind d 91 93 (Wn m ind xs (d + 1)) (by rw [Wq, List.length_map]) (fun j hj w1 B1 p1 s1 A1 B1_ c1 e1 hb1_ hg1 h81 hx1 hl1 => by have hj2 : j < xs.length := (by rw [Wq, List.length_map] at hj; exact hj); have hg : (Wn m ind xs (d + 1))[j] = Ci m ind xs[j] (d + 1) := (by simp only [Wq, List.getElem_map]); rw [hg] at hl1 ⊢; exact BJ k t ks xs m ind (d + 1) j hj2 w1 B1 p1 s1 A1 B1_ c1 e1 hb1_ hg1 h81 hx1 ih hok hn (by rw [Hd] at hd; exact Nat.le_trans (Nat.mul_le_mul_left ind by_Om) hd) (by rw [Hd] at hd2; omega) hl1) _ B pb s A B_ c e hB.bd (hG.wrote hF.same h8 hBd.le) h8 hX (by have h1 := hd; rw [Hd] at h1; exact Nat.le_trans (Nat.mul_le_mul_left ind by_Om) h1) (by rw [Hd] at hd2; omega) hxl (by rw [Ci] at hl; simpa [hkk_] using hl)) (Yr ZB rfl rfl rfl rfl rfl rfl) ?_
 rintro _ w ⟨rfl, hBd2, hE⟩
 replace hF := hF.wrote hB hE (by simp [Rh, nb1])
 replace hX := hX.off hE
 replace hB := hB.wrote hBd2 hE
 clear hBd2 hE
 refine Wa (Mb ?_)
 refine Nd (Lc (Oe rfl) ?_)
 refine ⟨rfl, ?_, hF.same⟩
 rw [Ci]
 first | (rw [if_pos hkk_]; exact hB.bd) | (rw [if_neg by_Om, if_pos hkk_]; exact hB.bd) | (rw [if_neg by_Om, if_neg by_Om, if_pos hkk_]; exact hB.bd) | (rw [if_neg by_Om, if_neg by_Om, if_neg by_Om, if_pos hkk_]; exact hB.bd) | (rw [if_neg by_Om, if_neg by_Om, if_neg by_Om, if_neg by_Om]; exact hB.bd)
 refine Ma (Ca (Un rfl rfl) (Ca (Gc rfl) (Ha ?_)))
 refine Jc rfl rfl (fun hc3 => ?_) (fun hc3 => ?_)
 refine Da (Ca (Ld rfl) (Pd (Pk isAgg27 sizeOf27 rfl hF.F 0 rfl rfl) (Ca (Hb rfl) (Ca (Ld rfl) (Ja (v := .func (.func 161) #[.pointer (some ⟨pb, 0, none⟩)] #[]) (Yq rfl) ?_)))))
 have hkk_ : k = 6 := by omega
 have hkl : ks.length = xs.length := (Vp (hkk_ ▸ (Gg hn).1)).2
 refine Cb (E8 161 CI k t ks xs m ind d 123 125 (Dl m ind xs ks (d + 1)) (by rw [An]) (fun j hj w1 B1 p1 s1 A1 B1_ c1 e1 hb1_ hg1 h81 hx1 hl1 => by have hj2 : j < xs.length := (by rw [An] at hj; exact hj); have hg := Cy m ind (d + 1) xs ks j hj2 by_Om hj; rw [hg] at hl1 ⊢; exact IB k t ks xs m ind (d + 1) j hj2 by_Om w1 B1 p1 s1 A1 B1_ c1 e1 hb1_ hg1 h81 hx1 ih hok hn (by rw [Hd] at hd; exact Nat.le_trans (Nat.mul_le_mul_left ind by_Om) hd) (by rw [Hd] at hd2; omega) hl1) _ B pb s A B_ c e hB.bd (hG.wrote hF.same h8 hBd.le) h8 hX (by have h1 := hd; rw [Hd] at h1; exact Nat.le_trans (Nat.mul_le_mul_left ind by_Om) h1) (by rw [Hd] at hd2; omega) hxl (by rw [Ci] at hl; simpa [hkk_] using hl)) (Yr ZB rfl rfl rfl rfl rfl rfl) ?_
 rintro _ w ⟨rfl, hBd2, hE⟩
 replace hF := hF.wrote hB hE (by simp [Rh, nb1])
 replace hX := hX.off hE
 replace hB := hB.wrote hBd2 hE
 clear hBd2 hE
 refine Wa (Mb ?_)
 refine Nd (Lc (Oe rfl) ?_)
 refine ⟨rfl, ?_, hF.same⟩
 rw [Ci]
 first | (rw [if_pos hkk_]; exact hB.bd) | (rw [if_neg by_Om, if_pos hkk_]; exact hB.bd) | (rw [if_neg by_Om, if_neg by_Om, if_pos hkk_]; exact hB.bd) | (rw [if_neg by_Om, if_neg by_Om, if_neg by_Om, if_pos hkk_]; exact hB.bd) | (rw [if_neg by_Om, if_neg by_Om, if_neg by_Om, if_neg by_Om]; exact hB.bd)
 refine Yc [] (.free 0 (.free 1 (.free 2 (.free 3 (.free 4 (.act 5 .nil)))))) hF ?_
 clear hF; intro w hF hE
 replace hX := hX.off_ext hB.lt hE
 replace hB := hB.ext hE
 clear hE
 refine ⟨fun wq => FR w0 (Wk w0 B pb) _ wq, hF, ?_⟩
 refine Eb rfl (Ld rfl) (Eb rfl (We rfl) (Eb rfl (Ac Lg rfl) (Eb rfl (Ac Oi rfl) (Tn rfl (Cx isAgg9 rfl C0 0 rfl rfl) ?_))))
 refine De rfl (Uh hB.bd t (by rw [Ci, if_neg by_Om, if_neg by_Om, if_neg by_Om, if_neg by_Om] at hl; exact hl)) (Kb Lv rfl rfl rfl) ?_
 rintro _ w ⟨rfl, hBd2, hE⟩
 replace hF := hF.wrote hB hE (by simp [Rh, nb1])
 replace hX := hX.off hE
 replace hB := hB.wrote hBd2 hE
 clear hBd2 hE
 refine ⟨hF, ?_⟩
 refine Cc (Mb ?_)
 refine Nd (Lc (Oe rfl) ?_)
 refine ⟨rfl, ?_, hF.same⟩
 rw [Ci]
 first | (rw [if_pos hkk_]; exact hB.bd) | (rw [if_neg by_Om, if_pos hkk_]; exact hB.bd) | (rw [if_neg by_Om, if_neg by_Om, if_pos hkk_]; exact hB.bd) | (rw [if_neg by_Om, if_neg by_Om, if_neg by_Om, if_pos hkk_]; exact hB.bd) | (rw [if_neg by_Om, if_neg by_Om, if_neg by_Om, if_neg by_Om]; exact hB.bd)
theorem NE (x : Tree) : YA x := Tree.ind (Q := YA) (fun k t ks xs ih m ind d w0 B pb s cs hBd hG h8 hX hok hn hd hd2 hl => by
  obtain ⟨A, c, B_, e, rfl, -, -, -, hXs⟩ := hX.tree_inv
  have h1 := hXs.slice_len
  exact U4 k t ks xs ih m ind d w0 B pb s A B_ c e hBd hG h8 hX hok hn hd hd2 by_Om hl) x
end Go.Scarf
namespace Go.Scarf
open Go.RowKit Go.Proofs Go.Proofs.Tryz
theorem M5 {t : Str} (h : Dm t = true) : t ≠ [] := by
  rintro rfl
  revert h
  decide
theorem SE (m : Bool) (ind : Nat) (x : Tree) (d : Nat) (h : Qd x = true) : Ci m ind x d ≠ [] := by
  obtain ⟨k, t, ks, xs⟩ := x
  unfold Qd at h
  rw [Bool.and_eq_true] at h
  have h1 := (Gg h.2).1
  unfold rnodeB at h1
  rw [Bool.and_eq_true, decide_eq_true_eq] at h1
  obtain ⟨h7, h1⟩ := h1
  have h7' : k ≠ 7 := h7
  rw [Ci]
  split
  · simp
  split
  · rename_i h4
    subst h4
    simp [nodeB] at h1
    rw [qS, if_pos h1.2]; simp [Zu]
  split
  · simp [Xk]
  split
  · simp [Xk]
  · rename_i g1 g4 g5 g6
    simp only [nodeB, if_neg g5, if_neg g6, if_neg g1, if_neg g4, if_neg h7'] at h1
    split at h1
    · cases h1
    split at h1
    · rw [Bool.or_eq_true, decide_eq_true_eq, decide_eq_true_eq] at h1
      rcases h1 with rfl | rfl <;> simp
    split at h1
    · exact M5 h1
    · cases h1
theorem E9 {x : Tree} (h : Qd x = true) : Rd nodeB x = true := by
  unfold Qd at h
  rw [Bool.and_eq_true] at h
  refine Tree.ind (Q := fun x => Rd rnodeB x = true → Rd nodeB x = true) (fun k t ks xs ih h => ?_) x h.2
  rw [Rd, Bool.and_eq_true] at h ⊢
  have h1 := h.1
  unfold rnodeB at h1
  rw [Bool.and_eq_true] at h1
  refine ⟨h1.2, ?_⟩
  have key : ∀ ys : List Tree, (∀ y ∈ ys, y ∈ xs) → Gm rnodeB ys = true → Gm nodeB ys = true := by
    intro ys
    induction ys with
    | nil => intro _ _; rfl
    | cons y ys ihy =>
      intro hm hs
      rw [Gm, Bool.and_eq_true] at hs ⊢
      exact ⟨ih y (hm y Fa) hs.1, ihy (fun z hz => hm z (by simp [hz])) hs.2⟩
  exact key xs (fun _ h => h) h.2
theorem Lt {x : Tree} (h : Qd x = true) : Hd x ≤ 32 := by
  unfold Qd Wm at h
  simp only [Bool.and_eq_true, decide_eq_true_eq] at h
  exact h.1.2
theorem X9 (x : Tree) (S : Nat → Prop) (w0 : World) (cs : List Value) (rx : Rep S w0 (Zc x) cs) (hG : Gl w0) (hk : Bx x) (hq : K7 x) (hsz : Nc x ≤ 1000000000) (hlim : Qd x = true → (Ci false 0 x 0).length ≤ 140737488355328) : Calls prog 99 #[.agg cs.toArray] w0 (Kd fun v w' => v = (if Qd x = true then .tuple #[.string (bs (Ci false 0 x 0)), .int .i64 0] else .tuple #[.string (bs []), .int .i64 1]) ∧ Same [] w0 w') := by
 have hl : cs.length = 4 := rx.length.trans (Sd x)
 have ho := rx.one_
 refine Ka func99 rfl ntmps99 Jb (Vc _) ?_
 have hF := FR.start w0 []
 refine Ma ?_
 refine Up (v := .agg (List.toArray cs)) (cs := (List.toArray cs)) hF rfl rfl ?_
 clear hF; rintro b1 w hb1 hF -
 refine Ca (Ti rfl) (Ca (Qc rfl) (Ha (Ia (Ma (Ja (v := .agg (List.toArray cs)) (Ec (l := cs) isAgg27 sizeOf27 rfl hl (hF.cellsAll 0 rfl)) ?_)))))
 refine Pb hF (Nz x by_Om _ _ _ (hF.rep rx) hk (hG.ext hF.same)) (Ib NA rfl rfl) ?_
 clear hF; intro w hF
 refine Ca (Zo rfl) (Ha ?_)
 refine Gk rfl rfl (fun hc0 => ?_) (fun hc0 => ?_)
 refine Ma (Ca (Ti rfl) (Ca (Qc rfl) (Ha ?_)))
 refine Wb (Vb (Ua (Wd (v := .string (bs [])) (x := .int .i64 1) rfl rfl rfl) ?_))
 exact ⟨by rw [if_neg (by simpa using hc0)], hF.same⟩
 refine Xa (Ga (Ma ?_))
 refine Zg (cs := #[.pointer none, .slice none 0 0, .bool false, .int .i64 0]) hF zeroValue161 rfl ?_
 clear hF; rintro b2 w hb2 hF -
 refine Dc (Ja (v := .agg (List.toArray cs)) (Ec (l := cs) isAgg27 sizeOf27 rfl hl (hF.cellsAll 1 rfl)) ?_)
 have hB : BW w0 [] w b2 b2 161 [.bool false, .int .i64 ((0 : Nat) : Int)] [] := BW.own ⟨.inr ⟨rfl, _, _, rfl⟩, Nat.le_refl _, _, _, hF.heap (i := 0) rfl, World.ownsRow_nil _ _ _ _, .inl rfl⟩ (hF.ge (i := 0) rfl) hF.same.size
 have nb1 : b1 ≠ b2 := Yf hF.desc (i := 1) (j := 0) rfl rfl Qa
 have hge := hF.ge (i := 0) rfl
 replace hF : FR w0 [] [(b1, .cells cs.toArray 27)] w := hF.drop 1
 have hXo : Rep (fun b => b ∉ Wk w b2 b2) w (Zc x) cs := (rx.old.same hF.same Fa).weaken fun b hb _ hm => by have h1 := hb.2; rcases Re.1 hm with rfl | ⟨-, h2, -⟩ <;> omega
 refine Cb (NE x false 0 0 _ b2 b2 [] cs hB.bd (hG.ext hF.same) (by have := hG.size; omega) hXo hq (E9 (by simpa using hc0)) by_Om (by have := Lt (x := x) (by simpa using hc0); omega) (by simpa using hlim (by simpa using hc0))) (Bc O0 rfl rfl rfl rfl) ?_
 rintro _ w ⟨rfl, hBd2, hE⟩
 replace hF := hF.wrote hB hE (by simp [Rh, nb1])
 replace hB := hB.wrote hBd2 hE
 clear hBd2 hE
 refine Dc (Ca (Ac Lg rfl) ?_)
 refine Cb (H4 hB.bd (by simpa using SE false 0 x 0 (by simpa using hc0))) (Ib ZC rfl rfl) ?_
 rintro _ w ⟨rfl, hE⟩
 replace hF := hF.wrote hB hE (by simp [Rh, nb1])
 clear hE
 refine Ca (Ti rfl) (Ca (Qc rfl) (Ha ?_))
 refine Wb (Vb (Ua (Wd (v := .string (bs ([] ++ Ci false 0 x 0))) (x := .int .i64 0) rfl rfl rfl) ?_))
 exact ⟨by rw [if_pos (by simpa using hc0)]; rfl, hF.same⟩
end Go.Scarf
