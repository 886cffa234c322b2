/- A part of the proof. -/
import Derived.Test.YtepbomjpbdbejaaGreatDoorFacts
import Derived.Test.YtepbomjpbdbejaaGreatDoorNum
import Derived.Lib.AppendStr
import Derived.Lib.Builder
import Derived.Lib.UnsafeStr
import Derived.LaidEqlPtr
import Derived.Test.YtepbomjpbdbejaaGreatDoorShelf
import Derived.Lib.RuneBytes
import Derived.Test.YtepbomjpbdbejaaGreatDoorW19
import Derived.Laws.BytesString
import Derived.Test.YtepbomjpbdbejaaGreatDoorW2
import Derived.Lib.TrimU
set_option linter.all false
set_option maxHeartbeats 8000000
set_option maxRecDepth 10000
namespace Go.Scarf
open Go.RowKit Go.Proofs Go.Proofs.Tryz
section
variable {P : Program} {w w' w0 : World} {Ds E : List Nat} {bs_ : List (Nat × Obj)}
def Sh : Obj → Bool
  | .cells _ e _ => e == 5
  | _ => false
def Fo (w : World) (b : Nat) : Bool := match w.heap[b]? with | some o => Sh o | none => false
def Wk (w : World) (B pb : Nat) : List Nat := pb :: (List.range w.heap.size).filter fun b => decide (B ≤ b) && Fo w b
theorem Te {B pb x : Nat} : x ∈ Wk w B pb ↔ x = pb ∨ (x < w.heap.size ∧ B ≤ x ∧ Fo w x = true) := by simp [Wk]
theorem No {b : Nat} {o : Obj} (h : w.heap[b]? = some o) : Fo w b = Sh o := by simp [Fo, h]
def Shp (T : Nat) (rest : List Value) : Prop := (T = 159 ∧ rest = []) ∨ (T = 161 ∧ ∃ m i, rest = [.bool m, .int .i64 i])
theorem Shp.ne {T : Nat} {rest : List Value} (h : Shp T rest) : (T == 5) = false := by rcases h with ⟨rfl, -⟩ | ⟨rfl, -⟩ <;> rfl
structure Bd (w : World) (B pb T : Nat) (rest : List Value) (s : Str) : Prop where
  shp : Shp T rest
  le : B ≤ pb
  ex : ∃ ap v, w.heap[pb]? = some (.cells (ap :: v :: rest).toArray T) ∧ w.ownsRow B 5 1 v s.length (Lib.byteCells s) ∧ (ap = .pointer none ∨ ap = .pointer (some ⟨pb, 0, none⟩))
theorem Bd.lt {B pb T : Nat} {rest : List Value} {s : Str} (h : Bd w B pb T rest s) : pb < w.heap.size := by
  obtain ⟨ap, v, hh, -⟩ := h.ex; exact Da hh
theorem Bd.base {B pb T : Nat} {rest : List Value} {s : Str} (h : Bd w B pb T rest s) : B ≤ w.heap.size := Nat.le_trans h.le (Nat.le_of_lt h.lt)
theorem Nk {B n g : Nat} {v : Value} {xs : List Value} (h : w.ownsRow B 5 1 v n xs) (hg : v.ownBlock = some g) : g < w.heap.size ∧ B ≤ g ∧ Fo w g = true := by
  rcases h.2 with ⟨rfl, -⟩ | ⟨g', cap, cur, rfl, h1, h2, -⟩
  · cases hg
  · cases hg
    exact ⟨Da h2, h1, by rw [No h2]; rfl⟩
theorem U1 {B n g pb : Nat} {v : Value} {xs : List Value} (h : w.ownsRow B 5 1 v n xs) (hg : v.ownBlock = some g) : g ∈ Wk w B pb := Te.2 (.inr (Nk h hg))
theorem Sn {B n g pb : Nat} {v : Value} {xs : List Value} {o : Obj} (h : w.ownsRow B 5 1 v n xs) (hg : v.ownBlock = some g) (hh : w.heap[pb]? = some o) (ho : Sh o = false) : g ≠ pb := by
  rintro rfl
  have h1 := (Nk h hg).2.2
  rw [No hh, ho] at h1; cases h1
theorem Tg {B n : Nat} {v : Value} {xs : List Value} (h : w.ownsRow B 5 1 v n xs) (hs : Same E w w') (he : ∀ g, v.ownBlock = some g → g ∉ E) : w'.ownsRow B 5 1 v n xs := by
  refine ⟨h.1, ?_⟩
  rcases h.2 with h2 | ⟨g, cap, cur, rfl, h1, h2, h3⟩
  · exact .inl h2
  · exact .inr ⟨g, cap, cur, rfl, h1, (hs.block g (Da h2) (he g rfl)).trans h2, h3⟩
theorem Of {B n : Nat} {v : Value} {xs : List Value} (h : w.ownsRow B 5 1 v n xs) : ∃ A c, v = .slice A n c := by
  rcases h.2 with ⟨rfl, rfl⟩ | ⟨g, cap, cur, rfl, -⟩
  · exact ⟨_, _, rfl⟩
  · exact ⟨_, _, rfl⟩
theorem Wk.step {B pb x : Nat} (hs : Same (Wk w B pb) w w') (hx : x ∈ Wk w' B pb) : x ∈ Wk w B pb ∨ w.heap.size ≤ x := by
  by_cases h : x < w.heap.size
  · by_cases hm : x ∈ Wk w B pb
    · exact .inl hm
    · rcases Te.1 hx with rfl | ⟨h1, h2, h3⟩
      · exact .inl (Te.2 (.inl rfl))
      · refine absurd (Te.2 (.inr ⟨h, h2, ?_⟩)) hm
        rw [Fo, ← hs.block x h hm]; exact h3
  · exact .inr by_Om
theorem FR.grown {g : Option Nat} (h : FR w0 Ds bs_ w) (hg : w.grownBy w' g) (hr : ∀ b, g = some b → (b < w0.heap.size → b ∈ Ds) ∧ ∀ p ∈ bs_, p.1 ≠ b) : FR w0 Ds bs_ w' := by
  have hs : Same g.toList w w' := ⟨hg.os, hg.tape, hg.output, hg.size, fun b hb hn => hg.block b hb (fun e => hn (by simp [← e]))⟩
  exact h.touch hs (fun b hb => hr b (by simpa using hb))
theorem Yk (s t : Str) : Lib.byteCells (s ++ t) = Lib.byteCells s ++ Lib.byteCells t := Lib.byteCells_append s t
end
section
variable {P : Program} {w : World} {ρ : Operand → Value} {dst : Option Nat} {ty : TypeId} {pos : String} {aft : Array Edge} {g : Option (Nat × Bool)}
theorem Y9 {t t' te : Nat} {x y : Operand} (ht : P.underlying t = some (.pointer te)) (hx : ρ x = .pointer none) (hy : ρ y = .pointer none) :
    (execOp ρ ⟨dst, .binOp .eql t x y t', ty, pos, aft, g⟩).run P w = .ok (.value (.bool true)) w := by
  have h : ∀ d : Nat, (Op.equalIn (d + 1) t (.pointer none) (.pointer none)).run P w = .ok true w := fun d => by
    simp [Op.equalIn, run_underlying ht]
  have hg : (eqGuard .eql t x y (.pointer none) (.pointer none)).run P w = .ok () w := by unfold eqGuard; split <;> simp
  simp only [execOp, hx, hy, Sem.run_bind, hg, Result.andThen_ok, binOp]
  simp [Op.equal, Op.maxDepth, h 9999]
theorem K8 {t t' te : Nat} {x y : Operand} {a : Addr} (ht : P.underlying t = some (.pointer te)) (hx : ρ x = .pointer (some a)) (hy : ρ y = .pointer none) :
    (execOp ρ ⟨dst, .binOp .eql t x y t', ty, pos, aft, g⟩).run P w = .ok (.value (.bool false)) w := by
  have h : ∀ d : Nat, (Op.equalIn (d + 1) t (.pointer (some a)) (.pointer none)).run P w = .ok false w := fun d => by
    simp [Op.equalIn, run_underlying ht]
  have hg : (eqGuard .eql t x y (.pointer (some a)) (.pointer none)).run P w = .ok () w := by unfold eqGuard; split <;> simp
  simp only [execOp, hx, hy, Sem.run_bind, hg, Result.andThen_ok, binOp]
  simp [Op.equal, Op.maxDepth, h 9999]
theorem FE {t t' te : Nat} {x y : Operand} {a : Addr} {j : TypeInfo} (ht : P.underlying t = some (.pointer te)) (hte : P.info? te = some j) (hx : ρ x = .pointer (some a)) (hy : ρ y = .pointer (some a)) :
    (execOp ρ ⟨dst, .binOp .neq t x y t', ty, pos, aft, g⟩).run P w = .ok (.value (.bool false)) w := by
  have h := Lib.run_neq_ptr_same w a ht hte
  have hg : (eqGuard .neq t x y (.pointer (some a)) (.pointer (some a))).run P w = .ok () w := by unfold eqGuard; split <;> simp
  simp only [execOp, hx, hy, Sem.run_bind, hg, Result.andThen_ok, h, Sem.run_pure]
theorem Ru {t t' : Nat} {x : Operand} {v : Value} (hx : ρ x = v) (h : (convert t t' v).run P w = .ok v w) : (execOp ρ ⟨dst, .convert t t' x, ty, pos, aft, g⟩).run P w = .ok (.value v) w := by
  simp [execOp, hx, h]
theorem SD {f : FuncId} {fn : Func} {e : Array Value → Sem Value} {x1 : Operand} {ats : Array TypeId} {v1 v : Value} (hf : P.funcs[f]? = some fn) (hname : (fn.name == "runtime.NumGoroutine") = false)
    (hb : fn.body.isNone = true) (hn : Extern.findNext fn = none) (he : Extern.find fn = some e) (h0 : ρ (.func f) = .func (.func f) #[] #[]) (h1 : ρ x1 = v1) (hr : (e #[v1]).run P w = .ok v w) :
    (execOp ρ ⟨dst, .call ⟨.value (.func f), #[x1], ats⟩, ty, pos, aft, g⟩).run P w = .ok (.value v) w := by
  simp [execOp, resolve, Deferred.ofValue, h0, h1, invoke, run_callFunc_extern hf hname hb hn he, hr]
theorem MH {x : Operand} {ats : Array TypeId} {a : Addr} {n c : Nat} (hx : ρ x = .slice (some a) n c) (hc : c ≠ 0) : (execOp ρ ⟨dst, .call ⟨.builtin .unsafeSliceData, #[x], ats⟩, ty, pos, aft, g⟩).run P w = .ok (.value (.pointer (some a))) w := by
  simp [execOp, resolve, invoke, builtin, hx, Lib.run_unsafeSliceData_row w ats ty a n c hc]
theorem VH {x y : Operand} {t1 t2 : Nat} {u v r : Value} {w' : World} (hx : ρ x = u) (hy : ρ y = v) (h : (Builtin.unsafeString_ #[t1, t2] ty #[u, v]).run P w = .ok r w') : (execOp ρ ⟨dst, .call ⟨.builtin .unsafeString, #[x, y], #[t1, t2]⟩, ty, pos, aft, g⟩).run P w = .ok (.value r) w' := by
  simp [execOp, resolve, invoke, builtin, hx, hy, h]
theorem HB {x y : Operand} {t1 t2 : TypeId} {u v : Value} {r : Value} {w' : World} (hx : ρ x = u) (hy : ρ y = v) (h : (Builtin.append_ #[t1, t2] ty #[u, v]).run P w = .ok r w') :
    (execOp ρ ⟨dst, .call ⟨.builtin .append, #[x, y], #[t1, t2]⟩, ty, pos, aft, g⟩).run P w = .ok (.value r) w' := by
  simp [execOp, resolve, invoke, builtin, hx, hy, h]
end
section
variable {P : Program} {R : Exit → Act → World → Prop} {n : Nat} {kt : Kt} {s : Nat → Value} {w : World} {ops rest : List Oper}
variable {d : Nat} {ty : TypeId} {pos : String} {aft : Array Edge} {g : Option (Nat × Bool)}
variable {w0 : World} {Ds : List Nat} {bs_ : List (Nat × Obj)}
theorem EF {x y : Operand} {t B len c2 k : Nat} {v : Value} {xs news : List Value} {a : Addr} (hE : Elems P t 5 1 1)
    (hF : FR w0 Ds bs_ w) (hO : w.ownsRow B 5 1 v len xs) (hB : B ≤ w.heap.size) (hx : ev n s x = v) (hy : ev n s y = .slice (some a) k c2)
    (hl : news.length = k * 1) (hnews : ∀ j u, news[j]? = some u → w.cell? (a.add j) = some u) (h1 : ∀ u ∈ news, u.oneCell' = true) (hb : len + k ≤ 140737488355328)
    (hr : ∀ b, v.ownBlock = some b → (b < w0.heap.size → b ∈ Ds) ∧ ∀ p ∈ bs_, p.1 ≠ b)
    (h : ∀ v' w', w'.ownsRow B 5 1 v' (len + k) (xs ++ news) → FR w0 Ds bs_ w' → w.heap.size ≤ w'.heap.size → Og P R n ops kt rest (Jg s d v') w')
    (hw : Sb ops n s ⟨some d, .call ⟨.builtin .append, #[x, y], #[t, t]⟩, ty, pos, aft, g⟩ = true := by rfl) : Og P R n ops kt (⟨some d, .call ⟨.builtin .append, #[x, y], #[t, t]⟩, ty, pos, aft, g⟩ :: rest) s w := by
  obtain ⟨i, z, hi, hz, h2, h3, h4⟩ := hE.info
  obtain ⟨v', w', hr', hO', hg, -⟩ := run_append_own (P := P) w B t ty 5 i z 1 1 hE.ht hi hz h2 h3 h4 Pa v len xs hO a k c2 news hl hnews h1 (by unfold maxLen; omega) by_Om hB
  exact Ja (Qv hx hy hr') (h v' w' hO' (hF.grown hg hr) hg.size) hw
theorem PE {x y : Operand} {t u B len : Nat} {v : Value} {xs : List Value} {str : Str} (hE : Elems P t 5 1 1) (hz0 : (P.info? 5).map (·.zero) = some (some (.int .u8 0))) (hu : P.underlying u = some .string)
    (hF : FR w0 Ds bs_ w) (hO : w.ownsRow B 5 1 v len xs) (hB : B ≤ w.heap.size) (hx : ev n s x = v) (hy : ev n s y = .string (bs str)) (hb : len + str.length ≤ 140737488355328)
    (hr : ∀ b, v.ownBlock = some b → (b < w0.heap.size → b ∈ Ds) ∧ ∀ p ∈ bs_, p.1 ≠ b)
    (h : ∀ v' w', w'.ownsRow B 5 1 v' (len + str.length) (xs ++ Lib.byteCells str) → FR w0 Ds bs_ w' → w.heap.size ≤ w'.heap.size → Og P R n ops kt rest (Jg s d v') w')
    (hw : Sb ops n s ⟨some d, .call ⟨.builtin .append, #[x, y], #[t, u]⟩, ty, pos, aft, g⟩ = true := by rfl) : Og P R n ops kt (⟨some d, .call ⟨.builtin .append, #[x, y], #[t, u]⟩, ty, pos, aft, g⟩ :: rest) s w := by
  obtain ⟨i, z, hi, hz, h2, h3, h4⟩ := hE.info
  rw [hi] at hz0
  have hz1 : i.zero = some (.int .u8 0) := by simpa using hz0
  have e : (bs str).size = str.length := Ql str
  obtain ⟨v', w', hr', hO', hg, -⟩ := Lib.run_append_own_string (P := P) w B t u ty 5 i hE.ht hu hi hz1 h2 h3 v len xs hO (bs str) (by rw [e]; unfold maxLen; omega) (by rw [e]; omega) hB
  rw [e] at hO'
  exact Ja (HB hx hy hr') (h v' w' (by simpa [Lib.strCells_eq, Tm, bs] using hO') (hF.grown hg hr) hg.size) hw
end
end Go.Scarf
namespace Go.Scarf
open Go.RowKit Go.Proofs Go.Proofs.Tryz
theorem OD : liesAt prog prog.depth 159 (2 / prog.cellsOf 159) 0 159 1 = true := by kernel_rfl
theorem ZB : liesAt prog prog.depth 161 (4 / prog.cellsOf 161) 0 159 1 = true := by kernel_rfl
theorem Js : (prog.info? 159).map (·.size) = some 2 := by kernel_rfl
theorem F2 (w0 : World) (pb : Nat) (v : Value) (hh : w0.heap[pb]? = some (.cells #[.pointer none, v] 159)) : Calls prog 183 #[.pointer (some ⟨pb, 0, none⟩)] w0 (Nd fun v_ w' => v_ = .tuple #[] ∧ Same [pb] w0 w' ∧ w'.heap[pb]? = some (.cells #[.pointer (some ⟨pb, 0, none⟩), v] 159)) := by
 obtain ⟨j, hj, hjs⟩ := Option.map_eq_some_iff.1 Js
 have hne : pb < w0.heap.size := Da hh
 refine Ka func183 rfl ntmps183 Kb (Yc _) ?_
 have hF : FR w0 [pb] [(pb, .cells #[.pointer none, v] 159)] w0 := FR.open_ (by simpa using hh) Fa
 refine Ma (Ca (Qd rfl) (Ca (Ze rfl) (Ca (Ac Sj rfl) (Md (GG isAgg156 rfl hF.F 0 rfl rfl) (Ja (v := .bool true) (Y9 underlying156 rfl rfl) (Ga (Je rfl (Ea (Ca (Qd rfl) (Ca (Qd rfl) ?_))))))))))
 refine Ja (v := .pointer (some ⟨pb, 0, none⟩)) (Ru rfl (Lib.run_to_unsafe _ ⟨pb, 0, none⟩ underlying156 underlying239 hj (by rw [hjs]; decide) (e := 159) (cells := 2) (by simp [World.shape?, hF.heap (i := 0) rfl]) (Nat.zero_lt_succ _))) ?_
 refine Ja (v := .pointer (some ⟨pb, 0, none⟩)) (SD func219 Eb Eb Eb (e := Extern.AbiNoEscape.same) Eb rfl rfl (Lib.run_noEscape _ _)) ?_
 refine Ja (v := .pointer (some ⟨pb, 0, none⟩)) (Ru rfl (Lib.run_from_unsafe _ ⟨pb, 0, none⟩ underlying239 underlying156 hj (e := 159) (cells := 2) (by simp [World.shape?, hF.heap (i := 0) rfl]) OD)) ?_
 refine Ca (Ze rfl) (Ca (Ac Sj rfl) ?_)
 refine Fm (.pointer _) hF sizeOf156 rfl rfl Ol Ol ?_
 clear hF; rintro w hF -
 refine Za ?_
 refine Rd (Pc (Pe rfl) ?_)
 exact ⟨rfl, hF.same, hF.heap (i := 0) rfl⟩
theorem O0 (w0 : World) (pb : Nat) (v : Value) (m : Bool) (i : Int) (hh : w0.heap[pb]? = some (.cells #[.pointer none, v, .bool (m), .int .i64 i] 161)) : Calls prog 183 #[.pointer (some ⟨pb, 0, none⟩)] w0 (Nd fun v_ w' => v_ = .tuple #[] ∧ Same [pb] w0 w' ∧ w'.heap[pb]? = some (.cells #[.pointer (some ⟨pb, 0, none⟩), v, .bool (m), .int .i64 i] 161)) := by
 obtain ⟨j, hj, hjs⟩ := Option.map_eq_some_iff.1 Js
 have hne : pb < w0.heap.size := Da hh
 refine Ka func183 rfl ntmps183 Kb (Yc _) ?_
 have hF : FR w0 [pb] [(pb, .cells #[.pointer none, v, .bool (m), .int .i64 i] 161)] w0 := FR.open_ (by simpa using hh) Fa
 refine Ma (Ca (Qd rfl) (Ca (Ze rfl) (Ca (Ac Sj rfl) (Md (GG isAgg156 rfl hF.F 0 rfl rfl) (Ja (v := .bool true) (Y9 underlying156 rfl rfl) (Ga (Je rfl (Ea (Ca (Qd rfl) (Ca (Qd rfl) ?_))))))))))
 refine Ja (v := .pointer (some ⟨pb, 0, none⟩)) (Ru rfl (Lib.run_to_unsafe _ ⟨pb, 0, none⟩ underlying156 underlying239 hj (by rw [hjs]; decide) (e := 161) (cells := 4) (by simp [World.shape?, hF.heap (i := 0) rfl]) (Nat.zero_lt_succ _))) ?_
 refine Ja (v := .pointer (some ⟨pb, 0, none⟩)) (SD func219 Eb Eb Eb (e := Extern.AbiNoEscape.same) Eb rfl rfl (Lib.run_noEscape _ _)) ?_
 refine Ja (v := .pointer (some ⟨pb, 0, none⟩)) (Ru rfl (Lib.run_from_unsafe _ ⟨pb, 0, none⟩ underlying239 underlying156 hj (e := 161) (cells := 4) (by simp [World.shape?, hF.heap (i := 0) rfl]) ZB)) ?_
 refine Ca (Ze rfl) (Ca (Ac Sj rfl) ?_)
 refine Fm (.pointer _) hF sizeOf156 rfl rfl Ol Ol ?_
 clear hF; rintro w hF -
 refine Za ?_
 refine Rd (Pc (Pe rfl) ?_)
 exact ⟨rfl, hF.same, hF.heap (i := 0) rfl⟩
theorem E0 (w0 : World) (pb : Nat) (v : Value) (hh : w0.heap[pb]? = some (.cells #[.pointer (some ⟨pb, 0, none⟩), v] 159)) : Calls prog 183 #[.pointer (some ⟨pb, 0, none⟩)] w0 (Nd fun v_ w' => v_ = .tuple #[] ∧ Same [pb] w0 w' ∧ w'.heap[pb]? = some (.cells #[.pointer (some ⟨pb, 0, none⟩), v] 159)) := by
 obtain ⟨j, hj, hjs⟩ := Option.map_eq_some_iff.1 Js
 have hne : pb < w0.heap.size := Da hh
 refine Ka func183 rfl ntmps183 Kb (Yc _) ?_
 have hF : FR w0 [pb] [(pb, .cells #[.pointer (some ⟨pb, 0, none⟩), v] 159)] w0 := FR.open_ (by simpa using hh) Fa
 refine Ma (Ca (Qd rfl) (Ca (Ze rfl) (Ca (Ac Sj rfl) (Md (GG isAgg156 rfl hF.F 0 rfl rfl) (Ja (v := .bool false) (K8 underlying156 rfl rfl) (Ga (Mg rfl (Ma (Ca (Qd rfl) (Ca (Ze rfl) ?_))))))))))
 refine Ca (Ac Sj rfl) (Md (GG isAgg156 rfl hF.F 0 rfl rfl) (Ca (Qd rfl) (Ja (v := .bool false) (FE underlying156 hj rfl rfl) (Ga (Mg rfl (Wa ?_))))))
 refine Rd (Pc (Pe rfl) ?_)
 exact ⟨rfl, hF.same, hF.heap (i := 0) rfl⟩
theorem F0 (w0 : World) (pb : Nat) (v : Value) (m : Bool) (i : Int) (hh : w0.heap[pb]? = some (.cells #[.pointer (some ⟨pb, 0, none⟩), v, .bool (m), .int .i64 i] 161)) : Calls prog 183 #[.pointer (some ⟨pb, 0, none⟩)] w0 (Nd fun v_ w' => v_ = .tuple #[] ∧ Same [pb] w0 w' ∧ w'.heap[pb]? = some (.cells #[.pointer (some ⟨pb, 0, none⟩), v, .bool (m), .int .i64 i] 161)) := by
 obtain ⟨j, hj, hjs⟩ := Option.map_eq_some_iff.1 Js
 have hne : pb < w0.heap.size := Da hh
 refine Ka func183 rfl ntmps183 Kb (Yc _) ?_
 have hF : FR w0 [pb] [(pb, .cells #[.pointer (some ⟨pb, 0, none⟩), v, .bool (m), .int .i64 i] 161)] w0 := FR.open_ (by simpa using hh) Fa
 refine Ma (Ca (Qd rfl) (Ca (Ze rfl) (Ca (Ac Sj rfl) (Md (GG isAgg156 rfl hF.F 0 rfl rfl) (Ja (v := .bool false) (K8 underlying156 rfl rfl) (Ga (Mg rfl (Ma (Ca (Qd rfl) (Ca (Ze rfl) ?_))))))))))
 refine Ca (Ac Sj rfl) (Md (GG isAgg156 rfl hF.F 0 rfl rfl) (Ca (Qd rfl) (Ja (v := .bool false) (FE underlying156 hj rfl rfl) (Ga (Mg rfl (Wa ?_))))))
 refine Rd (Pc (Pe rfl) ?_)
 exact ⟨rfl, hF.same, hF.heap (i := 0) rfl⟩
theorem Ii {w0 : World} {B pb T : Nat} {rest : List Value} {s : Str} (h : Bd w0 B pb T rest s) :
    ∃ v, w0.ownsRow B 5 1 v s.length (Lib.byteCells s) ∧ (∀ g, v.ownBlock = some g → g ∈ Wk w0 B pb ∧ g ≠ pb) ∧
      Calls prog 183 #[.pointer (some ⟨pb, 0, none⟩)] w0 (Nd fun u w' => u = .tuple #[] ∧ Same [pb] w0 w' ∧ w'.heap[pb]? = some (.cells (.pointer (some ⟨pb, 0, none⟩) :: v :: rest).toArray T) ∧ w'.ownsRow B 5 1 v s.length (Lib.byteCells s)) := by
  obtain ⟨hs, hle, ap, v, hh, hO, ha⟩ := h
  have hne : ∀ g, v.ownBlock = some g → g ≠ pb := fun g hg => Sn hO hg hh (by exact hs.ne)
  refine ⟨v, hO, fun g hg => ⟨U1 hO hg, hne g hg⟩, ?_⟩
  have fin : ∀ {u : Value} {w' : World}, (u = .tuple #[] ∧ Same [pb] w0 w' ∧ w'.heap[pb]? = some (.cells (.pointer (some ⟨pb, 0, none⟩) :: v :: rest).toArray T)) → (u = .tuple #[] ∧ Same [pb] w0 w' ∧ w'.heap[pb]? = some (.cells (.pointer (some ⟨pb, 0, none⟩) :: v :: rest).toArray T) ∧ w'.ownsRow B 5 1 v s.length (Lib.byteCells s)) :=
    fun ⟨h1, h2, h3⟩ => ⟨h1, h2, h3, Tg hO h2 (fun g hg => by simpa using hne g hg)⟩
  rcases hs with ⟨rfl, rfl⟩ | ⟨rfl, m, i, rfl⟩ <;> rcases ha with rfl | rfl
  · exact Fh (F2 w0 pb v hh) fun _ _ => fin
  · exact Fh (E0 w0 pb v hh) fun _ _ => fin
  · exact Fh (O0 w0 pb v m i hh) fun _ _ => fin
  · exact Fh (F0 w0 pb v m i hh) fun _ _ => fin
end Go.Scarf
namespace Go.Scarf
open Go.RowKit Go.Proofs Go.Proofs.Tryz
theorem Kz : (prog.info? 5).map (·.zero) = some (some (.int .u8 0)) := by kernel_rfl
theorem FR.addD {w0 w : World} {Ds : List Nat} {bs_ : List (Nat × Obj)} {b : Nat} {o : Obj} (h : FR w0 Ds bs_ w) (hh : w.heap[b]? = some o) (hd : w0.heap.size ≤ b ∨ b ∈ Ds) (hn : ∀ p ∈ bs_, p.1 ≠ b) : FR w0 Ds ((b, o) :: bs_) w :=
  ⟨h.same, fun p hp => by
    rcases List.mem_cons.1 hp with rfl | hp
    · exact ⟨hh, hd⟩
    · exact h.own p hp, List.pairwise_cons.2 ⟨fun q hq => hn q hq, h.desc⟩⟩
def Ki (r : Int) : Str := (Lib.encodeRuneZ r).map fun x => UInt8.ofNat x.toNat
theorem Mn (r : Int) : 1 ≤ (Ki r).length ∧ (Ki r).length ≤ 4 := by rw [Ki, List.length_map]; exact Lib.encodeRuneZ_length r
theorem Lg (r : Int) : Lib.byteCells (Ki r) = Lib.runeCells r := by
  rw [Ki, Lib.byteCells, Lib.runeCells, List.map_map]
  refine List.map_congr_left fun x hx => ?_
  have := Lib.encodeRuneZ_byte r x hx
  simp only [Function.comp_apply, Value.int.injEq, true_and, UInt8.toNat_ofNat']
  omega
theorem Fs {w : World} {B n : Nat} {v : Value} {xs : List Value} {r : Int} (hO : w.ownsRow B 5 1 v n xs) (h0 : -2147483648 ≤ r) (h1 : r ≤ 2147483647) (hn : n + 4 ≤ 140737488355328) (hB : B ≤ w.heap.size) :
    Calls prog 238 #[v, .int .i32 r] w (Nd fun v' w' => w'.ownsRow B 5 1 v' (n + (Ki r).length) (xs ++ Lib.byteCells (Ki r)) ∧ ∃ o, (w.alloc o).grownBy w' v.ownBlock) := by
  refine (utf8_AppendRune_plain B v n xs r h0 h1 w hO hn hB).mono fun e w' ⟨v', he, h2, h3⟩ => ⟨v', he, ?_, h3⟩
  have e1 : (Ki r).length = (Lib.runeCells r).length := by rw [← Lg, Lib.byteCells_length]
  rw [e1, Lg]; exact h2
def Xq (f : Nat) (args : Array Value) (u : Value) (w0 : World) (B pb T : Nat) (rest : List Value) (s : Str) : Prop :=
  Calls prog f args w0 (Nd fun v w' => v = u ∧ Bd w' B pb T rest s ∧ Same (Wk w0 B pb) w0 w')
theorem G3 (w0 : World) (B pb : Nat) (s : Str) (hB : Bd w0 B pb 159 [] s) (c : UInt8) (hl : s.length + 1 ≤ 140737488355328) : Xq 191 #[.pointer (some ⟨pb, 0, none⟩), .int .u8 ((c.toNat : Nat) : Int)] .nilIface w0 B pb 159 [] (s ++ [c]) := by
 unfold Xq
 refine Ka func191 rfl ntmps191 Kb (Td _ _) ?_
 obtain ⟨v, hO0, hv, hC⟩ := Ii hB
 have hle := hB.le
 have hBw := hB.base
 have hlt := hB.lt
 have hws := Nat.le_refl w0.heap.size
 have hvl : ∀ g, v.ownBlock = some g → g < w0.heap.size := fun g hg => (Nk hO0 hg).1
 obtain ⟨A1, c1, rfl⟩ := Of hO0
 have hF := FR.start w0 (Wk w0 B pb)
 refine Ma (Ca (Mx) (Dc (Ca (Qd rfl) ?_)))
 refine Ya hC (Fb Ct rfl rfl) ?_
 rintro _ w ⟨rfl, hE, hh, hO⟩
 replace hws := Nat.le_trans hws hE.size
 replace hBw := Nat.le_trans hBw hE.size
 replace hF : FR w0 (Wk w0 B pb) [(pb, .cells #[.pointer (some ⟨pb, 0, none⟩), .slice A1 s.length c1] 159)] w := (hF.touch hE (fun b hb => by obtain rfl := List.mem_singleton.1 hb; exact ⟨fun _ => Te.2 (.inl rfl), by simp⟩)).addD hh (.inr (Te.2 (.inl rfl))) Fa
 clear hE hh
 refine Dc (Ca (Qd rfl) (Ca (Qd rfl) (Ca (Ze rfl) (Ca (Ac Vd rfl) (Md (Di isAgg157 rfl hF.F 0 rfl rfl) (Ca (Ib rfl) ?_))))))
 refine Se 1 hF (Sa (cs := #[.int .u8 ((c.toNat : Nat))]) underlying157 sizeOf5 zeroValue5 Pa Pa Eb) ?_
 clear hF; intro b1 w hb1 hF hE
 have nb1 : w0.heap.size ≤ b1 := by rw [hb1]; exact hws
 replace hws := Nat.le_trans hws hE.size
 replace hBw := Nat.le_trans hBw hE.size
 replace hO := Tg hO hE Fa
 clear hE
 refine EF (news := [.int .u8 ((c.toNat : Nat) : Int)]) H0 hF hO hBw rfl rfl rfl (Jb (hF.cellsAll 0 rfl)) (by simp [Value.oneCell']) by_Om (fun b hb => ⟨fun _ => (hv b hb).1, by have h1 := (hv b hb).2; have h2 := hvl b hb; intro p hp; simp only [List.mem_cons, List.not_mem_nil, or_false] at hp; rcases hp with rfl | rfl <;> grind⟩) ?_
 clear hF hO; intro v2 w hO hF hsz
 replace hws := Nat.le_trans hws hsz
 replace hBw := Nat.le_trans hBw hsz
 have hne2 : ∀ g, v2.ownBlock = some g → g ≠ pb := fun g hg => Sn hO hg (hF.heap (i := 1) rfl) rfl
 obtain ⟨A2, c2, rfl⟩ := Of hO
 clear hsz
 refine Ca (Ze rfl) (Ca (Ac Vd rfl) ?_)
 refine Fm (.slice _ _ _) hF sizeOf157 rfl rfl I2 I2 ?_
 clear hF; intro w hF hE
 replace hws := Nat.le_trans hws hE.size
 replace hBw := Nat.le_trans hBw hE.size
 replace hO := Tg hO hE (fun g hg => by simpa using hne2 g hg)
 clear hE
 refine Dc (Ca (Mx) (Ga ?_))
 refine Wd (v := .nilIface) rfl rfl ?_
 exact ⟨rfl, ⟨.inl ⟨rfl, rfl⟩, hle, _, _, hF.heap (i := 1) rfl, by simpa [Yk, Lib.byteCells, Lg] using hO, .inr rfl⟩, hF.same⟩
theorem Cy (w0 : World) (B pb : Nat) (s : Str) (hB : Bd w0 B pb 159 [] s) (t : Str) (hl : s.length + t.length ≤ 140737488355328) : Xq 154 #[.pointer (some ⟨pb, 0, none⟩), .string (bs t)] (.tuple #[.int .i64 ((t.length : Nat) : Int), .nilIface]) w0 B pb 159 [] (s ++ t) := by
 unfold Xq
 refine Ka func154 rfl ntmps154 Kb (Td _ _) ?_
 obtain ⟨v, hO0, hv, hC⟩ := Ii hB
 have hle := hB.le
 have hBw := hB.base
 have hlt := hB.lt
 have hws := Nat.le_refl w0.heap.size
 have hvl : ∀ g, v.ownBlock = some g → g < w0.heap.size := fun g hg => (Nk hO0 hg).1
 obtain ⟨A1, c1, rfl⟩ := Of hO0
 have hF := FR.start w0 (Wk w0 B pb)
 refine Ma (Ca (Ic rfl) (Ca (Mx) (Dc (Ca (Qd rfl) ?_))))
 refine Ya hC (Fb Ct rfl rfl) ?_
 rintro _ w ⟨rfl, hE, hh, hO⟩
 replace hws := Nat.le_trans hws hE.size
 replace hBw := Nat.le_trans hBw hE.size
 replace hF : FR w0 (Wk w0 B pb) [(pb, .cells #[.pointer (some ⟨pb, 0, none⟩), .slice A1 s.length c1] 159)] w := (hF.touch hE (fun b hb => by obtain rfl := List.mem_singleton.1 hb; exact ⟨fun _ => Te.2 (.inl rfl), by simp⟩)).addD hh (.inr (Te.2 (.inl rfl))) Fa
 clear hE hh
 refine Dc (Ca (Qd rfl) (Ca (Qd rfl) (Ca (Ze rfl) (Ca (Ac Vd rfl) (Md (Di isAgg157 rfl hF.F 0 rfl rfl) (Ca (Xe rfl) ?_))))))
 refine PE (str := t) H0 Kz underlying9 hF hO hBw rfl rfl by_Om (fun b hb => ⟨fun _ => (hv b hb).1, by have h1 := (hv b hb).2; have h2 := hvl b hb; intro p hp; simp only [List.mem_cons, List.not_mem_nil, or_false] at hp; rcases hp with rfl <;> grind⟩) ?_
 clear hF hO; intro v2 w hO hF hsz
 replace hws := Nat.le_trans hws hsz
 replace hBw := Nat.le_trans hBw hsz
 have hne2 : ∀ g, v2.ownBlock = some g → g ≠ pb := fun g hg => Sn hO hg (hF.heap (i := 0) rfl) rfl
 obtain ⟨A2, c2, rfl⟩ := Of hO
 clear hsz
 refine Ca (Ze rfl) (Ca (Ac Vd rfl) ?_)
 refine Fm (.slice _ _ _) hF sizeOf157 rfl rfl Ol I2 ?_
 clear hF; intro w hF hE
 replace hws := Nat.le_trans hws hE.size
 replace hBw := Nat.le_trans hBw hE.size
 replace hO := Tg hO hE (fun g hg => by simpa using hne2 g hg)
 clear hE
 refine Dc (Ca (Xe rfl) (Ca (W3 underlying9 rfl) (Ca (Ic rfl) (Ca (Mx) (Ga ?_)))))
 refine Zb (Xb (Ua (We (v := .int .i64 ((((t) : Str).length : Int))) (x := .nilIface) rfl rfl rfl) ?_))
 exact ⟨rfl, ⟨.inl ⟨rfl, rfl⟩, hle, _, _, hF.heap (i := 0) rfl, by simpa [Yk, Lib.byteCells, Lg] using hO, .inr rfl⟩, hF.same⟩
theorem X2 (w0 : World) (B pb : Nat) (s : Str) (hB : Bd w0 B pb 159 [] s) (r : Int) (hr0 : -2147483648 ≤ r) (hr1 : r ≤ 2147483647) (hl : s.length + 4 ≤ 140737488355328) : Xq 226 #[.pointer (some ⟨pb, 0, none⟩), .int .i32 r] (.tuple #[.int .i64 (((Ki r).length : Nat) : Int), .nilIface]) w0 B pb 159 [] (s ++ Ki r) := by
 unfold Xq
 have hrl := Mn r
 refine Ka func226 rfl ntmps226 Kb (Td _ _) ?_
 obtain ⟨v, hO0, hv, hC⟩ := Ii hB
 have hle := hB.le
 have hBw := hB.base
 have hlt := hB.lt
 have hws := Nat.le_refl w0.heap.size
 have hvl : ∀ g, v.ownBlock = some g → g < w0.heap.size := fun g hg => (Nk hO0 hg).1
 obtain ⟨A1, c1, rfl⟩ := Of hO0
 have hF := FR.start w0 (Wk w0 B pb)
 refine Ma (Ca (Ic rfl) (Ca (Mx) (Dc (Ca (Qd rfl) ?_))))
 refine Ya hC (Fb Ct rfl rfl) ?_
 rintro _ w ⟨rfl, hE, hh, hO⟩
 replace hws := Nat.le_trans hws hE.size
 replace hBw := Nat.le_trans hBw hE.size
 replace hF : FR w0 (Wk w0 B pb) [(pb, .cells #[.pointer (some ⟨pb, 0, none⟩), .slice A1 s.length c1] 159)] w := (hF.touch hE (fun b hb => by obtain rfl := List.mem_singleton.1 hb; exact ⟨fun _ => Te.2 (.inl rfl), by simp⟩)).addD hh (.inr (Te.2 (.inl rfl))) Fa
 clear hE hh
 refine Dc (Ca (Qd rfl) (Ca (Ze rfl) (Ca (Ac Vd rfl) (Md (Di isAgg157 rfl hF.F 0 rfl rfl) (Ca (Mf underlying157 rfl) (Ca (Ic rfl) (Dc ?_)))))))
 refine Ca (Qd rfl) (Ca (Qd rfl) (Ca (Ze rfl) (Ca (Ac Vd rfl) (Md (Di isAgg157 rfl hF.F 0 rfl rfl) (Ca (Ib rfl) ?_)))))
 refine Ya (Fs hO hr0 hr1 by_Om hBw) (Mb HF rfl rfl rfl) ?_
 rintro v2 w2 ⟨hO2, o, hg⟩
 replace hF := (hF.ext (Same.alloc _ o)).grown hg (fun b hb => ⟨fun _ => (hv b hb).1, by have h1 := (hv b hb).2; have h2 := hvl b hb; intro p hp; simp only [List.mem_cons, List.not_mem_nil, or_false] at hp; rcases hp with rfl <;> grind⟩)
 have hsz := Nat.le_trans (Same.alloc _ o).size hg.size
 clear hO hg; revert hsz hF hO2; generalize w2 = w; intro hO hF hsz
 replace hws := Nat.le_trans hws hsz
 replace hBw := Nat.le_trans hBw hsz
 have hne2 : ∀ g, v2.ownBlock = some g → g ≠ pb := fun g hg => Sn hO hg (hF.heap (i := 0) rfl) rfl
 obtain ⟨A2, c2, rfl⟩ := Of hO
 clear hsz
 refine Ca (Ze rfl) (Ca (Ac Vd rfl) ?_)
 refine Fm (.slice _ _ _) hF sizeOf157 rfl rfl Ol I2 ?_
 clear hF; intro w hF hE
 replace hws := Nat.le_trans hws hE.size
 replace hBw := Nat.le_trans hBw hE.size
 replace hO := Tg hO hE (fun g hg => by simpa using hne2 g hg)
 clear hE
 refine Dc (Ca (Qd rfl) (Ca (Ze rfl) (Ca (Ac Vd rfl) (Md (Di isAgg157 rfl hF.F 0 rfl rfl) (Ca (Mf underlying157 rfl) (Ca (Ib rfl) (Ca (Rw (((Ki r).length : Nat)) rfl rfl) (Ca (Ic rfl) (Ca (Mx) (Za ?_))))))))))
 refine Ha ?_
 refine Zb (Xb (Ua (We (v := .int .i64 (((Ki r).length : Nat))) (x := .nilIface) rfl rfl rfl) ?_))
 exact ⟨rfl, ⟨.inl ⟨rfl, rfl⟩, hle, _, _, hF.heap (i := 0) rfl, by simpa [Yk, Lib.byteCells, Lg] using hO, .inr rfl⟩, hF.same⟩
theorem O2 (w0 : World) (B pb : Nat) (m : Bool) (i : Int) (s : Str) (hB : Bd w0 B pb 161 [.bool (m), .int .i64 i] s) (c : UInt8) (hl : s.length + 1 ≤ 140737488355328) : Xq 191 #[.pointer (some ⟨pb, 0, none⟩), .int .u8 ((c.toNat : Nat) : Int)] .nilIface w0 B pb 161 [.bool (m), .int .i64 i] (s ++ [c]) := by
 unfold Xq
 refine Ka func191 rfl ntmps191 Kb (Td _ _) ?_
 obtain ⟨v, hO0, hv, hC⟩ := Ii hB
 have hle := hB.le
 have hBw := hB.base
 have hlt := hB.lt
 have hws := Nat.le_refl w0.heap.size
 have hvl : ∀ g, v.ownBlock = some g → g < w0.heap.size := fun g hg => (Nk hO0 hg).1
 obtain ⟨A1, c1, rfl⟩ := Of hO0
 have hF := FR.start w0 (Wk w0 B pb)
 refine Ma (Ca (Mx) (Dc (Ca (Qd rfl) ?_)))
 refine Ya hC (Fb Ct rfl rfl) ?_
 rintro _ w ⟨rfl, hE, hh, hO⟩
 replace hws := Nat.le_trans hws hE.size
 replace hBw := Nat.le_trans hBw hE.size
 replace hF : FR w0 (Wk w0 B pb) [(pb, .cells #[.pointer (some ⟨pb, 0, none⟩), .slice A1 s.length c1, .bool (m), .int .i64 i] 161)] w := (hF.touch hE (fun b hb => by obtain rfl := List.mem_singleton.1 hb; exact ⟨fun _ => Te.2 (.inl rfl), by simp⟩)).addD hh (.inr (Te.2 (.inl rfl))) Fa
 clear hE hh
 refine Dc (Ca (Qd rfl) (Ca (Qd rfl) (Ca (Ze rfl) (Ca (Ac Vd rfl) (Md (Di isAgg157 rfl hF.F 0 rfl rfl) (Ca (Ib rfl) ?_))))))
 refine Se 1 hF (Sa (cs := #[.int .u8 ((c.toNat : Nat))]) underlying157 sizeOf5 zeroValue5 Pa Pa Eb) ?_
 clear hF; intro b1 w hb1 hF hE
 have nb1 : w0.heap.size ≤ b1 := by rw [hb1]; exact hws
 replace hws := Nat.le_trans hws hE.size
 replace hBw := Nat.le_trans hBw hE.size
 replace hO := Tg hO hE Fa
 clear hE
 refine EF (news := [.int .u8 ((c.toNat : Nat) : Int)]) H0 hF hO hBw rfl rfl rfl (Jb (hF.cellsAll 0 rfl)) (by simp [Value.oneCell']) by_Om (fun b hb => ⟨fun _ => (hv b hb).1, by have h1 := (hv b hb).2; have h2 := hvl b hb; intro p hp; simp only [List.mem_cons, List.not_mem_nil, or_false] at hp; rcases hp with rfl | rfl <;> grind⟩) ?_
 clear hF hO; intro v2 w hO hF hsz
 replace hws := Nat.le_trans hws hsz
 replace hBw := Nat.le_trans hBw hsz
 have hne2 : ∀ g, v2.ownBlock = some g → g ≠ pb := fun g hg => Sn hO hg (hF.heap (i := 1) rfl) rfl
 obtain ⟨A2, c2, rfl⟩ := Of hO
 clear hsz
 refine Ca (Ze rfl) (Ca (Ac Vd rfl) ?_)
 refine Fm (.slice _ _ _) hF sizeOf157 rfl rfl I2 I2 ?_
 clear hF; intro w hF hE
 replace hws := Nat.le_trans hws hE.size
 replace hBw := Nat.le_trans hBw hE.size
 replace hO := Tg hO hE (fun g hg => by simpa using hne2 g hg)
 clear hE
 refine Dc (Ca (Mx) (Ga ?_))
 refine Wd (v := .nilIface) rfl rfl ?_
 exact ⟨rfl, ⟨.inr ⟨rfl, m, i, rfl⟩, hle, _, _, hF.heap (i := 1) rfl, by simpa [Yk, Lib.byteCells, Lg] using hO, .inr rfl⟩, hF.same⟩
theorem Vx (w0 : World) (B pb : Nat) (m : Bool) (i : Int) (s : Str) (hB : Bd w0 B pb 161 [.bool (m), .int .i64 i] s) (t : Str) (hl : s.length + t.length ≤ 140737488355328) : Xq 154 #[.pointer (some ⟨pb, 0, none⟩), .string (bs t)] (.tuple #[.int .i64 ((t.length : Nat) : Int), .nilIface]) w0 B pb 161 [.bool (m), .int .i64 i] (s ++ t) := by
 unfold Xq
 refine Ka func154 rfl ntmps154 Kb (Td _ _) ?_
 obtain ⟨v, hO0, hv, hC⟩ := Ii hB
 have hle := hB.le
 have hBw := hB.base
 have hlt := hB.lt
 have hws := Nat.le_refl w0.heap.size
 have hvl : ∀ g, v.ownBlock = some g → g < w0.heap.size := fun g hg => (Nk hO0 hg).1
 obtain ⟨A1, c1, rfl⟩ := Of hO0
 have hF := FR.start w0 (Wk w0 B pb)
 refine Ma (Ca (Ic rfl) (Ca (Mx) (Dc (Ca (Qd rfl) ?_))))
 refine Ya hC (Fb Ct rfl rfl) ?_
 rintro _ w ⟨rfl, hE, hh, hO⟩
 replace hws := Nat.le_trans hws hE.size
 replace hBw := Nat.le_trans hBw hE.size
 replace hF : FR w0 (Wk w0 B pb) [(pb, .cells #[.pointer (some ⟨pb, 0, none⟩), .slice A1 s.length c1, .bool (m), .int .i64 i] 161)] w := (hF.touch hE (fun b hb => by obtain rfl := List.mem_singleton.1 hb; exact ⟨fun _ => Te.2 (.inl rfl), by simp⟩)).addD hh (.inr (Te.2 (.inl rfl))) Fa
 clear hE hh
 refine Dc (Ca (Qd rfl) (Ca (Qd rfl) (Ca (Ze rfl) (Ca (Ac Vd rfl) (Md (Di isAgg157 rfl hF.F 0 rfl rfl) (Ca (Xe rfl) ?_))))))
 refine PE (str := t) H0 Kz underlying9 hF hO hBw rfl rfl by_Om (fun b hb => ⟨fun _ => (hv b hb).1, by have h1 := (hv b hb).2; have h2 := hvl b hb; intro p hp; simp only [List.mem_cons, List.not_mem_nil, or_false] at hp; rcases hp with rfl <;> grind⟩) ?_
 clear hF hO; intro v2 w hO hF hsz
 replace hws := Nat.le_trans hws hsz
 replace hBw := Nat.le_trans hBw hsz
 have hne2 : ∀ g, v2.ownBlock = some g → g ≠ pb := fun g hg => Sn hO hg (hF.heap (i := 0) rfl) rfl
 obtain ⟨A2, c2, rfl⟩ := Of hO
 clear hsz
 refine Ca (Ze rfl) (Ca (Ac Vd rfl) ?_)
 refine Fm (.slice _ _ _) hF sizeOf157 rfl rfl Ol I2 ?_
 clear hF; intro w hF hE
 replace hws := Nat.le_trans hws hE.size
 replace hBw := Nat.le_trans hBw hE.size
 replace hO := Tg hO hE (fun g hg => by simpa using hne2 g hg)
 clear hE
 refine Dc (Ca (Xe rfl) (Ca (W3 underlying9 rfl) (Ca (Ic rfl) (Ca (Mx) (Ga ?_)))))
 refine Zb (Xb (Ua (We (v := .int .i64 ((((t) : Str).length : Int))) (x := .nilIface) rfl rfl rfl) ?_))
 exact ⟨rfl, ⟨.inr ⟨rfl, m, i, rfl⟩, hle, _, _, hF.heap (i := 0) rfl, by simpa [Yk, Lib.byteCells, Lg] using hO, .inr rfl⟩, hF.same⟩
theorem K3 (w0 : World) (B pb : Nat) (m : Bool) (i : Int) (s : Str) (hB : Bd w0 B pb 161 [.bool (m), .int .i64 i] s) (r : Int) (hr0 : -2147483648 ≤ r) (hr1 : r ≤ 2147483647) (hl : s.length + 4 ≤ 140737488355328) : Xq 226 #[.pointer (some ⟨pb, 0, none⟩), .int .i32 r] (.tuple #[.int .i64 (((Ki r).length : Nat) : Int), .nilIface]) w0 B pb 161 [.bool (m), .int .i64 i] (s ++ Ki r) := by
 unfold Xq
 have hrl := Mn r
 refine Ka func226 rfl ntmps226 Kb (Td _ _) ?_
 obtain ⟨v, hO0, hv, hC⟩ := Ii hB
 have hle := hB.le
 have hBw := hB.base
 have hlt := hB.lt
 have hws := Nat.le_refl w0.heap.size
 have hvl : ∀ g, v.ownBlock = some g → g < w0.heap.size := fun g hg => (Nk hO0 hg).1
 obtain ⟨A1, c1, rfl⟩ := Of hO0
 have hF := FR.start w0 (Wk w0 B pb)
 refine Ma (Ca (Ic rfl) (Ca (Mx) (Dc (Ca (Qd rfl) ?_))))
 refine Ya hC (Fb Ct rfl rfl) ?_
 rintro _ w ⟨rfl, hE, hh, hO⟩
 replace hws := Nat.le_trans hws hE.size
 replace hBw := Nat.le_trans hBw hE.size
 replace hF : FR w0 (Wk w0 B pb) [(pb, .cells #[.pointer (some ⟨pb, 0, none⟩), .slice A1 s.length c1, .bool (m), .int .i64 i] 161)] w := (hF.touch hE (fun b hb => by obtain rfl := List.mem_singleton.1 hb; exact ⟨fun _ => Te.2 (.inl rfl), by simp⟩)).addD hh (.inr (Te.2 (.inl rfl))) Fa
 clear hE hh
 refine Dc (Ca (Qd rfl) (Ca (Ze rfl) (Ca (Ac Vd rfl) (Md (Di isAgg157 rfl hF.F 0 rfl rfl) (Ca (Mf underlying157 rfl) (Ca (Ic rfl) (Dc ?_)))))))
 refine Ca (Qd rfl) (Ca (Qd rfl) (Ca (Ze rfl) (Ca (Ac Vd rfl) (Md (Di isAgg157 rfl hF.F 0 rfl rfl) (Ca (Ib rfl) ?_)))))
 refine Ya (Fs hO hr0 hr1 by_Om hBw) (Mb HF rfl rfl rfl) ?_
 rintro v2 w2 ⟨hO2, o, hg⟩
 replace hF := (hF.ext (Same.alloc _ o)).grown hg (fun b hb => ⟨fun _ => (hv b hb).1, by have h1 := (hv b hb).2; have h2 := hvl b hb; intro p hp; simp only [List.mem_cons, List.not_mem_nil, or_false] at hp; rcases hp with rfl <;> grind⟩)
 have hsz := Nat.le_trans (Same.alloc _ o).size hg.size
 clear hO hg; revert hsz hF hO2; generalize w2 = w; intro hO hF hsz
 replace hws := Nat.le_trans hws hsz
 replace hBw := Nat.le_trans hBw hsz
 have hne2 : ∀ g, v2.ownBlock = some g → g ≠ pb := fun g hg => Sn hO hg (hF.heap (i := 0) rfl) rfl
 obtain ⟨A2, c2, rfl⟩ := Of hO
 clear hsz
 refine Ca (Ze rfl) (Ca (Ac Vd rfl) ?_)
 refine Fm (.slice _ _ _) hF sizeOf157 rfl rfl Ol I2 ?_
 clear hF; intro w hF hE
 replace hws := Nat.le_trans hws hE.size
 replace hBw := Nat.le_trans hBw hE.size
 replace hO := Tg hO hE (fun g hg => by simpa using hne2 g hg)
 clear hE
 refine Dc (Ca (Qd rfl) (Ca (Ze rfl) (Ca (Ac Vd rfl) (Md (Di isAgg157 rfl hF.F 0 rfl rfl) (Ca (Mf underlying157 rfl) (Ca (Ib rfl) (Ca (Rw (((Ki r).length : Nat)) rfl rfl) (Ca (Ic rfl) (Ca (Mx) (Za ?_))))))))))
 refine Ha ?_
 refine Zb (Xb (Ua (We (v := .int .i64 (((Ki r).length : Nat))) (x := .nilIface) rfl rfl rfl) ?_))
 exact ⟨rfl, ⟨.inr ⟨rfl, m, i, rfl⟩, hle, _, _, hF.heap (i := 0) rfl, by simpa [Yk, Lib.byteCells, Lg] using hO, .inr rfl⟩, hF.same⟩
end Go.Scarf
namespace Go.Scarf
open Go.RowKit Go.Proofs Go.Proofs.Tryz
theorem Xw : prog.cellsOf 5 = 1 := by kernel_rfl
theorem Same.freeze (w : World) (a : Addr) (n : Nat) : Same [a.block] w (w.freeze a n) := by
  have h := Lib.below_freeze (B := a.block) (Below.refl a.block w) (p := a) (Nat.le_refl _) n
  refine ⟨h.os, h.tape, h.output, h.size, fun b hb hn => ?_⟩
  have hn' : b ≠ a.block := by simpa using hn
  unfold World.freeze
  split
  · rfl
  · simp [Array.getElem?_modify, hn'.symm]
theorem KB (w0 : World) (B pb : Nat) (s : Str) (hB : Bd w0 B pb 159 [] s) (h0 : s ≠ []) : Calls prog 127 #[.pointer (some ⟨pb, 0, none⟩)] w0 (Nd fun v w' => v = .string (bs s) ∧ Same (Wk w0 B pb) w0 w') := by
  refine Ka func127 rfl ntmps127 Kb (Yc _) ?_
  obtain ⟨-, hle, ap, v, hh, hO, -⟩ := hB
  have hsl : s.length ≠ 0 := by simpa using h0
  obtain ⟨g, c1, cur, rfl, hbg, hg, hnc, hcm, hcs, htake⟩ : ∃ g cap cur, v = .slice (some ⟨g, 0, none⟩) s.length cap ∧ B ≤ g ∧ w0.heap[g]? = some (.cells cur 5 (0, 0)) ∧ s.length ≤ cap ∧ cap ≤ maxLen ∧ cur.size = cap * 1 ∧ cur.toList.take (s.length * 1) = Lib.byteCells s := by
    rcases hO.2 with ⟨_, hz⟩ | ⟨g, cap, cur, hv, r⟩
    · exact absurd hz hsl
    · exact ⟨g, cap, cur, hv, r⟩
  have hgm : g ∈ Wk w0 B pb := U1 hO rfl
  have hgn : g ≠ pb := Sn hO rfl hh (by rfl)
  have hF : FR w0 (Wk w0 B pb) [(pb, .cells #[ap, .slice (some ⟨g, 0, none⟩) s.length c1] 159)] w0 := (FR.start w0 (Wk w0 B pb)).addD hh (.inr (Te.2 (.inl rfl))) Fa
  refine Ia ?_
  refine Ea ?_
  refine Ca (Li rfl) ?_
  refine Za ?_
  refine Ha ?_
  refine Ia ?_
  refine Dd [] (.free 0 (.free 1 (.free 2 (.free 3 (.free 5 (.free 6 (.free 7 (.free 8 (.free 9 (.act 4 (.act 10 (.free 11 .nil)))))))))))) hF ?_
  clear hF; intro w hF hE
  replace hg := (hE.block g (Da hg) Fa).trans hg
  replace hO := Tg hO hE Fa
  clear hE
  refine ⟨fun wq => FR w0 (Wk w0 B pb) _ wq, hF, ?_⟩
  refine Cb rfl (Qd rfl) ?_
  refine Cb rfl (Ze rfl) ?_
  refine Cb rfl (Ac Vd rfl) ?_
  refine Eo rfl (Di isAgg157 rfl C0 0 rfl rfl) ?_
  refine Cb rfl (Qd rfl) ?_
  refine Cb rfl (Ze rfl) ?_
  refine Cb rfl (Ac Vd rfl) ?_
  refine Eo rfl (Di isAgg157 rfl C0 0 rfl rfl) ?_
  refine Cb rfl (Mf underlying157 rfl) ?_
  refine Hd rfl (MH rfl by_Om) hF ?_
  have hu : (Builtin.unsafeString_ #[196, 3] 9 #[.pointer (some ⟨g, 0, none⟩), .int .i64 s.length]).run prog w = .ok (.string (bs s)) (w.freeze ⟨g, 0, none⟩ s.length) := Lib.run_unsafeString_row w 196 3 9 5 underlying196 Xw g cur.size (by simp [World.shape?, hg]) s h0 by_Om (by simp only [maxLen] at hcm; omega) (fun j x hx => hO.cells (g := g) rfl j (.int .u8 x.toNat) (by simp [Lib.byteCells, hx]))
  have hEf : FR w0 (Wk w0 B pb) _ (w.freeze ⟨g, 0, none⟩ s.length) := hF.touch (Same.freeze w ⟨g, 0, none⟩ s.length) (fun b hb => by obtain rfl := List.mem_singleton.1 hb; exact ⟨fun _ => hgm, by simpa using hgn.symm⟩)
  refine Hd rfl (VH rfl rfl hu) hEf ?_
  replace hF := hEf
  refine Cb rfl (Li rfl) ?_
  refine Bc ?_
  refine Ha ?_
  refine Wd (v := .string (bs s)) rfl rfl ?_
  exact ⟨rfl, hF.same⟩
theorem IE (w0 : World) (B pb : Nat) (m : Bool) (i : Int) (s : Str) (hB : Bd w0 B pb 161 [.bool (m), .int .i64 i] s) (h0 : s ≠ []) : Calls prog 127 #[.pointer (some ⟨pb, 0, none⟩)] w0 (Nd fun v w' => v = .string (bs s) ∧ Same (Wk w0 B pb) w0 w') := by
  refine Ka func127 rfl ntmps127 Kb (Yc _) ?_
  obtain ⟨-, hle, ap, v, hh, hO, -⟩ := hB
  have hsl : s.length ≠ 0 := by simpa using h0
  obtain ⟨g, c1, cur, rfl, hbg, hg, hnc, hcm, hcs, htake⟩ : ∃ g cap cur, v = .slice (some ⟨g, 0, none⟩) s.length cap ∧ B ≤ g ∧ w0.heap[g]? = some (.cells cur 5 (0, 0)) ∧ s.length ≤ cap ∧ cap ≤ maxLen ∧ cur.size = cap * 1 ∧ cur.toList.take (s.length * 1) = Lib.byteCells s := by
    rcases hO.2 with ⟨_, hz⟩ | ⟨g, cap, cur, hv, r⟩
    · exact absurd hz hsl
    · exact ⟨g, cap, cur, hv, r⟩
  have hgm : g ∈ Wk w0 B pb := U1 hO rfl
  have hgn : g ≠ pb := Sn hO rfl hh (by rfl)
  have hF : FR w0 (Wk w0 B pb) [(pb, .cells #[ap, .slice (some ⟨g, 0, none⟩) s.length c1, .bool (m), .int .i64 i] 161)] w0 := (FR.start w0 (Wk w0 B pb)).addD hh (.inr (Te.2 (.inl rfl))) Fa
  refine Ia ?_
  refine Ea ?_
  refine Ca (Li rfl) ?_
  refine Za ?_
  refine Ha ?_
  refine Ia ?_
  refine Dd [] (.free 0 (.free 1 (.free 2 (.free 3 (.free 5 (.free 6 (.free 7 (.free 8 (.free 9 (.act 4 (.act 10 (.free 11 .nil)))))))))))) hF ?_
  clear hF; intro w hF hE
  replace hg := (hE.block g (Da hg) Fa).trans hg
  replace hO := Tg hO hE Fa
  clear hE
  refine ⟨fun wq => FR w0 (Wk w0 B pb) _ wq, hF, ?_⟩
  refine Cb rfl (Qd rfl) ?_
  refine Cb rfl (Ze rfl) ?_
  refine Cb rfl (Ac Vd rfl) ?_
  refine Eo rfl (Di isAgg157 rfl C0 0 rfl rfl) ?_
  refine Cb rfl (Qd rfl) ?_
  refine Cb rfl (Ze rfl) ?_
  refine Cb rfl (Ac Vd rfl) ?_
  refine Eo rfl (Di isAgg157 rfl C0 0 rfl rfl) ?_
  refine Cb rfl (Mf underlying157 rfl) ?_
  refine Hd rfl (MH rfl by_Om) hF ?_
  have hu : (Builtin.unsafeString_ #[196, 3] 9 #[.pointer (some ⟨g, 0, none⟩), .int .i64 s.length]).run prog w = .ok (.string (bs s)) (w.freeze ⟨g, 0, none⟩ s.length) := Lib.run_unsafeString_row w 196 3 9 5 underlying196 Xw g cur.size (by simp [World.shape?, hg]) s h0 by_Om (by simp only [maxLen] at hcm; omega) (fun j x hx => hO.cells (g := g) rfl j (.int .u8 x.toNat) (by simp [Lib.byteCells, hx]))
  have hEf : FR w0 (Wk w0 B pb) _ (w.freeze ⟨g, 0, none⟩ s.length) := hF.touch (Same.freeze w ⟨g, 0, none⟩ s.length) (fun b hb => by obtain rfl := List.mem_singleton.1 hb; exact ⟨fun _ => hgm, by simpa using hgn.symm⟩)
  refine Hd rfl (VH rfl rfl hu) hEf ?_
  replace hF := hEf
  refine Cb rfl (Li rfl) ?_
  refine Bc ?_
  refine Ha ?_
  refine Wd (v := .string (bs s)) rfl rfl ?_
  exact ⟨rfl, hF.same⟩
theorem Zl {w0 : World} {B pb T : Nat} {rest : List Value} {s : Str} (hB : Bd w0 B pb T rest s) (c : UInt8) (hl : s.length + 1 ≤ 140737488355328) : Xq 191 #[.pointer (some ⟨pb, 0, none⟩), .int .u8 ((c.toNat : Nat) : Int)] .nilIface w0 B pb T rest (s ++ [c]) := by
  rcases hB.shp with ⟨rfl, rfl⟩ | ⟨rfl, m, i, rfl⟩
  · exact G3 w0 B pb s hB c hl
  · exact O2 w0 B pb m i s hB c hl
theorem Vh {w0 : World} {B pb T : Nat} {rest : List Value} {s : Str} (hB : Bd w0 B pb T rest s) (t : Str) (hl : s.length + t.length ≤ 140737488355328) : Xq 154 #[.pointer (some ⟨pb, 0, none⟩), .string (bs t)] (.tuple #[.int .i64 ((t.length : Nat) : Int), .nilIface]) w0 B pb T rest (s ++ t) := by
  rcases hB.shp with ⟨rfl, rfl⟩ | ⟨rfl, m, i, rfl⟩
  · exact Cy w0 B pb s hB t hl
  · exact Vx w0 B pb m i s hB t hl
theorem V2 {w0 : World} {B pb T : Nat} {rest : List Value} {s : Str} (hB : Bd w0 B pb T rest s) (r : Int) (h0 : -2147483648 ≤ r) (h1 : r ≤ 2147483647) (hl : s.length + 4 ≤ 140737488355328) : Xq 226 #[.pointer (some ⟨pb, 0, none⟩), .int .i32 r] (.tuple #[.int .i64 (((Ki r).length : Nat) : Int), .nilIface]) w0 B pb T rest (s ++ Ki r) := by
  rcases hB.shp with ⟨rfl, rfl⟩ | ⟨rfl, m, i, rfl⟩
  · exact X2 w0 B pb s hB r h0 h1 hl
  · exact K3 w0 B pb m i s hB r h0 h1 hl
theorem E4 {w0 : World} {B pb T : Nat} {rest : List Value} {s : Str} (hB : Bd w0 B pb T rest s) (h0 : s ≠ []) : Calls prog 127 #[.pointer (some ⟨pb, 0, none⟩)] w0 (Nd fun v w' => v = .string (bs s) ∧ Same (Wk w0 B pb) w0 w') := by
  rcases hB.shp with ⟨rfl, rfl⟩ | ⟨rfl, m, i, rfl⟩
  · exact KB w0 B pb s hB h0
  · exact IE w0 B pb m i s hB h0
structure BW (w0 : World) (Ds : List Nat) (w : World) (B pb T : Nat) (rest : List Value) (s : Str) : Prop where
  bd : Bd w B pb T rest s
  sub : ∀ x ∈ Wk w B pb, x < w0.heap.size → x ∈ Ds
  ge : w0.heap.size ≤ w.heap.size
section
variable {w0 w w' : World} {Ds E : List Nat} {bs_ : List (Nat × Obj)} {B pb T : Nat} {rest : List Value} {s t : Str}
theorem BW.start (h : Bd w0 B pb T rest s) : BW w0 (Wk w0 B pb) w0 B pb T rest s := ⟨h, fun x hx _ => hx, Nat.le_refl _⟩
theorem BW.own (h : Bd w B pb T rest s) (hb : w0.heap.size ≤ B) (hg : w0.heap.size ≤ w.heap.size) : BW w0 Ds w B pb T rest s :=
  ⟨h, fun x hx hl => by
    have := h.le
    rcases Te.1 hx with rfl | ⟨-, h2, -⟩ <;> omega, hg⟩
theorem BW.lt (h : BW w0 Ds w B pb T rest s) : pb < w.heap.size := h.bd.lt
theorem BW.wrote (h : BW w0 Ds w B pb T rest s) (hb : Bd w' B pb T rest t) (hs : Same (Wk w B pb) w w') : BW w0 Ds w' B pb T rest t :=
  ⟨hb, fun x hx hl => by
    rcases Wk.step hs hx with h1 | h1
    · exact h.sub x h1 hl
    · have := h.ge; omega, Nat.le_trans h.ge hs.size⟩
theorem FR.wrote (hF : FR w0 Ds bs_ w) (h : BW w0 Ds w B pb T rest s) (hs : Same (Wk w B pb) w w') (hb : ∀ p ∈ bs_, Sh p.2 = false ∧ p.1 ≠ pb) : FR w0 Ds bs_ w' :=
  hF.touch hs fun x hx => ⟨h.sub x hx, fun p hp e => by
    have h1 := hb p hp
    rcases Te.1 hx with h2 | ⟨-, -, h3⟩
    · exact h1.2 (e.trans h2)
    · rw [← e, No (hF.memHeap hp), h1.1] at h3; cases h3⟩
theorem Bd.same (h : Bd w B pb T rest s) (hs : Same E w w') (hp : pb ∉ E) (he : ∀ x ∈ E, Fo w x = false) : Bd w' B pb T rest s := by
  obtain ⟨h1, h2, ap, v, h3, h4, h5⟩ := h
  refine ⟨h1, h2, ap, v, (hs.block pb (Da h3) hp).trans h3, Tg h4 hs (fun g hg hm => ?_), h5⟩
  have := (Nk h4 hg).2.2
  rw [he g hm] at this; cases this
theorem Bd.ext (h : Bd w B pb T rest s) (hs : Same [] w w') : Bd w' B pb T rest s := h.same hs Fa Fa
theorem BW.step (h : BW w0 Ds w B pb T rest s) (hs : Same E w w') (hp : pb ∉ E) (he : ∀ x ∈ E, Fo w x = false) (he' : ∀ x ∈ E, Fo w' x = false) : BW w0 Ds w' B pb T rest s :=
  ⟨h.bd.same hs hp he, fun x hx hl => by
    refine h.sub x (Te.2 ?_) hl
    have hl2 := Nat.lt_of_lt_of_le hl h.ge
    rcases Te.1 hx with rfl | ⟨-, h2, h3⟩
    · exact .inl rfl
    · refine .inr ⟨hl2, h2, ?_⟩
      have hn : x ∉ E := fun hm => by rw [he' x hm] at h3; cases h3
      rw [Fo, ← hs.block x hl2 hn]; exact h3, Nat.le_trans h.ge hs.size⟩
theorem BW.ext (h : BW w0 Ds w B pb T rest s) (hs : Same [] w w') : BW w0 Ds w' B pb T rest s := h.step hs Fa Fa Fa
theorem Rep.off {d : D} {cs : List Value} (h : Rep (fun x => x ∉ Wk w B pb) w d cs) (hs : Same (Wk w B pb) w w') : Rep (fun x => x ∉ Wk w' B pb) w' d cs :=
  ((h.old).same hs (fun b hb hn => hn.1 hb)).weaken fun x hx _ hm => by
    rcases Wk.step hs hm with h1 | h1
    · exact hx.1 h1
    · have := hx.2; omega
theorem Rep.off_ext {d : D} {cs : List Value} (h : Rep (fun x => x ∉ Wk w B pb) w d cs) (hp : pb < w.heap.size) (hs : Same [] w w') : Rep (fun x => x ∉ Wk w' B pb) w' d cs := h.off (hs.mono Fa)
end
end Go.Scarf
namespace Go.Scarf
open Go.RowKit Go.Proofs Go.Proofs.Tryz
section
variable {P : Program} {w : World} {ρ : Operand → Value} {dst : Option Nat} {ty : TypeId} {pos : String} {aft : Array Edge} {g : Option (Nat × Bool)}
theorem WE {t t' : TypeId} {x y : Operand} {k : IntKind} {a b c : Int} (hx : ρ x = .int k a) (hy : ρ y = .int k b) (h : bits .and k a b = c) :
    (execOp ρ ⟨dst, .binOp .and t x y t', ty, pos, aft, g⟩).run P w = .ok (.value (.int k c)) w := by
  simp [execOp, hx, hy, Kd, binOp, intBits_and, h]
theorem CI {t t' : TypeId} {x y : Operand} {k k2 : IntKind} {a c : Int} (m : Nat) (hx : ρ x = .int k a) (hy : ρ y = .int k2 m) (hm : m ≤ k.bits) (h : a.fdiv (2 ^ m) = c) :
    (execOp ρ ⟨dst, .binOp .shr t x y t', ty, pos, aft, g⟩).run P w = .ok (.value (.int k c)) w := by
  have hg : (eqGuard .shr t x y (.int k a) (.int k2 m)).run P w = .ok () w := by unfold eqGuard; simp
  have h0 : ¬ ((m : Int) < 0) := by omega
  simp [execOp, hx, hy, hg, binOp, Op.shift, h0, Nat.min_eq_left hm, h]
theorem Mq {t e N : Nat} {x y : Operand} {kk : IntKind} {b : Nat} (i : Nat) (ht : P.underlying t = some (.array N e)) (hs : ∀ w, (sizeOf e).run P w = .ok 1 w) (hx : ρ x = .pointer (some ⟨b, 0, none⟩)) (hy : ρ y = .int kk (i : Int)) (h1 : i < N) :
    (execOp ρ ⟨dst, .indexAddr t x y, ty, pos, aft, g⟩).run P w = .ok (.value (.pointer (some ⟨b, i, none⟩))) w := by
  have h2 : (0 : Int) ≤ (i : Int) ∧ (i : Int) < (N : Int) := by omega
  have e1 : (⟨b, 0, none⟩ : Addr).add i = ⟨b, i, none⟩ := by rw [Th, Nat.zero_add]
  simp [execOp, hx, hy, Instr.indexAt, run_underlying ht, Instr.sureAddr, asIntOf, h2, hs, e1]
  intro hh; omega
theorem C8 {t e N : Nat} {x y : Operand} {kk : IntKind} {b : Nat} (i : Nat) (ht : P.underlying t = some (.array N e)) (hs : ∀ w, (sizeOf e).run P w = .ok 1 w) (hx : ρ x = .pointer (some ⟨b, 0, none⟩)) (hy : ρ y = .int kk (i : Int)) (h1 : i < N) :
    (execOp ρ ⟨dst, .slice t x (some y) none none, ty, pos, aft, g⟩).run P w = .ok (.value (.slice (some ⟨b, i, none⟩) (N - i) (N - i))) w := by
  have h0 : ¬ N = i := by omega
  have e1 : (⟨b, 0, none⟩ : Addr).add i = ⟨b, i, none⟩ := by rw [Th, Nat.zero_add]
  have e2 : (0 : Int) ≤ (i : Int) ∧ (i : Int) ≤ (N : Int) := by omega
  simp [execOp, hx, hy, Instr.sliceAt, run_underlying ht, Instr.sureAddr, Instr.sliceBounds, run_sliceBound, hs, e1, h0, e2]
theorem AE {t t' e : Nat} {x : Operand} {a : Addr} {n c : Nat} (s : Str) (ht : P.underlying t = some (.slice e)) (he : P.underlying e = some (.int .u8)) (hd : P.underlying t' = some .string) (hx : ρ x = .slice (some a) n c) (hn : s.length = n)
    (h : ∀ j (hj : j < s.length), w.cell? (a.add j) = some (.int .u8 (s[j].toNat : Int))) :
    (execOp ρ ⟨dst, .convert t t' x, ty, pos, aft, g⟩).run P w = .ok (.value (.string (bs s))) w := by
  have hl := Em (P := P) a w ((s.map fun u => (u.toNat : Int)).map (Value.int .u8)) (m := n) (by simp [hn]) (fun j hj => by simp at hj ⊢; exact h j hj)
  have hb := run_bytesToString w a n c (s.map fun u => (u.toNat : Int)) hl
  have e1 : ∀ (l : Str) (acc : ByteArray), (l.map fun u => (u.toNat : Int)).foldl (fun r n => r.push (UInt8.ofNat n.toNat)) acc = ⟨acc.data ++ l.toArray⟩ := by
    intro l
    induction l with
    | nil => intro acc; simp
    | cons u l ih => intro acc; rw [List.map_cons, List.foldl_cons, ih]; simp [ByteArray.push]
  rw [e1] at hb
  simp [execOp, hx, run_convert_bytes_string w t t' e _ _ _ ht he hd, hb]
end
def M7 : List Value := List.replicate 65 (.int .u8 0)
def Es : Str := [48, 49, 50, 51, 52, 53, 54, 55, 56, 57, 97, 98, 99, 100, 101, 102, 103, 104, 105, 106, 107, 108, 109, 110, 111, 112, 113, 114, 115, 116, 117, 118, 119, 120, 121, 122]
def dg (k : Nat) : UInt8 := Es.getD k 0
def Dj (r : Nat) : Str := if r < 16 then [dg r] else [dg (r / 16), dg (r % 16)]
theorem Hu {k : Nat} (h : k < Es.length) : Es[k] = dg k := by simp [dg, h]
theorem TJ : ∀ r < 32, IntKind.u64.wrap ((r : Nat) : Int) = r := by decide
theorem FL : ∀ u < 32, bits .and .u64 ((u : Nat) : Int) 15 = ((u % 16 : Nat) : Int) := by decide
theorem JJ (w0 : World) (hG : Gl w0) : Calls prog 213 #[.int .u64 16] w0 (Nd fun v w' => v = .int .i64 4 ∧ Same [] w0 w') := by
 obtain ⟨e, fz, hbr⟩ := hG.bru
 refine Ka func213 rfl ntmps213 Kb (Yc _) ?_
 have hF := FR.start w0 []
 refine Ma (Ca (Ic rfl) (Ga (Ia (Ma (Ca (Ib rfl) (Ja (v := .bool false) (De (Wh rfl rfl) Pa) (Ga (Mg rfl (Wa ?_)))))))))
 refine Ha (Ma (Ca (Ib rfl) (Ca (Ib rfl) (Ja (v := .int .u64 18446744073709551600) (JI rfl Pa) (Ja (v := .int .u64 16) (WE rfl rfl Pa) (Ja (v := .int .u64 4573923408821661840) (I5 rfl rfl Pa) (Ja (v := .int .u64 15) (CI 58 rfl rfl Pa Pa) (Ja (v := .pointer (some (⟨6, 15, none⟩))) (Mq 15 underlying257 sizeOf5 rfl rfl Pa) ?_))))))))
 refine Ja (v := .int .u8 4) (Db isAgg5 rfl (by rw [Hb (hF.heap0 hbr)]; rfl)) ?_
 refine Ja (v := .int .i64 4) (Sf underlying5 underlying3 rfl Pa) (Ca (Ic rfl) (Ga ?_))
 refine Wd (v := .int .i64 4) rfl rfl ?_
 exact ⟨rfl, hF.same⟩
theorem EN (w0 : World) (hG : Gl w0) : Calls prog 170 #[.int .u64 16] w0 (Nd fun v w' => v = .int .i64 4 ∧ Same [] w0 w') := by
 refine Ka func170 rfl ntmps170 Kb (Yc _) ?_
 have hF := FR.start w0 []
 refine Ma (Ca (Ic rfl) (Ga (Ia (Uw rfl (Ma (Ca (Ib rfl) ?_))))))
 refine Pb hF (JJ _ (hG.ext hF.same)) (Fb OK rfl rfl) ?_
 clear hF; intro w hF
 refine Ca (Ic rfl) (Ga ?_)
 refine Wd (v := .int .i64 4) rfl rfl ?_
 exact ⟨rfl, hF.same⟩
theorem PK (w0 : World) : Calls prog 169 #[.int .i64 16] w0 (Nd fun v w' => v = .bool true ∧ Same [] w0 w') := by
 refine Ka func169 rfl ntmps169 Kb (Yc _) ?_
 have hF := FR.start w0 []
 refine Ma (Ca (Gc rfl) (Dc (Ca (Ib rfl) (Ca (Ib rfl) (Ja (v := .int .i64 15) (Ls rfl rfl Pa) (Ja (v := .int .i64 0) (WE rfl rfl Pa) (Ja (v := .bool true) (Ce (Wh rfl rfl) Pa) (Ca (Gc rfl) (Za ?_)))))))))
 refine Ha ?_
 refine Wd (v := .bool true) rfl rfl ?_
 exact ⟨rfl, hF.same⟩
theorem Y0 (w0 : World) (hG : Gl w0) (r : Nat) (hr : r < 32) : Calls prog 136 #[.slice none 0 0, .int .u64 (r : Int), .int .i64 16, .bool false, .bool false] w0 (Nd fun v w' => v = .tuple #[.slice none 0 0, .string (bs (Dj r))] ∧ Same [] w0 w') := by
  refine Ka func136 rfl ntmps136 Kb (N6 _ _ _ _ _) ?_
  have hF := FR.start w0 []
  refine Ia ?_
  refine Ea ?_
  refine Ca (Ji rfl) ?_
  refine Ca (Li rfl) ?_
  refine Za ?_
  refine Ha ?_
  refine Ia ?_
  refine Ia ?_
  refine Ea ?_
  refine Ca (Ib rfl) ?_
  refine Ja (v := .bool false) (De (T9 rfl rfl) Pa) ?_
  refine Ca (Ld rfl) ?_
  refine Ca (Ib rfl) ?_
  refine Ja (v := .bool false) (De (Wh rfl rfl) Pa) ?_
  refine Ca (Pd rfl rfl) ?_
  refine Ca (Ld rfl) ?_
  refine Ca (Ib rfl) ?_
  refine Ja (v := .bool false) (De (X8 rfl rfl) Pa) ?_
  refine Ca (Pd rfl rfl) ?_
  refine Za ?_
  refine Ha ?_
  refine Mg rfl ?_
  refine Wa ?_
  refine Ha ?_
  refine Ia ?_
  refine Ea ?_
  refine Ch (cs := (List.toArray M7)) hF zeroValue205 Eb ?_
  clear hF; intro b1 w hb1 hF hE
  clear hE
  refine Za ?_
  refine Ha ?_
  refine Ia ?_
  refine Ea ?_
  refine Ca (Ic rfl) ?_
  refine Za ?_
  refine Ha ?_
  refine Ia ?_
  refine Ia ?_
  refine Ea ?_
  refine Ca (Ld rfl) ?_
  refine Za ?_
  refine Ha ?_
  refine Mg rfl ?_
  refine Wa ?_
  refine Ha ?_
  refine Ia ?_
  refine Ia ?_
  refine Ea ?_
  refine Ca (Ib rfl) ?_
  refine Pb hF (PK _) (Fb KJ rfl rfl) ?_
  clear hF; intro w hF
  refine Za ?_
  refine Ha ?_
  refine Je rfl ?_
  refine Ia ?_
  refine Ea ?_
  refine Ca (Ib rfl) ?_
  refine Ja (v := .int .u64 16) (Sf underlying3 underlying183 rfl Pa) ?_
  refine Pb hF (EN _ (hG.ext hF.same)) (Fb GK rfl rfl) ?_
  clear hF; intro w hF
  refine Ja (v := .int .u64 4) (Sf underlying3 underlying183 rfl Pa) ?_
  refine Ca (Ic rfl) ?_
  refine Za ?_
  refine Ha ?_
  refine Ia ?_
  refine Ea ?_
  refine Ca (Ib rfl) ?_
  refine Ja (v := .int .u64 16) (Sf underlying3 underlying169 rfl Pa) ?_
  refine Ca (Ic rfl) ?_
  refine Za ?_
  refine Ha ?_
  refine Ia ?_
  refine Ea ?_
  refine Ca (Ib rfl) ?_
  refine Ja (v := .int .u64 16) (Sf underlying3 underlying183 rfl Pa) ?_
  refine Ja (v := .int .u64 15) (Ls rfl rfl Pa) ?_
  refine Ca (Ic rfl) ?_
  refine Za ?_
  refine Ha ?_
  refine Ia ?_
  refine Va ?_
  refine Xc (fun μ σ w => ∃ (u : Nat), ∃ (i : Nat), ∃ (cs : List Value), μ = 2 * u ∧ ((u = r ∧ i = 65 ∧ cs = M7) ∨ (16 ≤ r ∧ u = r / 16 ∧ i = 64 ∧ cs = M7.set 64 (.int .u8 ((dg (r % 16)).toNat : Int)))) ∧ AllEq σ [(0, .slice none 0 0), (1, .int .u64 ((u : Int))), (3, .bool false), (4, .bool false), (10, .slice none 0 0), (11, .string (bs [])), (12, .pointer (some ⟨b1, 0, none⟩)), (13, .int .i64 ((i : Int))), (14, .int .u64 4), (15, .int .u64 16), (16, .int .u64 15)] ∧ FR w0 [] [(b1, .cells (List.toArray cs) 205)] w) _ ⟨r, 65, M7, rfl, (.inl ⟨rfl, rfl, rfl⟩), ⟨rfl, rfl, rfl, rfl, rfl, rfl, rfl, rfl, rfl, rfl, rfl, trivial⟩, hF⟩ ?_
  clear hF; rintro μ σ w ⟨u, i, cs, rfl, hI, hs, hF⟩
  refine Cg.slots hs ?_
  clear hs; intro σ
  have hcl : cs.length = 65 := by rcases hI with ⟨-, -, rfl⟩ | ⟨-, -, -, rfl⟩ <;> simp [M7]
  have hu32 : u < 32 := by omega
  refine Ia ?_
  refine Ia ?_
  refine Ea ?_
  refine Ca (Ib rfl) ?_
  refine Ca (Ib rfl) ?_
  refine Ca (SE rfl rfl) ?_
  refine Za ?_
  refine Ha ?_
  refine Jc rfl rfl (fun hc3 => ?_) (fun hc3 => ?_)
  ·
    refine Wa ?_
    refine Ha ?_
    refine Va ?_
    refine Ia ?_
    refine Ea ?_
    refine Ca (Ib rfl) ?_
    refine Ca (Rw (((64 : Nat) : Int)) rfl rfl) ?_
    refine Ca (Ic rfl) ?_
    refine Za ?_
    refine Ha ?_
    refine Ia ?_
    refine Ea ?_
    refine Ca (Ib rfl) ?_
    refine Ca (Ib rfl) ?_
    refine Ca (Ib rfl) ?_
    refine Ja (v := .int .u64 (((u % 16 : Nat) : Int))) (WE rfl rfl (FL u by_Om)) ?_
    refine Ja (v := .int .u8 (((dg (u % 16)).toNat : Int))) (by rw [← Hu (show u % 16 < Es.length by show u % 16 < 36; omega)]; exact Zg (u % 16) underlying9 rfl rfl _) ?_
    refine Ja (v := .pointer (some ⟨b1, 64, none⟩)) (Mq 64 underlying205 sizeOf5 rfl rfl Pa) ?_
    refine Zf 0 (l := [.int .u8 (((dg (u % 16)).toNat : Nat) : Int)]) (cs' := (List.toArray (cs.set 64 (.int .u8 (((dg (u % 16)).toNat : Nat) : Int))))) hF sizeOf5 rfl (v := .int .u8 (((dg (u % 16)).toNat : Nat) : Int)) rfl rfl Gd rfl (by simp [hcl] <;> omega) (by simp [Fi]) ?_
    clear hF; intro w hF hE
    clear hE
    replace hF : FR w0 [] [(b1, .cells (List.toArray (cs.set 64 (.int .u8 (((dg (u % 16)).toNat : Nat) : Int)))) 205)] w := hF
    refine Za ?_
    refine Ha ?_
    refine Ea ?_
    refine Ca (Ib rfl) ?_
    refine Ca (Ib rfl) ?_
    refine Ja (v := .int .u64 (((u / 16 : Nat) : Int))) (CI 4 rfl rfl Pa (by rw [Int.fdiv_eq_ediv_of_nonneg _ Pa]; omega)) ?_
    refine Ca (Ic rfl) ?_
    refine Za ?_
    refine Ob ?_
    refine Ec ⟨_, ?_, u / 16, 64, cs.set 64 (.int .u8 (((dg (u % 16)).toNat : Nat) : Int)), rfl, (.inr (by rcases hI with ⟨rfl, rfl, rfl⟩ | ⟨h16, rfl, rfl, rfl⟩ <;> first | omega | exact ⟨by omega, rfl, rfl, rfl⟩)), ⟨rfl, rfl, rfl, rfl, rfl, rfl, rfl, rfl, rfl, rfl, rfl, trivial⟩, hF⟩
    omega
  ·
    refine Lc (Hc rfl ?_)
    refine Ha ?_
    refine Ia ?_
    refine Ea ?_
    refine Ca (Ib rfl) ?_
    refine Ca (Rw (((i - 1 : Nat) : Int)) rfl rfl) ?_
    refine Ca (Ic rfl) ?_
    refine Za ?_
    refine Ha ?_
    refine Ea ?_
    refine Ca (Ib rfl) ?_
    refine Ca (Ib rfl) ?_
    refine Ja (v := .int .u8 (((dg u).toNat : Int))) (by rw [← Hu (show u < Es.length by show u < 36; omega)]; exact Zg u underlying9 rfl rfl _) ?_
    refine Ja (v := .pointer (some ⟨b1, (i - 1), none⟩)) (Mq (i - 1) underlying205 sizeOf5 rfl rfl by_Om) ?_
    refine Zf 0 (l := [.int .u8 (((dg (u)).toNat : Nat) : Int)]) (cs' := (List.toArray (cs.set (i - 1) (.int .u8 (((dg (u)).toNat : Nat) : Int))))) hF sizeOf5 rfl (v := .int .u8 (((dg (u)).toNat : Nat) : Int)) rfl rfl Gd rfl (by simp [hcl] <;> omega) (by simp [Fi]) ?_
    clear hF; intro w hF hE
    clear hE
    replace hF : FR w0 [] [(b1, .cells (List.toArray (cs.set (i - 1) (.int .u8 (((dg (u)).toNat : Nat) : Int)))) 205)] w := hF
    refine Za ?_
    refine Ha ?_
    refine Ia ?_
    refine Ia ?_
    refine Ea ?_
    refine Ca (Ld rfl) ?_
    refine Za ?_
    refine Ha ?_
    refine Mg rfl ?_
    refine Wa ?_
    refine Ha ?_
    refine Ia ?_
    refine Ia ?_
    refine Ea ?_
    refine Ca (Ld rfl) ?_
    refine Za ?_
    refine Ha ?_
    refine Mg rfl ?_
    refine Wa ?_
    refine Ha ?_
    refine Ia ?_
    refine Ea ?_
    refine Ca (Ib rfl) ?_
    refine Ja (v := .slice (some ⟨b1, i - 1, none⟩) (65 - (i - 1)) (65 - (i - 1))) (C8 (i - 1) underlying205 sizeOf5 rfl rfl by_Om) ?_
    have hfin : (Dj r).length = 65 - (i - 1) ∧ ∀ j (hj : j < (Dj r).length), w.cell? ((⟨b1, i - 1, none⟩ : Addr).add j) = some (.int .u8 ((Dj r)[j].toNat : Int)) := by
      have hh := hF.heap (i := 0) rfl
      rcases hI with ⟨rfl, rfl, rfl⟩ | ⟨h16, rfl, rfl, rfl⟩
      · have h1 : Dj u = [dg u] := by rw [Dj, if_pos by_Om]
        refine ⟨by rw [h1]; rfl, fun j hj => ?_⟩
        have hj0 : j = 0 := by rw [h1] at hj; simpa using hj
        subst hj0
        rw [Th, Hb hh]; simp [h1, M7]
      · have h1 : Dj r = [dg (r / 16), dg (r % 16)] := by rw [Dj, if_neg by_Om]
        refine ⟨by rw [h1]; rfl, fun j hj => ?_⟩
        have hj2 : j = 0 ∨ j = 1 := by rw [h1] at hj; simp at hj; omega
        rw [Th, Hb hh]
        rcases hj2 with rfl | rfl <;> simp [h1, M7]
    refine Ja (v := .string (bs (Dj r))) (AE (Dj r) underlying157 underlying5 underlying9 rfl hfin.1 hfin.2) ?_
    refine Ca (Li rfl) ?_
    refine Za ?_
    refine Ha ?_
    refine Zb (Xb (Ua (We (v := .slice _ _ _) (x := .string (bs (Dj r))) rfl rfl rfl) ?_))
    exact ⟨rfl, hF.same⟩
theorem HE (w0 : World) (hG : Gl w0) (r : Nat) (hr : r < 32) : Calls prog 106 #[.int .i64 (r : Int), .int .i64 16] w0 (Nd fun v w' => v = .string (bs (Dj r)) ∧ Same [] w0 w') := by
 refine Ka func106 rfl ntmps106 Kb (Td _ _) ?_
 have hF := FR.start w0 []
 refine Ma (Ca (Li rfl) (Ga (Ia (Ma (Ca (Ib rfl) (Ja (v := .bool false) (De (Wh rfl rfl) Pa) (Ga (Mg rfl (Wa ?_)))))))))
 refine Ha (Ma (Ca (Ib rfl) (Ja (v := .int .u64 ((r : Int))) (Sf underlying2 underlying169 rfl (TJ r hr)) (Ca (Ib rfl) (Ca (Ib rfl) (Ja (v := .bool false) (De (T9 rfl rfl) by_Om) ?_))))))
 refine Pb hF (Y0 _ (hG.ext hF.same) r hr) (Tr XI rfl rfl rfl rfl rfl rfl) ?_
 clear hF; intro w hF
 refine Ca (Wm rfl) (Ca (C5 rfl rfl) (Ca (FB rfl rfl) (Ca (Ji rfl) (Ca (Li rfl) (Dc (Ca (Xe rfl) (Ca (Li rfl) (Ga ?_))))))))
 refine Wd (v := .string (bs (Dj r))) rfl rfl ?_
 exact ⟨rfl, hF.same⟩
theorem HL (w0 : World) (hG : Gl w0) (r : Nat) (hr : r < 32) : Calls prog 227 #[.int .i64 (r : Int), .int .i64 16] w0 (Nd fun v w' => v = .string (bs (Dj r)) ∧ Same [] w0 w') := by
 refine Ka func227 rfl ntmps227 Kb (Td _ _) ?_
 have hF := FR.start w0 []
 refine Ma (Ca (Li rfl) (Dc (Ca (Ib rfl) (Ca (Ib rfl) ?_))))
 refine Pb hF (HE _ (hG.ext hF.same) r hr) (Mb UI rfl rfl rfl) ?_
 clear hF; intro w hF
 refine Ca (Li rfl) (Ga ?_)
 refine Wd (v := .string (bs (Dj r))) rfl rfl ?_
 exact ⟨rfl, hF.same⟩
def Me (r : Int) : Int := if r = 34 then 34 else if r = 92 then 92 else if r = 8 then 98 else if r = 12 then 102 else if r = 10 then 110 else if r = 13 then 114 else if r = 9 then 116 else 0
theorem BD (w0 : World) (r : Int) : Calls prog 225 #[.int .i32 r] w0 (Nd fun v w' => v = .int .u8 (Me r) ∧ Same [] w0 w') := by
 refine Ka func225 rfl ntmps225 Kb (Yc _) ?_
 have hF := FR.start w0 []
 refine Ma (Ca (Ic rfl) (Ga (Ia (Ma (Ca (Ib rfl) (Ga (Va (Ia (Ia ?_)))))))))
 refine Ea (Ca (Do rfl rfl) (Ca (Gc rfl) (Ga ?_)))
 refine Jc rfl rfl (fun hc0 => ?_) (fun hc0 => ?_)
 refine Wa (Ha (Je rfl (Ma (Ca (Ib rfl) ?_))))
 refine Ja (v := .int .u8 (Me r)) (Sf underlying21 underlying5 rfl (by rcases (by first | exact .inl (by assumption) | exact .inr (by assumption) : r = 34 ∨ r = 92) with rfl | rfl <;> decide)) ?_
 refine Ca (Ic rfl) (Ga ?_)
 refine Wd (v := .int .u8 (Me r)) rfl rfl ?_
 refine ⟨?_, hF.same⟩; simp_all [Me]
 refine Ea (Ca (Do rfl rfl) (Ca (Gc rfl) (Ga ?_)))
 refine Jc rfl rfl (fun hc1 => ?_) (fun hc1 => ?_)
 refine Ma (Ca (Ib rfl) ?_)
 refine Ja (v := .int .u8 (Me r)) (Sf underlying21 underlying5 rfl (by rcases (by first | exact .inl (by assumption) | exact .inr (by assumption) : r = 34 ∨ r = 92) with rfl | rfl <;> decide)) ?_
 refine Ca (Ic rfl) (Ga ?_)
 refine Wd (v := .int .u8 (Me r)) rfl rfl ?_
 refine ⟨?_, hF.same⟩; simp_all [Me]
 refine Ma (Ca (Do rfl rfl) (Ca (Gc rfl) (Ga ?_)))
 refine Jc rfl rfl (fun hc2 => ?_) (fun hc2 => ?_)
 refine Ma (Ca (Ic rfl) (Ga ?_))
 refine Wd (v := .int .u8 98) rfl rfl ?_
 refine ⟨?_, hF.same⟩; simp_all [Me]
 refine Ma (Ca (Do rfl rfl) (Ca (Gc rfl) (Ga ?_)))
 refine Jc rfl rfl (fun hc3 => ?_) (fun hc3 => ?_)
 refine Ma (Ca (Ic rfl) (Ga ?_))
 refine Wd (v := .int .u8 102) rfl rfl ?_
 refine ⟨?_, hF.same⟩; simp_all [Me]
 refine Ma (Ca (Do rfl rfl) (Ca (Gc rfl) (Ga ?_)))
 refine Jc rfl rfl (fun hc4 => ?_) (fun hc4 => ?_)
 refine Ma (Ca (Ic rfl) (Ga ?_))
 refine Wd (v := .int .u8 110) rfl rfl ?_
 refine ⟨?_, hF.same⟩; simp_all [Me]
 refine Ma (Ca (Do rfl rfl) (Ca (Gc rfl) (Ga ?_)))
 refine Jc rfl rfl (fun hc5 => ?_) (fun hc5 => ?_)
 refine Ma (Ca (Ic rfl) (Ga ?_))
 refine Wd (v := .int .u8 114) rfl rfl ?_
 refine ⟨?_, hF.same⟩; simp_all [Me]
 refine Ma (Ca (Do rfl rfl) (Ca (Gc rfl) (Ga ?_)))
 refine Jc rfl rfl (fun hc6 => ?_) (fun hc6 => ?_)
 refine Ma (Ca (Ic rfl) (Ga ?_))
 refine Wd (v := .int .u8 116) rfl rfl ?_
 refine ⟨?_, hF.same⟩; simp_all [Me]
 refine Wa (Ob (Ha (Ma (Ca (Ic rfl) (Ga ?_)))))
 refine Wd (v := .int .u8 0) rfl rfl ?_
 refine ⟨?_, hF.same⟩; simp_all [Me]
end Go.Scarf
namespace Go.Scarf
open Go.RowKit Go.Proofs Go.Proofs.Tryz
def It (r : Nat) : Str := if Me r ≠ 0 then [92, UInt8.ofNat (Me r).toNat] else if 32 ≤ r then Ki r else [92, 117] ++ Lib.repeatL [48] (4 - (Dj r).length) ++ Dj r
def Qu : Nat → Str → Nat → Str
  | 0, _, _ => []
  | f + 1, s, p => if p < s.length then It (Utf8.decode (bs s) p).1 ++ Qu f s (p + (Utf8.decode (bs s) p).2) else []
theorem W9 : ∀ (f g : Nat) (s : Str) (p : Nat), s.length - p ≤ f → s.length - p ≤ g → Qu f s p = Qu g s p
  | 0, 0, _, _, _, _ => rfl
  | 0, g + 1, s, p, h, _ => by rw [Qu, Qu, if_neg by_Om]
  | f + 1, 0, s, p, _, h => by rw [Qu, Qu, if_neg by_Om]
  | f + 1, g + 1, s, p, h1, h2 => by
    rw [Qu, Qu]
    split
    · have h3 := Af s p
      rw [W9 f g s _ by_Om by_Om]
    · rfl
def Gq (s : Str) (p : Nat) : Str := Qu (s.length - p) s p
theorem Cn {s : Str} {p : Nat} (h : p < s.length) : Gq s p = It (Utf8.decode (bs s) p).1 ++ Gq s (p + (Utf8.decode (bs s) p).2) := by
  have h3 := Af s p
  obtain ⟨f, hf⟩ : ∃ f, s.length - p = f + 1 := ⟨s.length - p - 1, by omega⟩
  rw [Gq, hf, Qu, if_pos h, Gq, W9 f (s.length - (p + (Utf8.decode (bs s) p).2)) s _ by_Om by_Om]
theorem Jz {s : Str} {p : Nat} (h : ¬ p < s.length) : Gq s p = [] := by
  have e : s.length - p = 0 := by omega
  rw [Gq, e, Qu]
def Yw (s : Str) : Str := [34] ++ Gq s 0 ++ [34]
theorem Zp (r : Int) : 0 ≤ Me r ∧ Me r < 256 := by
  unfold Me
  repeat' split
  all_goals omega
theorem Xj (r : Nat) : 1 ≤ (Dj r).length ∧ (Dj r).length ≤ 2 := by unfold Dj; split <;> simp
theorem Nn (n : Nat) : (Lib.repeatL [48] n).length = n := by
  induction n with
  | zero => rfl
  | succ n ih => simp [Lib.repeatL, ih]; try omega
theorem Sl (r : Nat) : (It r).length ≤ 6 := by
  unfold It
  have h1 := Mn r
  have h2 := Xj r
  repeat' split
  · simp
  · omega
  · simp [Nn]; omega
theorem Qf {w0 : World} {B pb T : Nat} {rest : List Value} {s : Str} (hB : Bd w0 B pb T rest s) (z : Int) (h0 : 0 ≤ z) (h1 : z < 256) (hl : s.length + 1 ≤ 140737488355328) : Xq 191 #[.pointer (some ⟨pb, 0, none⟩), .int .u8 z] .nilIface w0 B pb T rest (s ++ [UInt8.ofNat z.toNat]) := by
  have h := Zl hB (UInt8.ofNat z.toNat) hl
  have e : (((UInt8.ofNat z.toNat).toNat : Nat) : Int) = z := by simp only [UInt8.toNat_ofNat']; omega
  rwa [e] at h
theorem EG (w0 : World) (hG : Gl w0) (s : Str) (hl : s.length ≤ 17592186044416) : Calls prog 190 #[.string (bs s)] w0 (Nd fun v w' => v = (if Lib.validD s = true then .tuple #[.string (bs (Yw s)), .int .i64 0] else .tuple #[.string (bs []), .int .i64 2]) ∧ Same [] w0 w') := by
 refine Ka func190 rfl ntmps190 Kb (Yc _) ?_
 have hF := FR.start w0 []
 refine Ma (Ca (Li rfl) (Ca (Ic rfl) (Ga (Ia (Ma (Ca (Xe rfl) ?_))))))
 refine Ya (H9 s by_Om _ (hG.ext hF.same)) (Fb QH rfl rfl) ?_
 rintro _ w ⟨n0, rfl, hE⟩
 replace hF := hF.ext hE
 clear hE
 refine Ca (Wm rfl) (Ca (Co rfl rfl) (Ca (Wq rfl rfl) (Ca (Ic rfl) (Ca (Gc rfl) (Dc (Ca (Ld rfl) (Ca (Lp rfl) (Ga ?_))))))))
 refine Qj rfl rfl (fun hc0 => ?_) (fun hc0 => ?_)
 refine Ma (Ca (Li rfl) (Ca (Ic rfl) (Ga ?_)))
 refine Zb (Xb (Ua (We (v := .string (bs [])) (x := .int .i64 2) rfl rfl rfl) ?_))
 exact ⟨by rw [if_neg (by simpa using hc0)], hF.same⟩
 refine Wa (Ha (Ma ?_))
 refine Ch (cs := #[.pointer none, .slice none 0 0]) hF zeroValue159 rfl ?_
 clear hF; rintro b1 w hb1 hF -
 refine Dc ?_
 have hBn : BW w0 [] w b1 b1 159 [] [] := BW.own ⟨.inl ⟨rfl, rfl⟩, Nat.le_refl _, _, _, hF.heap (i := 0) rfl, World.ownsRow_nil _ _ _ _, .inl rfl⟩ (hF.ge (i := 0) rfl) hF.same.size
 have hB := hBn
 replace hF := hF.drop 1
 replace hF : FR w0 [] [] w := hF
 have ho : (0 : Nat) ≤ 0 ∧ ([] : Str).length ≤ 0 := by simp
 refine Ya (Qf hB.bd (34) by_Om by_Om Fa) (Mb Jl rfl rfl rfl) ?_
 rintro _ w ⟨rfl, hBd, hE⟩
 replace hF := hF.wrote hB hE Fa
 replace hB := hB.wrote hBd hE
 clear hBd hE
 refine Ga (Ia (Ma (Ca (Xe rfl) ?_)))
 refine Cs (str := s) hF underlying9 rfl ?_
 clear hF; intro b2 w hb2 hF hE
 have nb2 : b2 ≠ b1 := by have := hB.lt; omega
 replace hB := hB.ext hE
 clear hE
 refine Ga (Va ?_)
 refine Xc (fun μ σ w => ∃ (q : Nat), ∃ (o : Str), μ = s.length - q ∧ (o ++ Gq s q = [34] ++ Gq s 0) ∧ (o.length ≤ 1 + 6 * q ∧ o.length ≤ 1 + 6 * s.length) ∧ (BW w0 [] w b1 b1 159 [] o) ∧ AllEq σ [(6, .pointer (some ⟨b1, 0, none⟩)), (20, .pointer (some ⟨b2, 0, none⟩))] ∧ FR w0 [] [(b2, .stringIter (bs s) (q))] w) _ ⟨0, [34], rfl, (rfl), Fa, (hB), I3, hF⟩ ?_
 clear hF; rintro μ σ w ⟨q, o, rfl, hq, ho, hB, hs, hF⟩
 refine Cg.slots hs ?_
 clear hs; intro σ
 have hr2 : Fo w b2 = false := by rw [No (hF.heap (i := 0) rfl)]; rfl
 refine Ma ?_
 by_cases hn0 : (q) < (s : Str).length
 refine Su 0 (p := q) (str := s) hF rfl rfl hn0 ?_
 clear hF; intro w hF hE
 replace hB := hB.step hE (by simpa using nb2.symm) (by simpa using hr2) (by simp [No (hF.heap (i := 0) rfl), Sh])
 clear hE
 replace hF : FR w0 [] [(b2, .stringIter (bs s) (q + (Utf8.decode (bs s) (q)).2))] w := hF
 refine Ca (Wq rfl rfl) (Ga (Ia (Je rfl (Wa (Ha (Va (Ma (Ca (Co rfl rfl) (Ca (Ic rfl) (Ga ?_))))))))))
 refine Ia (Ma (Ca (Ib rfl) ?_))
 refine Ya (BD _ (((Utf8.decode (bs s) q).1 : Nat) : Int)) (Fb NI rfl rfl) ?_
 rintro _ w ⟨rfl, hE⟩
 replace hF := hF.ext hE
 replace hB := hB.ext hE
 clear hE
 refine Ca (Ic rfl) (Dc (Ca (Ib rfl) (Ca (Xx rfl rfl) (Ga ?_))))
 refine Jc rfl rfl (fun hc2 => ?_) (fun hc2 => ?_)
 refine Ma ?_
 refine Ya (Qf hB.bd (92) by_Om by_Om (by have h1 := ho.1; have h2 := ho.2; simp; omega)) (Mb Jl rfl rfl rfl) ?_
 rintro _ w ⟨rfl, hBd, hE⟩
 replace hF := hF.wrote hB hE (by simp [Sh, nb2])
 replace hB := hB.wrote hBd hE
 clear hBd hE
 refine Dc (Ca (Ib rfl) ?_)
 refine Ya (Qf hB.bd (Me (((Utf8.decode (bs s) q).1 : Nat) : Int)) (Zp _).1 (Zp _).2 (by have h1 := ho.1; have h2 := ho.2; simp; omega)) (Mb Jl rfl rfl rfl) ?_
 rintro _ w ⟨rfl, hBd, hE⟩
 replace hF := hF.wrote hB hE (by simp [Sh, nb2])
 replace hB := hB.wrote hBd hE
 have e1 : o ++ [UInt8.ofNat (92 : Int).toNat] ++ [UInt8.ofNat (Me (((Utf8.decode (bs s) q).1 : Nat) : Int)).toNat] = o ++ It (Utf8.decode (bs s) q).1 := by rw [It, if_pos (by simpa using hc2)]; simp
 rw [e1] at hB
 clear hBd hE
 refine Ga ?_
 refine Lc (Hc rfl ?_)
 have h1 := Af s q
 refine Ec ⟨_, ?_, q + (Utf8.decode (bs s) q).2, o ++ It (Utf8.decode (bs s) q).1, rfl, (by rw [List.append_assoc, ← Cn by_Om]; exact hq), (by have h1 := Af s q; have h2 := Sl (Utf8.decode (bs s) q).1; rw [List.length_append]; omega), (hB), I3, hF⟩
 omega
 refine Wa (Ha (Ia (Ma (Ca (Ib rfl) (Ca (SE rfl rfl) (Ga ?_))))))
 refine Jc rfl rfl (fun hc3 => ?_) (fun hc3 => ?_)
 refine Ma (Ca (Ib rfl) ?_)
 refine Ya (V2 hB.bd (((Utf8.decode (bs s) q).1 : Nat) : Int) by_Om (by have := Lib.rune_le (bs s) q; omega) (by have h1 := ho.1; have h2 := ho.2; simp; omega)) (Mb AK rfl rfl rfl) ?_
 rintro _ w ⟨rfl, hBd, hE⟩
 replace hF := hF.wrote hB hE (by simp [Sh, nb2])
 replace hB := hB.wrote hBd hE
 have e1 : o ++ Ki (((Utf8.decode (bs s) q).1 : Nat) : Int) = o ++ It (Utf8.decode (bs s) q).1 := by rw [It, if_neg (by simpa using hc2), if_pos by_Om]
 rw [e1] at hB
 clear hBd hE
 refine Ga ?_
 refine Lc (Hc rfl ?_)
 have h1 := Af s q
 refine Ec ⟨_, ?_, q + (Utf8.decode (bs s) q).2, o ++ It (Utf8.decode (bs s) q).1, rfl, (by rw [List.append_assoc, ← Cn by_Om]; exact hq), (by have h1 := Af s q; have h2 := Sl (Utf8.decode (bs s) q).1; rw [List.length_append]; omega), (hB), I3, hF⟩
 omega
 refine Wa (Ha (Ma (Ca (Ib rfl) (Ja (v := .int .i64 ((((Utf8.decode (bs s) q).1 : Nat) : Int))) (Sf underlying21 underlying2 rfl (Bm by_Om by_Om)) ?_))))
 refine Ya (HL _ (hG.ext hF.same) (Utf8.decode (bs s) q).1 by_Om) (Mb IK rfl rfl rfl) ?_
 rintro _ w ⟨rfl, hE⟩
 replace hF := hF.ext hE
 replace hB := hB.ext hE
 clear hE
 refine Ca (Li rfl) (Ga (Ea (Ca (Xe rfl) (Ca (W3 underlying9 rfl) (Ja (v := .int .i64 (((4 - (Dj (Utf8.decode (bs s) q).1).length : Nat) : Int))) (Ls rfl rfl (have := Xj (Utf8.decode (bs s) q).1; Ng by_Om by_Om by_Om)) ?_)))))
 refine Ya (Vy ((4 - (Dj (Utf8.decode (bs s) q).1).length : Nat) : Int) by_Om by_Om _) (Mb W7 rfl rfl rfl) ?_
 rintro _ w ⟨rfl, hE⟩
 replace hF := hF.ext hE
 replace hB := hB.ext hE
 clear hE
 refine Ja (v := .string (bs (([92, 117]) ++ (Lib.repeatL [48] (4 - (Dj (Utf8.decode (bs s) q).1).length))))) (Mo rfl rfl (by have := Xj (Utf8.decode (bs s) q).1; simp [Nn]; omega)) ?_
 refine Ca (Xe rfl) ?_
 refine Ja (v := .string (bs ((([92, 117]) ++ (Lib.repeatL [48] (4 - (Dj (Utf8.decode (bs s) q).1).length))) ++ (Dj (Utf8.decode (bs s) q).1)))) (Mo rfl rfl (by have := Xj (Utf8.decode (bs s) q).1; simp [Nn]; omega)) ?_
 refine Ya (Vh hB.bd _ (by have := Xj (Utf8.decode (bs s) q).1; have h1 := ho.1; have h2 := ho.2; simp [Nn]; omega)) (Mb Fv rfl rfl rfl) ?_
 rintro _ w ⟨rfl, hBd, hE⟩
 replace hF := hF.wrote hB hE (by simp [Sh, nb2])
 replace hB := hB.wrote hBd hE
 have e1 : o ++ ((([92, 117]) ++ (Lib.repeatL [48] (4 - (Dj (Utf8.decode (bs s) q).1).length))) ++ (Dj (Utf8.decode (bs s) q).1)) = o ++ It (Utf8.decode (bs s) q).1 := by rw [It, if_neg (by simpa using hc2), if_neg by_Om]
 rw [e1] at hB
 clear hBd hE
 refine Za (Ob ?_)
 have h1 := Af s q
 refine Ec ⟨_, ?_, q + (Utf8.decode (bs s) q).2, o ++ It (Utf8.decode (bs s) q).1, rfl, (by rw [List.append_assoc, ← Cn by_Om]; exact hq), (by have h1 := Af s q; have h2 := Sl (Utf8.decode (bs s) q).1; rw [List.length_append]; omega), (hB), I3, hF⟩
 omega
 refine Ym 0 (p := q) (str := s) hF rfl rfl hn0 ?_
 refine Ca (Wq rfl rfl) (Ga (Ia (Mg rfl ?_)))
 refine Lc (Hc rfl ?_)
 refine Ha (Ma ?_)
 refine Ya (Qf hB.bd (34) by_Om by_Om (by have h1 := ho.1; have h2 := ho.2; simp; omega)) (Mb Jl rfl rfl rfl) ?_
 rintro _ w ⟨rfl, hBd, hE⟩
 replace hF := hF.wrote hB hE (by simp [Sh, nb2])
 replace hB := hB.wrote hBd hE
 clear hBd hE
 refine Dc ?_
 refine Ya (E4 hB.bd Fa) (Fb KC rfl rfl) ?_
 rintro _ w ⟨rfl, hE⟩
 replace hF := hF.wrote hB hE (by simp [Sh, nb2])
 clear hE
 refine Ca (Li rfl) (Ca (Ic rfl) (Ga ?_))
 refine Zb (Xb (Ua (We (v := .string (bs (o ++ [34]))) (x := .int .i64 0) rfl rfl rfl) ?_))
 refine ⟨?_, hF.same⟩
 rw [if_pos (by simpa using hc0), Yw, ← hq, Jz by_Om, List.append_nil]
end Go.Scarf
namespace Go.Scarf
open Go.RowKit Go.Proofs Go.Proofs.Tryz
def Fl (m : Bool) (ind d : Nat) : Str := if m then [10] ++ Lib.repeatL [32] (ind * d) else []
def qS (t : Str) : Str := if Lib.validD t = true then Yw t else []
theorem Cp (c : UInt8) (n : Nat) : (Lib.repeatL [c] n).length = n := by
  induction n with
  | zero => rfl
  | succ n ih => simp [Lib.repeatL, ih]; try omega
theorem Yr (m : Bool) (ind d : Nat) : (Fl m ind d).length ≤ 1 + ind * d := by unfold Fl; split <;> simp [Cp] <;> omega
theorem O1 (s : Str) (p : Nat) : (Gq s p).length ≤ 6 * (s.length - p) := by
  induction h : s.length - p using Nat.strongRecOn generalizing p with
  | ind n ih =>
    by_cases hp : p < s.length
    · rw [Cn hp, List.length_append]
      have h1 := Sl (Utf8.decode (bs s) p).1
      have h2 := Af s p
      have h3 := ih (s.length - (p + (Utf8.decode (bs s) p).2)) by_Om (p + (Utf8.decode (bs s) p).2) rfl
      omega
    · rw [Jz hp]; simp
theorem Ky (s : Str) : (qS s).length ≤ 6 * s.length + 2 := by
  unfold qS
  split
  · have := O1 s 0
    simp [Yw]; omega
  · simp
theorem UB (t : Str) (c : Nat) (h1 : c ≤ 9223372036854775807) (h2 : t.length * c ≤ 140737488355328) (w : World) : Calls prog 124 #[.string (bs t), .int .i64 (c : Int)] w (Nd fun v w' => v = .string (bs (Lib.repeatL t c)) ∧ Same [] w w') := by
  have h := strings_Repeat (bs t) c w h1 (by rw [Ql]; exact h2)
  exact Mp h
theorem HD (t : Str) (hl : t.length ≤ 17592186044416) (w0 : World) (hG : Gl w0) : Calls prog 190 #[.string (bs t)] w0 (Nd fun v w' => v = .tuple #[.string (bs (qS t)), .int .i64 (if Lib.validD t = true then 0 else 2)] ∧ Same [] w0 w') := by
  refine Fh (EG w0 hG t hl) fun v w' ⟨h1, h2⟩ => ⟨?_, h2⟩
  rw [h1, qS]
  split <;> rfl
theorem Bd.mul {w : World} {B pb T : Nat} {m : Bool} {ind : Int} {s : Str} (h : Bd w B pb T [.bool m, .int .i64 ind] s) : w.cell? ⟨pb, 2, none⟩ = some (.bool m) := by
  obtain ⟨ap, v, hh, -⟩ := h.ex
  rw [Hb hh]; rfl
theorem Bd.ind {w : World} {B pb T : Nat} {m : Bool} {ind : Int} {s : Str} (h : Bd w B pb T [.bool m, .int .i64 ind] s) : w.cell? ⟨pb, 3, none⟩ = some (.int .i64 ind) := by
  obtain ⟨ap, v, hh, -⟩ := h.ex
  rw [Hb hh]; rfl
theorem Gl.wrote {w0 w : World} {B pb : Nat} (h : Gl w0) (hs : Same (Wk w0 B pb) w0 w) (hb : 7 ≤ B) (hp : B ≤ pb) : Gl w := h.same hs fun x hx => by
  rcases Te.1 hx with rfl | ⟨-, h1, -⟩ <;> omega
theorem Q7 (w0 : World) (B pb : Nat) (m : Bool) (ind : Nat) (s : Str) (hBd : Bd w0 B pb 161 [.bool m, .int .i64 (ind : Int)] s) (d : Nat) (hd : ind * d ≤ 1000000000) (hl : s.length + (Fl m ind d).length ≤ 140737488355328) : Xq 192 #[.pointer (some ⟨pb, 0, none⟩), .int .i64 (d : Int)] (.tuple #[]) w0 B pb 161 [.bool m, .int .i64 (ind : Int)] (s ++ Fl m ind d) := by
 unfold Xq
 refine Ka func192 rfl ntmps192 Kb (Td _ _) ?_
 have hB := BW.start hBd
 have hF := FR.start w0 (Wk w0 B pb)
 refine Ma (Ca (Qd rfl) (Ca (Ze rfl) (Ca (Ac L4 rfl) (Ja (v := .bool (m)) (Db isAgg4 rfl hB.bd.mul) (Ga ?_)))))
 refine Qj rfl rfl (fun hc0 => ?_) (fun hc0 => ?_)
 rw [Fl, if_pos hc0] at hl
 simp only [List.length_append, List.length_cons, List.length_nil, Cp] at hl
 refine Ma (Ca (Qd rfl) (Ca (Ze rfl) (Ca (Ac Sg rfl) ?_)))
 refine Ya (Qf hB.bd 10 Pa Pa by_Om) (Mb Jl rfl rfl rfl) ?_
 rintro _ w ⟨rfl, hBd, hE⟩
 replace hF := hF.wrote hB hE Fa
 replace hB := hB.wrote hBd hE
 clear hBd hE
 refine Ga ?_
 refine Dd [] (.free 0 (.free 1 (.free 2 (.free 3 (.free 4 (.free 5 (.free 6 (.free 7 (.free 8 (.act 9 (.act 10 .nil))))))))))) hF ?_
 clear hF; intro w hF hE
 replace hB := hB.ext hE
 clear hE
 refine ⟨fun wq => FR w0 (Wk w0 B pb) _ wq ∧ ∃ s', Bd wq B pb 161 [.bool m, .int .i64 (ind : Int)] s', ⟨hF, ⟨_, hB.bd⟩⟩, ?_⟩
 refine Cb rfl (Qd rfl) (Cb rfl (Ze rfl) (Cb rfl (Ac Sg rfl) (Cb rfl (Qd rfl) (Cb rfl (Ze rfl) (Cb rfl (Ac ME rfl) ?_)))))
 refine Qa rfl (v := .int .i64 ((ind : Int))) (fun w hC => Db isAgg3 rfl (by obtain ⟨-, s_, hs_⟩ := hC; exact hs_.ind)) ?_
 refine Cb rfl (Ib rfl) ?_
 refine Qa rfl (v := .int .i64 (((ind * d : Nat) : Int))) (fun w hC => I5 rfl rfl (Ng (by rw [Int.natCast_mul]) by_Om by_Om)) ?_
 refine Ie rfl (UB [32] (ind * d) by_Om (by simp; omega) _) (Mb W7 rfl rfl rfl) ?_
 rintro _ w ⟨rfl, hE⟩
 replace hF := hF.ext hE
 replace hB := hB.ext hE
 clear hE
 refine ⟨⟨hF, ⟨_, hB.bd⟩⟩, ?_⟩
 refine Ie rfl (Vh hB.bd (Lib.repeatL [32] (ind * d)) (by simp [Cp]; omega)) (Mb Fv rfl rfl rfl) ?_
 rintro _ w ⟨rfl, hBd, hE⟩
 replace hF := hF.wrote hB hE Fa
 replace hB := hB.wrote hBd hE
 clear hBd hE
 refine ⟨⟨hF, ⟨_, hB.bd⟩⟩, ?_⟩
 refine Bc ?_
 refine Rd (Pc (Pe rfl) ?_)
 exact ⟨rfl, by simpa [Fl, hc0] using hB.bd, hF.same⟩
 refine Wa ?_
 refine Rd (Pc (Pe rfl) ?_)
 exact ⟨rfl, by simpa [Fl, hc0] using hB.bd, hF.same⟩
theorem Wy (w0 : World) (B pb : Nat) (m : Bool) (ind : Nat) (s : Str) (hBd : Bd w0 B pb 161 [.bool m, .int .i64 (ind : Int)] s) (hG : Gl w0) (h8 : 7 ≤ B) (t : Str) (ht : t.length ≤ 17592186044416) (hl : s.length + (qS t).length ≤ 140737488355328) : Xq 158 #[.pointer (some ⟨pb, 0, none⟩), .string (bs t)] (.tuple #[]) w0 B pb 161 [.bool m, .int .i64 (ind : Int)] (s ++ qS t) := by
 unfold Xq
 refine Ka func158 rfl ntmps158 Kb (Td _ _) ?_
 have hB := BW.start hBd
 have hF := FR.start w0 (Wk w0 B pb)
 refine Ma (Ca (Xe rfl) ?_)
 refine Ya (HD t ht _ ((hG.wrote hF.same h8 hBd.le))) (Fb XJ rfl rfl) ?_
 rintro _ w ⟨rfl, hE⟩
 replace hF := hF.ext hE
 replace hB := hB.ext hE
 clear hE
 refine Ca (Wm rfl) (Ca (FB rfl rfl) (Ca (Co rfl rfl) (Ca (Li rfl) (Ca (Ic rfl) (Ga (Ea (Ca (Qd rfl) (Ca (Ze rfl) (Ca (Ac Sg rfl) (Ca (Xe rfl) ?_))))))))))
 refine Ya (Vh hB.bd (qS t) by_Om) (Mb Fv rfl rfl rfl) ?_
 rintro _ w ⟨rfl, hBd, hE⟩
 replace hF := hF.wrote hB hE Fa
 replace hB := hB.wrote hBd hE
 clear hBd hE
 refine Za ?_
 refine Rd (Pc (Pe rfl) ?_)
 exact ⟨rfl, hB.bd, hF.same⟩
end Go.Scarf
namespace Go.Scarf
open Go.RowKit Go.Proofs Go.Proofs.Tryz
def Xl (m : Bool) (ind d : Nat) : Bool → List Str → Str
  | _, [] => []
  | first, p :: ps => (if first then [] else [44]) ++ (Fl m ind (d + 1) ++ (p ++ Xl m ind d false ps))
def Hl (m : Bool) (ind d : Nat) (o c : UInt8) (ps : List Str) : Str := [o] ++ (Xl m ind d true ps ++ ((if ps = [] then [] else Fl m ind d) ++ [c]))
mutual
def Gi (m : Bool) (ind : Nat) : Tree → Nat → Str
  | .node k t ks xs, d => if k = 1 then [110, 117, 108, 108] else if k = 4 then qS t else if k = 5 then Hl m ind d 91 93 (Wo m ind xs (d + 1)) else if k = 6 then Hl m ind d 123 125 (Nl m ind xs ks (d + 1)) else t
def Wo (m : Bool) (ind : Nat) : List Tree → Nat → List Str
  | [], _ => []
  | x :: xs, d => Gi m ind x d :: Wo m ind xs d
def Nl (m : Bool) (ind : Nat) : List Tree → List Str → Nat → List Str
  | [], _, _ => []
  | x :: xs, ks, d => (qS (ks.headD []) ++ ([58] ++ ((if m then [32] else []) ++ Gi m ind x d))) :: Nl m ind xs ks.tail d
end
theorem Pf : ∀ {xs : List Tree} {x : Tree}, x ∈ xs → Fd x ≤ Uc xs
  | y :: ys, x, h => by
    rw [Uc]
    rcases List.mem_cons.1 h with rfl | h
    · omega
    · have := Pf h; omega
theorem Ns (m : Bool) (ind d : Nat) : ∀ xs, Wo m ind xs d = xs.map (fun x => Gi m ind x d)
  | [] => by simp [Wo]
  | x :: xs => by simp [Wo, Ns m ind d xs]
def R6 (m : Bool) (ind d : Nat) (k : Str) (x : Tree) : Str := qS k ++ ([58] ++ ((if m then [32] else []) ++ Gi m ind x d))
theorem An (m : Bool) (ind d : Nat) : ∀ xs ks, (Nl m ind xs ks d).length = xs.length
  | [], ks => by simp [Nl]
  | x :: xs, ks => by simp [Nl, An m ind d xs ks.tail]
theorem Xy (m : Bool) (ind d : Nat) : ∀ (xs : List Tree) (ks : List Str) (j : Nat) (h : j < xs.length) (hk : j < ks.length) (h' : j < (Nl m ind xs ks d).length), (Nl m ind xs ks d)[j] = R6 m ind d ks[j] xs[j]
  | x :: xs, k :: ks, 0, _, _, _ => by simp [Nl, R6]
  | x :: xs, k :: ks, j + 1, h, hk, h' => by
    simp only [Nl, List.tail_cons, List.getElem_cons_succ]
    exact Xy m ind d xs ks j (by simpa using h) (by simpa using hk) (by simpa [Nl] using h')
theorem Z_ (m : Bool) (ind d : Nat) {ps : List Str} {j : Nat} (h : j < ps.length) : Xl m ind d (decide (j = 0)) (ps.drop j) = (if j = 0 then [] else [44]) ++ (Fl m ind (d + 1) ++ (ps[j] ++ Xl m ind d (decide (j + 1 = 0)) (ps.drop (j + 1)))) := by
  rw [List.drop_eq_getElem_cons h, Xl]
  simp
mutual
def E8 : Tree → Prop | .node _ t ks xs => t.length ≤ 17592186044416 ∧ (∀ k ∈ ks, k.length ≤ 17592186044416) ∧ Q6 xs
def Q6 : List Tree → Prop | [] => True | x :: xs => E8 x ∧ Q6 xs
end
theorem Cr : ∀ {xs : List Tree}, Q6 xs → ∀ x ∈ xs, E8 x
  | [], _, _, h => absurd h Fa
  | y :: ys, h, x, hx => by
    rw [Q6] at h
    rcases List.mem_cons.1 hx with rfl | hx
    · exact h.1
    · exact Cr h.2 x hx
def KE (x : Tree) : Prop := ∀ (m : Bool) (ind d : Nat) (w0 : World) (B pb : Nat) (s : Str) (cs : List Value), Bd w0 B pb 161 [.bool m, .int .i64 (ind : Int)] s → Gl w0 → 7 ≤ B → Rep (fun b => b ∉ Wk w0 B pb) w0 (Qc x) cs → E8 x → Ud nodeB x = true →
  ind * (d + Fd x) ≤ 1000000000 → d + Fd x ≤ 1000000000 → s.length + (Gi m ind x d).length ≤ 140737488355328 → Xq 126 #[.pointer (some ⟨pb, 0, none⟩), .agg cs.toArray, .int .i64 (d : Int)] (.tuple #[]) w0 B pb 161 [.bool m, .int .i64 (ind : Int)] (s ++ Gi m ind x d)
def VL (f : Nat) (k : Int) (t : Str) (ks : List Str) (xs : List Tree) (m : Bool) (ind d : Nat) (ps : List Str) : Prop := ∀ (j : Nat) (hj : j < ps.length) (w0 : World) (B pb : Nat) (s : Str) (A B' : Option Addr) (c e : Nat), Bd w0 B pb 161 [.bool m, .int .i64 (ind : Int)] s → Gl w0 → 7 ≤ B →
  Rep (fun b => b ∉ Wk w0 B pb) w0 (Qc (.node k t ks xs)) [.int .i64 k, .string (bs t), .slice A ks.length c, .slice B' xs.length e] → s.length + ps[j].length ≤ 140737488355328 →
  Xq f #[.pointer (some ⟨pb, 0, none⟩), .agg #[.int .i64 k, .string (bs t), .slice A ks.length c, .slice B' xs.length e], .int .i64 (j : Int), .int .i64 (d : Int)] (.tuple #[]) w0 B pb 161 [.bool m, .int .i64 (ind : Int)] (s ++ ps[j])
theorem CK (k : Int) (t : Str) (ks : List Str) (xs : List Tree) (m : Bool) (ind d : Nat) (j : Nat) (hj : j < xs.length) (w0 : World) (B pb : Nat) (s : Str) (A B_ : Option Addr) (c e : Nat) (hBd : Bd w0 B pb 161 [.bool m, .int .i64 (ind : Int)] s) (hG : Gl w0) (h8 : 7 ≤ B) (hX : Rep (fun b => b ∉ Wk w0 B pb) w0 (Qc (.node k t ks xs)) [.int .i64 k, .string (bs t), .slice A ks.length c, .slice B_ xs.length e]) (hv : ∀ x ∈ xs, KE x) (hok : E8 (.node k t ks xs)) (hn : Ud nodeB (.node k t ks xs) = true) (hd : ind * (d + Uc xs) ≤ 1000000000) (hd2 : d + Uc xs ≤ 1000000000) (hl : s.length + (Gi m ind xs[j] d).length ≤ 140737488355328) : Xq 160 #[.pointer (some ⟨pb, 0, none⟩), .agg #[.int .i64 k, .string (bs t), .slice A ks.length c, .slice B_ xs.length e], .int .i64 (j : Int), .int .i64 (d : Int)] (.tuple #[]) w0 B pb 161 [.bool m, .int .i64 (ind : Int)] (s ++ Gi m ind xs[j] d) := by
 unfold Xq
 rw [E8] at hok
 refine Ka func160 rfl ntmps160 Kb (G6 _ _ _ _) ?_
 have hB := BW.start hBd
 have hF := FR.start w0 (Wk w0 B pb)
 refine Ma ?_
 refine Ij hF rfl ?_
 clear hF; intro b1 w hb1 hF hE
 have nb1 : b1 ≠ pb := by have := hB.lt; omega
 replace hX := hX.off_ext hB.lt hE
 replace hB := hB.ext hE
 clear hE
 refine Ga (Ea (Ca (Qd rfl) (Ca (Ac Ae rfl) (Md (Di isAgg22 rfl hF.F 0 rfl rfl) (Ca (Ib rfl) ?_)))))
 obtain ⟨A_, c_, B__, e_, heq_, -, -, hK_, hXs_⟩ := hX.tree_inv
 simp only [List.cons.injEq, Value.slice.injEq, true_and, and_true] at heq_
 obtain ⟨⟨rfl, rfl⟩, rfl, rfl⟩ := heq_
 obtain ⟨ad0, cs0, hA0, hl0, hk0, hx0⟩ := hXs_.tree_elem (i := j) by_Om
 have ho0 := hx0.one_
 refine Ja (v := .pointer (some (ad0.add (j * 4)))) (Ra (i := (j : Int)) Il rfl hA0 rfl by_Om by_Om) (Ja (v := .agg (List.toArray cs0)) (Wb (l := cs0) isAgg27 sizeOf27 rfl hl0 hk0) (Ca (Ib rfl) ?_))
 refine Ya (hv xs[j] (List.getElem_mem hj) m ind d _ B pb s _ hB.bd (hG.wrote hF.same h8 hBd.le) h8 hx0 (Cr hok.2.2 _ (List.getElem_mem hj)) ((Gg hn).2 _ (List.getElem_mem hj)) (by have h1 := Pf (List.getElem_mem hj); exact Nat.le_trans (Nat.mul_le_mul_left ind by_Om) hd) (by have h1 := Pf (List.getElem_mem hj); omega) hl) (Fc Y1 rfl rfl rfl rfl) ?_
 rintro _ w ⟨rfl, hBd2, hE⟩
 replace hF := hF.wrote hB hE (by simp [Sh, nb1])
 replace hX := hX.off hE
 replace hB := hB.wrote hBd2 hE
 clear hBd2 hE
 refine Za ?_
 refine Rd (Pc (Pe rfl) ?_)
 exact ⟨rfl, hB.bd, hF.same⟩
theorem TD (k : Int) (t : Str) (ks : List Str) (xs : List Tree) (m : Bool) (ind d : Nat) (j : Nat) (hj : j < xs.length) (hjk : j < ks.length) (w0 : World) (B pb : Nat) (s : Str) (A B_ : Option Addr) (c e : Nat) (hBd : Bd w0 B pb 161 [.bool m, .int .i64 (ind : Int)] s) (hG : Gl w0) (h8 : 7 ≤ B) (hX : Rep (fun b => b ∉ Wk w0 B pb) w0 (Qc (.node k t ks xs)) [.int .i64 k, .string (bs t), .slice A ks.length c, .slice B_ xs.length e]) (hv : ∀ x ∈ xs, KE x) (hok : E8 (.node k t ks xs)) (hn : Ud nodeB (.node k t ks xs) = true) (hd : ind * (d + Uc xs) ≤ 1000000000) (hd2 : d + Uc xs ≤ 1000000000) (hl : s.length + (R6 m ind d ks[j] xs[j]).length ≤ 140737488355328) : Xq 161 #[.pointer (some ⟨pb, 0, none⟩), .agg #[.int .i64 k, .string (bs t), .slice A ks.length c, .slice B_ xs.length e], .int .i64 (j : Int), .int .i64 (d : Int)] (.tuple #[]) w0 B pb 161 [.bool m, .int .i64 (ind : Int)] (s ++ R6 m ind d ks[j] xs[j]) := by
 unfold Xq
 rw [E8] at hok
 rw [R6] at hl
 simp only [List.length_append, List.length_cons, List.length_nil] at hl
 refine Ka func161 rfl ntmps161 Kb (G6 _ _ _ _) ?_
 have hB := BW.start hBd
 have hF := FR.start w0 (Wk w0 B pb)
 refine Ma ?_
 refine Ij hF rfl ?_
 clear hF; intro b1 w hb1 hF hE
 have nb1 : b1 ≠ pb := by have := hB.lt; omega
 replace hX := hX.off_ext hB.lt hE
 replace hB := hB.ext hE
 clear hE
 refine Dc (Ca (Qd rfl) (Ca (Ac Ni rfl) (Md (Di isAgg25 rfl hF.F 0 rfl rfl) (Ca (Ib rfl) ?_))))
 obtain ⟨A_, c_, B__, e_, heq_, -, -, hK_, hXs_⟩ := hX.tree_inv
 simp only [List.cons.injEq, Value.slice.injEq, true_and, and_true] at heq_
 obtain ⟨⟨rfl, rfl⟩, rfl, rfl⟩ := heq_
 obtain ⟨ad0, hA0, hk0, hx0⟩ := hK_.str_elem (i := j) by_Om
 refine Ja (v := .pointer (some (ad0.add (j * 1)))) (Ra (i := (j : Int)) Du rfl hA0 rfl by_Om by_Om) (Ja (v := .string (bs (ks[j]))) (Db isAgg9 rfl hk0) ?_)
 refine Ya (Wy _ B pb m ind s hB.bd (hG.wrote hF.same h8 hBd.le) h8 ks[j] (hok.2.1 _ (List.getElem_mem hjk)) by_Om) (Mb UC rfl rfl rfl) ?_
 rintro _ w ⟨rfl, hBd2, hE⟩
 replace hF := hF.wrote hB hE (by simp [Sh, nb1])
 replace hX := hX.off hE
 replace hB := hB.wrote hBd2 hE
 clear hBd2 hE
 refine Dc (Ca (Qd rfl) (Ca (Ze rfl) (Ca (Ac Sg rfl) ?_)))
 refine Ya (Qf hB.bd 58 Pa Pa (by rw [List.length_append]; omega)) (Mb Jl rfl rfl rfl) ?_
 rintro _ w ⟨rfl, hBd2, hE⟩
 replace hF := hF.wrote hB hE (by simp [Sh, nb1])
 replace hX := hX.off hE
 replace hB := hB.wrote hBd2 hE
 clear hBd2 hE
 refine Ga (Ia (Ma (Ca (Qd rfl) (Ca (Ze rfl) (Ca (Ac L4 rfl) (Ja (v := .bool (m)) (Db isAgg4 rfl hB.bd.mul) (Ga ?_)))))))
 refine Qj rfl rfl (fun hc0 => ?_) (fun hc0 => ?_)
 refine Ea (Ca (Qd rfl) (Ca (Ze rfl) (Ca (Ac Sg rfl) ?_)))
 refine Ya (Qf hB.bd 32 Pa Pa (by simp only [List.length_append, List.length_cons, List.length_nil]; (first | rw [if_pos hc0] at hl | rw [if_neg (by simp [hc0])] at hl); simp only [List.length_cons, List.length_nil] at hl; omega)) (Mb Jl rfl rfl rfl) ?_
 rintro _ w ⟨rfl, hBd2, hE⟩
 replace hF := hF.wrote hB hE (by simp [Sh, nb1])
 replace hX := hX.off hE
 replace hB := hB.wrote hBd2 hE
 clear hBd2 hE
 refine Ga (Ea (Ca (Qd rfl) (Ca (Ac Ae rfl) (Md (Di isAgg22 rfl hF.F 0 rfl rfl) (Ca (Ib rfl) ?_)))))
 obtain ⟨A_, c_, B__, e_, heq_, -, -, hK_, hXs_⟩ := hX.tree_inv
 simp only [List.cons.injEq, Value.slice.injEq, true_and, and_true] at heq_
 obtain ⟨⟨rfl, rfl⟩, rfl, rfl⟩ := heq_
 obtain ⟨ad1, cs1, hA1, hl1, hk1, hx1⟩ := hXs_.tree_elem (i := j) by_Om
 have ho1 := hx1.one_
 refine Ja (v := .pointer (some (ad1.add (j * 4)))) (Ra (i := (j : Int)) Il rfl hA1 rfl by_Om by_Om) (Ja (v := .agg (List.toArray cs1)) (Wb (l := cs1) isAgg27 sizeOf27 rfl hl1 hk1) (Ca (Ib rfl) ?_))
 refine Ya (hv xs[j] (List.getElem_mem hj) m ind d _ B pb _ _ hB.bd (hG.wrote hF.same h8 hBd.le) h8 hx1 (Cr hok.2.2 _ (List.getElem_mem hj)) ((Gg hn).2 _ (List.getElem_mem hj)) (by have h1 := Pf (List.getElem_mem hj); exact Nat.le_trans (Nat.mul_le_mul_left ind by_Om) hd) (by have h1 := Pf (List.getElem_mem hj); omega) (by simp only [List.length_append, List.length_cons, List.length_nil]; (first | rw [if_pos hc0] at hl | rw [if_neg (by simp [hc0])] at hl); simp only [List.length_cons, List.length_nil] at hl; omega)) (Fc Y1 rfl rfl rfl rfl) ?_
 rintro _ w ⟨rfl, hBd2, hE⟩
 replace hF := hF.wrote hB hE (by simp [Sh, nb1])
 replace hX := hX.off hE
 replace hB := hB.wrote hBd2 hE
 clear hBd2 hE
 refine Za ?_
 refine Rd (Pc (Pe rfl) ?_)
 exact ⟨rfl, by simpa [R6, hc0] using hB.bd, hF.same⟩
 refine Wa (Ha (Ea (Ca (Qd rfl) (Ca (Ac Ae rfl) (Md (Di isAgg22 rfl hF.F 0 rfl rfl) (Ca (Ib rfl) ?_))))))
 obtain ⟨A_, c_, B__, e_, heq_, -, -, hK_, hXs_⟩ := hX.tree_inv
 simp only [List.cons.injEq, Value.slice.injEq, true_and, and_true] at heq_
 obtain ⟨⟨rfl, rfl⟩, rfl, rfl⟩ := heq_
 obtain ⟨ad2, cs2, hA2, hl2, hk2, hx2⟩ := hXs_.tree_elem (i := j) by_Om
 have ho2 := hx2.one_
 refine Ja (v := .pointer (some (ad2.add (j * 4)))) (Ra (i := (j : Int)) Il rfl hA2 rfl by_Om by_Om) (Ja (v := .agg (List.toArray cs2)) (Wb (l := cs2) isAgg27 sizeOf27 rfl hl2 hk2) (Ca (Ib rfl) ?_))
 refine Ya (hv xs[j] (List.getElem_mem hj) m ind d _ B pb _ _ hB.bd (hG.wrote hF.same h8 hBd.le) h8 hx2 (Cr hok.2.2 _ (List.getElem_mem hj)) ((Gg hn).2 _ (List.getElem_mem hj)) (by have h1 := Pf (List.getElem_mem hj); exact Nat.le_trans (Nat.mul_le_mul_left ind by_Om) hd) (by have h1 := Pf (List.getElem_mem hj); omega) (by simp only [List.length_append, List.length_cons, List.length_nil]; (first | rw [if_pos hc0] at hl | rw [if_neg (by simp [hc0])] at hl); simp only [List.length_cons, List.length_nil] at hl; omega)) (Fc Y1 rfl rfl rfl rfl) ?_
 rintro _ w ⟨rfl, hBd2, hE⟩
 replace hF := hF.wrote hB hE (by simp [Sh, nb1])
 replace hX := hX.off hE
 replace hB := hB.wrote hBd2 hE
 clear hBd2 hE
 refine Za ?_
 refine Rd (Pc (Pe rfl) ?_)
 exact ⟨rfl, by simpa [R6, hc0] using hB.bd, hF.same⟩
end Go.Scarf
namespace Go.Scarf
open Go.RowKit Go.Proofs Go.Proofs.Tryz
theorem V_ (m : Bool) (ind d : Nat) (b : Bool) : Xl m ind d b [] = [] := by cases b <;> rfl
theorem Q8 (f : Nat) (hen : Gb prog f) (k : Int) (t : Str) (ks : List Str) (xs : List Tree) (m : Bool) (ind d : Nat) (bo bc : UInt8) (ps : List Str) (hps : ps.length = xs.length) (hI : VL f k t ks xs m ind (d + 1) ps) (w0 : World) (B pb : Nat) (s : Str) (A B_ : Option Addr) (c e : Nat) (hBd : Bd w0 B pb 161 [.bool m, .int .i64 (ind : Int)] s) (hG : Gl w0) (h8 : 7 ≤ B) (hX : Rep (fun b => b ∉ Wk w0 B pb) w0 (Qc (.node k t ks xs)) [.int .i64 k, .string (bs t), .slice A ks.length c, .slice B_ xs.length e]) (hd1 : ind * (d + 1) ≤ 1000000000) (hd2 : d + 1 ≤ 1000000000) (hxl : xs.length ≤ 9223372036854775807) (hlim : s.length + (Hl m ind d bo bc ps).length ≤ 140737488355328) : Xq 159 #[.pointer (some ⟨pb, 0, none⟩), .agg #[.int .i64 k, .string (bs t), .slice A ks.length c, .slice B_ xs.length e], .int .i64 (d : Int), .string (bs [bo, bc]), .func (.func f) #[.pointer (some ⟨pb, 0, none⟩)] #[]] (.tuple #[]) w0 B pb 161 [.bool m, .int .i64 (ind : Int)] (s ++ Hl m ind d bo bc ps) := by
 unfold Xq
 rw [Hl] at hlim
 simp only [List.length_append, List.length_cons, List.length_nil] at hlim
 refine Ka func159 rfl ntmps159 Kb (N6 _ _ _ _ _) ?_
 have hB := BW.start hBd
 have hF := FR.start w0 (Wk w0 B pb)
 refine Ma ?_
 refine Ij hF rfl ?_
 clear hF; intro b1 w hb1 hF hE
 have nb1 : b1 ≠ pb := by have := hB.lt; omega
 replace hX := hX.off_ext hB.lt hE
 replace hB := hB.ext hE
 clear hE
 refine Ga (Ia ?_)
 refine Dd [] (.free 0 (.free 1 (.free 2 (.free 3 (.free 4 (.act 5 .nil)))))) hF ?_
 clear hF; intro w hF hE
 replace hX := hX.off_ext hB.lt hE
 replace hB := hB.ext hE
 clear hE
 refine ⟨fun wq => FR w0 (Wk w0 B pb) _ wq, hF, ?_⟩
 refine Cb rfl (Qd rfl) (Cb rfl (Ze rfl) (Cb rfl (Ac Sg rfl) (Cb rfl (Xe rfl) ?_)))
 refine Qa rfl (v := .int .u8 (((bo.toNat : Nat) : Int))) (fun w hC => Zg (s := [bo, bc]) 0 underlying9 rfl rfl Fa) ?_
 refine Ie rfl (Zl hB.bd bo by_Om) (Mb Jl rfl rfl rfl) ?_
 rintro _ w ⟨rfl, hBd2, hE⟩
 replace hF := hF.wrote hB hE (by simp [Sh, nb1])
 replace hX := hX.off hE
 replace hB := hB.wrote hBd2 hE
 clear hBd2 hE
 refine ⟨hF, ?_⟩
 refine Bc (Ha (Ia (Ma (Ca (Ac Ae rfl) (Md (Di isAgg22 rfl hF.F 0 rfl rfl) (Ca (Mf underlying22 rfl) (Ca (Ib rfl) (Ga (Va ?_)))))))))
 refine Xc (fun μ σ w => ∃ (j : Nat), ∃ (o : Str), μ = xs.length - j ∧ (j ≤ xs.length) ∧ (o ++ Xl m ind d (decide (j = 0)) (ps.drop j) = s ++ ([bo] ++ Xl m ind d true ps)) ∧ (BW w0 (Wk w0 B pb) w B pb 161 [.bool m, .int .i64 (ind : Int)] (o)) ∧ (Rep (fun b => b ∉ Wk w B pb) w (Qc (.node k t ks xs)) [.int .i64 k, .string (bs t), .slice A ks.length c, .slice B_ xs.length e]) ∧ AllEq σ [(0, .pointer (some ⟨pb, 0, none⟩)), (2, .int .i64 ((d : Int))), (3, .string (bs ([bo, bc]))), (4, .func (.func f) #[.pointer (some ⟨pb, 0, none⟩)] #[]), (6, .pointer (some ⟨b1, 0, none⟩)), (19, .int .i64 ((xs.length : Nat))), (20, .int .i64 ((j : Int)))] ∧ FR w0 (Wk w0 B pb) [(b1, .cells #[.int .i64 k, .string (bs t), .slice A ks.length c, .slice B_ xs.length e] 27)] w) _ ⟨0, s ++ [bo], rfl, (Nat.zero_le _), Fa, (hB), (hX), L7, hF⟩ ?_
 clear hF; rintro μ σ w ⟨j, o, rfl, hj, hq, hB, hX, hs, hF⟩
 refine Cg.slots hs ?_
 clear hs; intro σ
 refine Ma (Ca (Yl rfl rfl) (Ga (Ia ?_)))
 refine Jc rfl rfl (fun hc0 => ?_) (fun hc0 => ?_)
 have hjp : j < ps.length := by omega
 have hjd := Z_ m ind d hjp
 have hL := congrArg List.length hq
 rw [hjd] at hL
 have hif : (if j = 0 then ([] : Str) else [44]).length = if j = 0 then 0 else 1 := by split <;> rfl
 simp only [List.length_append, List.length_cons, List.length_nil, hif] at hL
 refine Wa (Ha (Ia (Va (Ma (Ca (Ib rfl) (Ca (Ic rfl) (Ga (Ia (Ma (Ca (Ib rfl) ?_))))))))))
 refine Ca (Iy rfl rfl) (Ga ?_)
 refine Jc rfl rfl (fun hc1 => ?_) (fun hc1 => ?_)
 refine Ea (Ca (Qd rfl) (Ca (Ze rfl) (Ca (Ac Sg rfl) ?_)))
 refine Ya (Qf hB.bd 44 Pa Pa (by rw [if_neg by_Om] at hL; omega)) (Mb Jl rfl rfl rfl) ?_
 rintro _ w ⟨rfl, hBd2, hE⟩
 replace hF := hF.wrote hB hE (by simp [Sh, nb1])
 replace hX := hX.off hE
 replace hB := hB.wrote hBd2 hE
 clear hBd2 hE
 refine Dc (Ca (Qd rfl) (Ca (Ib rfl) (Ca (Bj (((d + 1 : Nat) : Int)) rfl rfl) ?_)))
 refine Ya (Q7 _ B pb m ind _ hB.bd (d + 1) hd1 (by (try simp only [List.length_append, List.length_cons, List.length_nil]); first | (rw [if_neg by_Om] at hL; omega) | (rw [if_pos by_Om] at hL; omega))) (Mb Z5 rfl rfl rfl) ?_
 rintro _ w ⟨rfl, hBd2, hE⟩
 replace hF := hF.wrote hB hE (by simp [Sh, nb1])
 replace hX := hX.off hE
 replace hB := hB.wrote hBd2 hE
 clear hBd2 hE
 refine Ga (Ea (Ca (M5) (Md (Pk isAgg27 sizeOf27 rfl hF.F 0 rfl rfl) (Ca (Ib rfl) (Ca (Ib rfl) (Ca (Bj (((d + 1 : Nat) : Int)) rfl rfl) ?_))))))
 refine Ya (hI j hjp _ B pb _ A B_ c e hB.bd (hG.wrote hF.same h8 hBd.le) h8 hX (by (try simp only [List.length_append, List.length_cons, List.length_nil]); first | (rw [if_neg by_Om] at hL; omega) | (rw [if_pos by_Om] at hL; omega))) (X3 rfl hen rfl rfl rfl rfl) ?_
 rintro _ w ⟨rfl, hBd2, hE⟩
 replace hF := hF.wrote hB hE (by simp [Sh, nb1])
 replace hX := hX.off hE
 replace hB := hB.wrote hBd2 hE
 clear hBd2 hE
 replace hB : BW w0 (Wk w0 B pb) w B pb 161 [.bool m, .int .i64 (ind : Int)] (o ++ ((if j = 0 then [] else [44]) ++ (Fl m ind (d + 1) ++ ps[j]))) := by first | (have h0 : ¬ j = 0 := by_Om; rw [if_neg h0]; simpa using hB) | (have h0 : j = 0 := by_Om; rw [if_pos h0]; simpa using hB)
 refine Za (Ob (Ha (Ea (Ca (Dm rfl rfl) (Ca (Ib rfl) (Za ?_))))))
 refine Ec ⟨_, ?_, j + 1, o ++ ((if j = 0 then [] else [44]) ++ (Fl m ind (d + 1) ++ ps[j])), rfl, by_Om, (by have h := hq; rw [hjd] at h; simpa [List.append_assoc] using h), (hB), (hX), L7, hF⟩
 omega
 refine Wa (Ha (Ma (Ca (Qd rfl) (Ca (Ib rfl) (Ca (Bj (((d + 1 : Nat) : Int)) rfl rfl) ?_)))))
 refine Ya (Q7 _ B pb m ind _ hB.bd (d + 1) hd1 (by (try simp only [List.length_append, List.length_cons, List.length_nil]); first | (rw [if_neg by_Om] at hL; omega) | (rw [if_pos by_Om] at hL; omega))) (Mb Z5 rfl rfl rfl) ?_
 rintro _ w ⟨rfl, hBd2, hE⟩
 replace hF := hF.wrote hB hE (by simp [Sh, nb1])
 replace hX := hX.off hE
 replace hB := hB.wrote hBd2 hE
 clear hBd2 hE
 refine Ga (Ea (Ca (M5) (Md (Pk isAgg27 sizeOf27 rfl hF.F 0 rfl rfl) (Ca (Ib rfl) (Ca (Ib rfl) (Ca (Bj (((d + 1 : Nat) : Int)) rfl rfl) ?_))))))
 refine Ya (hI j hjp _ B pb _ A B_ c e hB.bd (hG.wrote hF.same h8 hBd.le) h8 hX (by (try simp only [List.length_append, List.length_cons, List.length_nil]); first | (rw [if_neg by_Om] at hL; omega) | (rw [if_pos by_Om] at hL; omega))) (X3 rfl hen rfl rfl rfl rfl) ?_
 rintro _ w ⟨rfl, hBd2, hE⟩
 replace hF := hF.wrote hB hE (by simp [Sh, nb1])
 replace hX := hX.off hE
 replace hB := hB.wrote hBd2 hE
 clear hBd2 hE
 replace hB : BW w0 (Wk w0 B pb) w B pb 161 [.bool m, .int .i64 (ind : Int)] (o ++ ((if j = 0 then [] else [44]) ++ (Fl m ind (d + 1) ++ ps[j]))) := by first | (have h0 : ¬ j = 0 := by_Om; rw [if_neg h0]; simpa using hB) | (have h0 : j = 0 := by_Om; rw [if_pos h0]; simpa using hB)
 refine Za (Ob (Ha (Ea (Ca (Dm rfl rfl) (Ca (Ib rfl) (Za ?_))))))
 refine Ec ⟨_, ?_, j + 1, o ++ ((if j = 0 then [] else [44]) ++ (Fl m ind (d + 1) ++ ps[j])), rfl, by_Om, (by have h := hq; rw [hjd] at h; simpa [List.append_assoc] using h), (hB), (hX), L7, hF⟩
 omega
 have hq2 : o = s ++ ([bo] ++ Xl m ind d true ps) := by have h := hq; rw [List.drop_eq_nil_of_le by_Om, V_, List.append_nil] at h; exact h
 refine Lc (Hc rfl ?_)
 refine Ha (Ia (Ma (Ca (Ac Ae rfl) (Md (Di isAgg22 rfl hF.F 0 rfl rfl) (Ca (Mf underlying22 rfl) (Ca (Iy rfl rfl) (Ga ?_)))))))
 refine Jc rfl rfl (fun hc2 => ?_) (fun hc2 => ?_)
 have hpn : ps ≠ [] := by intro hp; rw [hp] at hps; simp at hps; omega
 refine Ea (Ca (Qd rfl) (Ca (Ib rfl) ?_))
 refine Ya (Q7 _ B pb m ind _ hB.bd d (Nat.le_trans (Nat.mul_le_mul_left ind by_Om) hd1) (by have hp : ps ≠ [] := (by intro hp; rw [hp] at hps; simp at hps; omega); rw [if_neg hp] at hlim; rw [hq2]; (try simp only [List.length_append, List.length_cons, List.length_nil]); omega)) (Mb Z5 rfl rfl rfl) ?_
 rintro _ w ⟨rfl, hBd2, hE⟩
 replace hF := hF.wrote hB hE (by simp [Sh, nb1])
 replace hX := hX.off hE
 replace hB := hB.wrote hBd2 hE
 clear hBd2 hE
 refine Ga ?_
 refine Dd [] (.free 0 (.free 1 (.free 2 (.free 3 (.free 4 (.act 5 .nil)))))) hF ?_
 clear hF; intro w hF hE
 replace hX := hX.off_ext hB.lt hE
 replace hB := hB.ext hE
 clear hE
 refine ⟨fun wq => FR w0 (Wk w0 B pb) _ wq, hF, ?_⟩
 refine Cb rfl (Qd rfl) (Cb rfl (Ze rfl) (Cb rfl (Ac Sg rfl) (Cb rfl (Xe rfl) ?_)))
 refine Qa rfl (v := .int .u8 (((bc.toNat : Nat) : Int))) (fun w hC => Zg (s := [bo, bc]) 1 underlying9 rfl rfl Fa) ?_
 refine Ie rfl (Zl hB.bd bc (by rw [hq2]; (try simp only [List.length_append, List.length_cons, List.length_nil]); first | (rw [if_neg hpn] at hlim; omega) | omega)) (Mb Jl rfl rfl rfl) ?_
 rintro _ w ⟨rfl, hBd2, hE⟩
 replace hF := hF.wrote hB hE (by simp [Sh, nb1])
 replace hX := hX.off hE
 replace hB := hB.wrote hBd2 hE
 clear hBd2 hE
 refine ⟨hF, ?_⟩
 refine Bc ?_
 refine Rd (Pc (Pe rfl) ?_)
 refine ⟨rfl, ?_, hF.same⟩
 have hb := hB.bd
 rw [hq2] at hb
 rw [Hl, if_neg hpn]
 simpa [List.append_assoc] using hb
 have hpz : ps = [] := List.eq_nil_of_length_eq_zero by_Om
 refine Wa (Ha ?_)
 refine Dd [] (.free 0 (.free 1 (.free 2 (.free 3 (.free 4 (.act 5 .nil)))))) hF ?_
 clear hF; intro w hF hE
 replace hX := hX.off_ext hB.lt hE
 replace hB := hB.ext hE
 clear hE
 refine ⟨fun wq => FR w0 (Wk w0 B pb) _ wq, hF, ?_⟩
 refine Cb rfl (Qd rfl) (Cb rfl (Ze rfl) (Cb rfl (Ac Sg rfl) (Cb rfl (Xe rfl) ?_)))
 refine Qa rfl (v := .int .u8 (((bc.toNat : Nat) : Int))) (fun w hC => Zg (s := [bo, bc]) 1 underlying9 rfl rfl Fa) ?_
 refine Ie rfl (Zl hB.bd bc (by rw [hq2]; (try simp only [List.length_append, List.length_cons, List.length_nil]); first | (rw [if_neg hpn] at hlim; omega) | omega)) (Mb Jl rfl rfl rfl) ?_
 rintro _ w ⟨rfl, hBd2, hE⟩
 replace hF := hF.wrote hB hE (by simp [Sh, nb1])
 replace hX := hX.off hE
 replace hB := hB.wrote hBd2 hE
 clear hBd2 hE
 refine ⟨hF, ?_⟩
 refine Bc ?_
 refine Rd (Pc (Pe rfl) ?_)
 refine ⟨rfl, ?_, hF.same⟩
 have hb := hB.bd
 rw [hq2] at hb
 rw [Hl, if_pos hpz]
 simpa [List.append_assoc] using hb
theorem N7 (k : Int) (t : Str) (ks : List Str) (xs : List Tree) (ih : ∀ x ∈ xs, KE x) (m : Bool) (ind d : Nat) (w0 : World) (B pb : Nat) (s : Str) (A B_ : Option Addr) (c e : Nat) (hBd : Bd w0 B pb 161 [.bool m, .int .i64 (ind : Int)] s) (hG : Gl w0) (h8 : 7 ≤ B) (hX : Rep (fun b => b ∉ Wk w0 B pb) w0 (Qc (.node k t ks xs)) [.int .i64 k, .string (bs t), .slice A ks.length c, .slice B_ xs.length e]) (hok : E8 (.node k t ks xs)) (hn : Ud nodeB (.node k t ks xs) = true) (hd : ind * (d + Fd (.node k t ks xs)) ≤ 1000000000) (hd2 : d + Fd (.node k t ks xs) ≤ 1000000000) (hxl : xs.length ≤ 9223372036854775807) (hl : s.length + (Gi m ind (.node k t ks xs) d).length ≤ 140737488355328) : Xq 126 #[.pointer (some ⟨pb, 0, none⟩), .agg #[.int .i64 k, .string (bs t), .slice A ks.length c, .slice B_ xs.length e], .int .i64 (d : Int)] (.tuple #[]) w0 B pb 161 [.bool m, .int .i64 (ind : Int)] (s ++ Gi m ind (.node k t ks xs) d) := by
 unfold Xq
 refine Ka func126 rfl ntmps126 Kb (El _ _ _) ?_
 have hB := BW.start hBd
 have hF := FR.start w0 (Wk w0 B pb)
 refine Ma ?_
 refine Ij hF rfl ?_
 clear hF; intro b1 w hb1 hF hE
 have nb1 : b1 ≠ pb := by have := hB.lt; omega
 replace hX := hX.off_ext hB.lt hE
 replace hB := hB.ext hE
 clear hE
 refine Dc (Ca (Ac Tn rfl) (Md (Rr isAgg3 rfl hF.F 0 rfl rfl) (Ga (Va (Ma (Ca (Do rfl rfl) (Ca (Gc rfl) (Za ?_))))))))
 refine Ha ?_
 refine Jc rfl rfl (fun hc0 => ?_) (fun hc0 => ?_)
 refine Ea (Ca (Qd rfl) (Ca (Ze rfl) (Ca (Ac Sg rfl) ?_)))
 have hkk_ : k = 1 := by omega
 refine Ya (Vh hB.bd [110, 117, 108, 108] (by rw [Gi, if_pos hkk_] at hl; exact hl)) (Mb Fv rfl rfl rfl) ?_
 rintro _ w ⟨rfl, hBd2, hE⟩
 replace hF := hF.wrote hB hE (by simp [Sh, nb1])
 replace hX := hX.off hE
 replace hB := hB.wrote hBd2 hE
 clear hBd2 hE
 refine Za (Ob ?_)
 refine Rd (Pc (Pe rfl) ?_)
 refine ⟨rfl, ?_, hF.same⟩
 rw [Gi]
 first | (rw [if_pos hkk_]; exact hB.bd) | (rw [if_neg by_Om, if_pos hkk_]; exact hB.bd) | (rw [if_neg by_Om, if_neg by_Om, if_pos hkk_]; exact hB.bd) | (rw [if_neg by_Om, if_neg by_Om, if_neg by_Om, if_pos hkk_]; exact hB.bd) | (rw [if_neg by_Om, if_neg by_Om, if_neg by_Om, if_neg by_Om]; exact hB.bd)
 refine Ma (Ca (Do rfl rfl) (Ca (Gc rfl) (Ga ?_)))
 refine Jc rfl rfl (fun hc1 => ?_) (fun hc1 => ?_)
 refine Ea (Ca (Qd rfl) (Ca (Ac Bi rfl) (Md (Nv isAgg9 rfl hF.F 0 rfl rfl) ?_)))
 have hkk_ : k = 4 := by omega
 refine Ya (Wy _ B pb m ind s hB.bd (hG.wrote hF.same h8 hBd.le) h8 t (by rw [E8] at hok; exact hok.1) (by rw [Gi, if_neg by_Om, if_pos hkk_] at hl; exact hl)) (Mb UC rfl rfl rfl) ?_
 rintro _ w ⟨rfl, hBd2, hE⟩
 replace hF := hF.wrote hB hE (by simp [Sh, nb1])
 replace hX := hX.off hE
 replace hB := hB.wrote hBd2 hE
 clear hBd2 hE
 refine Za (Ob ?_)
 refine Rd (Pc (Pe rfl) ?_)
 refine ⟨rfl, ?_, hF.same⟩
 rw [Gi]
 first | (rw [if_pos hkk_]; exact hB.bd) | (rw [if_neg by_Om, if_pos hkk_]; exact hB.bd) | (rw [if_neg by_Om, if_neg by_Om, if_pos hkk_]; exact hB.bd) | (rw [if_neg by_Om, if_neg by_Om, if_neg by_Om, if_pos hkk_]; exact hB.bd) | (rw [if_neg by_Om, if_neg by_Om, if_neg by_Om, if_neg by_Om]; exact hB.bd)
 refine Ma (Ca (Do rfl rfl) (Ca (Gc rfl) (Ga ?_)))
 refine Jc rfl rfl (fun hc2 => ?_) (fun hc2 => ?_)
 refine Ea (Ca (Qd rfl) (Md (Pk isAgg27 sizeOf27 rfl hF.F 0 rfl rfl) (Ca (Ib rfl) (Ca (Qd rfl) (Ja (v := .func (.func 160) #[.pointer (some ⟨pb, 0, none⟩)] #[]) (Zr rfl) ?_)))))
 have hkk_ : k = 5 := by omega
 refine Ya (Q8 160 RJ k t ks xs m ind d 91 93 (Wo m ind xs (d + 1)) (by rw [Ns, List.length_map]) (fun j hj w1 B1 p1 s1 A1 B1_ c1 e1 hb1_ hg1 h81 hx1 hl1 => by have hj2 : j < xs.length := (by rw [Ns, List.length_map] at hj; exact hj); have hg : (Wo m ind xs (d + 1))[j] = Gi m ind xs[j] (d + 1) := (by simp only [Ns, List.getElem_map]); rw [hg] at hl1 ⊢; exact CK k t ks xs m ind (d + 1) j hj2 w1 B1 p1 s1 A1 B1_ c1 e1 hb1_ hg1 h81 hx1 ih hok hn (by rw [Fd] at hd; exact Nat.le_trans (Nat.mul_le_mul_left ind by_Om) hd) (by rw [Fd] at hd2; omega) hl1) _ B pb s A B_ c e hB.bd (hG.wrote hF.same h8 hBd.le) h8 hX (by have h1 := hd; rw [Fd] at h1; exact Nat.le_trans (Nat.mul_le_mul_left ind by_Om) h1) (by rw [Fd] at hd2; omega) hxl (by rw [Gi] at hl; simpa [hkk_] using hl)) (Tr GE rfl rfl rfl rfl rfl rfl) ?_
 rintro _ w ⟨rfl, hBd2, hE⟩
 replace hF := hF.wrote hB hE (by simp [Sh, nb1])
 replace hX := hX.off hE
 replace hB := hB.wrote hBd2 hE
 clear hBd2 hE
 refine Za (Ob ?_)
 refine Rd (Pc (Pe rfl) ?_)
 refine ⟨rfl, ?_, hF.same⟩
 rw [Gi]
 first | (rw [if_pos hkk_]; exact hB.bd) | (rw [if_neg by_Om, if_pos hkk_]; exact hB.bd) | (rw [if_neg by_Om, if_neg by_Om, if_pos hkk_]; exact hB.bd) | (rw [if_neg by_Om, if_neg by_Om, if_neg by_Om, if_pos hkk_]; exact hB.bd) | (rw [if_neg by_Om, if_neg by_Om, if_neg by_Om, if_neg by_Om]; exact hB.bd)
 refine Ma (Ca (Do rfl rfl) (Ca (Gc rfl) (Ga ?_)))
 refine Jc rfl rfl (fun hc3 => ?_) (fun hc3 => ?_)
 refine Ea (Ca (Qd rfl) (Md (Pk isAgg27 sizeOf27 rfl hF.F 0 rfl rfl) (Ca (Ib rfl) (Ca (Qd rfl) (Ja (v := .func (.func 161) #[.pointer (some ⟨pb, 0, none⟩)] #[]) (Zr rfl) ?_)))))
 have hkk_ : k = 6 := by omega
 have hkl : ks.length = xs.length := (Dq (hkk_ ▸ (Gg hn).1)).2
 refine Ya (Q8 161 BJ k t ks xs m ind d 123 125 (Nl m ind xs ks (d + 1)) (by rw [An]) (fun j hj w1 B1 p1 s1 A1 B1_ c1 e1 hb1_ hg1 h81 hx1 hl1 => by have hj2 : j < xs.length := (by rw [An] at hj; exact hj); have hg := Xy m ind (d + 1) xs ks j hj2 by_Om hj; rw [hg] at hl1 ⊢; exact TD k t ks xs m ind (d + 1) j hj2 by_Om w1 B1 p1 s1 A1 B1_ c1 e1 hb1_ hg1 h81 hx1 ih hok hn (by rw [Fd] at hd; exact Nat.le_trans (Nat.mul_le_mul_left ind by_Om) hd) (by rw [Fd] at hd2; omega) hl1) _ B pb s A B_ c e hB.bd (hG.wrote hF.same h8 hBd.le) h8 hX (by have h1 := hd; rw [Fd] at h1; exact Nat.le_trans (Nat.mul_le_mul_left ind by_Om) h1) (by rw [Fd] at hd2; omega) hxl (by rw [Gi] at hl; simpa [hkk_] using hl)) (Tr GE rfl rfl rfl rfl rfl rfl) ?_
 rintro _ w ⟨rfl, hBd2, hE⟩
 replace hF := hF.wrote hB hE (by simp [Sh, nb1])
 replace hX := hX.off hE
 replace hB := hB.wrote hBd2 hE
 clear hBd2 hE
 refine Za (Ob ?_)
 refine Rd (Pc (Pe rfl) ?_)
 refine ⟨rfl, ?_, hF.same⟩
 rw [Gi]
 first | (rw [if_pos hkk_]; exact hB.bd) | (rw [if_neg by_Om, if_pos hkk_]; exact hB.bd) | (rw [if_neg by_Om, if_neg by_Om, if_pos hkk_]; exact hB.bd) | (rw [if_neg by_Om, if_neg by_Om, if_neg by_Om, if_pos hkk_]; exact hB.bd) | (rw [if_neg by_Om, if_neg by_Om, if_neg by_Om, if_neg by_Om]; exact hB.bd)
 refine Dd [] (.free 0 (.free 1 (.free 2 (.free 3 (.free 4 (.act 5 .nil)))))) hF ?_
 clear hF; intro w hF hE
 replace hX := hX.off_ext hB.lt hE
 replace hB := hB.ext hE
 clear hE
 refine ⟨fun wq => FR w0 (Wk w0 B pb) _ wq, hF, ?_⟩
 refine Cb rfl (Qd rfl) (Cb rfl (Ze rfl) (Cb rfl (Ac Sg rfl) (Cb rfl (Ac Bi rfl) (Eo rfl (Nv isAgg9 rfl C0 0 rfl rfl) ?_))))
 refine Ie rfl (Vh hB.bd t (by rw [Gi, if_neg by_Om, if_neg by_Om, if_neg by_Om, if_neg by_Om] at hl; exact hl)) (Mb Fv rfl rfl rfl) ?_
 rintro _ w ⟨rfl, hBd2, hE⟩
 replace hF := hF.wrote hB hE (by simp [Sh, nb1])
 replace hX := hX.off hE
 replace hB := hB.wrote hBd2 hE
 clear hBd2 hE
 refine ⟨hF, ?_⟩
 refine Bc (Ob ?_)
 refine Rd (Pc (Pe rfl) ?_)
 refine ⟨rfl, ?_, hF.same⟩
 rw [Gi]
 first | (rw [if_pos hkk_]; exact hB.bd) | (rw [if_neg by_Om, if_pos hkk_]; exact hB.bd) | (rw [if_neg by_Om, if_neg by_Om, if_pos hkk_]; exact hB.bd) | (rw [if_neg by_Om, if_neg by_Om, if_neg by_Om, if_pos hkk_]; exact hB.bd) | (rw [if_neg by_Om, if_neg by_Om, if_neg by_Om, if_neg by_Om]; exact hB.bd)
theorem UG (x : Tree) : KE x := Tree.ind (Q := KE) (fun k t ks xs ih m ind d w0 B pb s cs hBd hG h8 hX hok hn hd hd2 hl => by
  obtain ⟨A, c, B_, e, rfl, -, -, -, hXs⟩ := hX.tree_inv
  have h1 := hXs.slice_len
  exact N7 k t ks xs ih m ind d w0 B pb s A B_ c e hBd hG h8 hX hok hn hd hd2 by_Om hl) x
end Go.Scarf
namespace Go.Scarf
open Go.RowKit Go.Proofs Go.Proofs.Tryz
theorem E6 {t : Str} (h : Gm t = true) : t ≠ [] := by
  rintro rfl
  revert h
  decide
theorem VF (m : Bool) (ind : Nat) (x : Tree) (d : Nat) (h : Od x = true) : Gi m ind x d ≠ [] := by
  obtain ⟨k, t, ks, xs⟩ := x
  unfold Od at h
  rw [Bool.and_eq_true] at h
  have h1 := (Gg h.2).1
  unfold rnodeB at h1
  rw [Bool.and_eq_true, decide_eq_true_eq] at h1
  obtain ⟨h7, h1⟩ := h1
  have h7' : k ≠ 7 := h7
  rw [Gi]
  split
  · simp
  split
  · rename_i h4
    subst h4
    simp [nodeB] at h1
    rw [qS, if_pos h1.2]; simp [Yw]
  split
  · simp [Hl]
  split
  · simp [Hl]
  · rename_i g1 g4 g5 g6
    simp only [nodeB, if_neg g5, if_neg g6, if_neg g1, if_neg g4, if_neg h7'] at h1
    split at h1
    · cases h1
    split at h1
    · rw [Bool.or_eq_true, decide_eq_true_eq, decide_eq_true_eq] at h1
      rcases h1 with rfl | rfl <;> simp
    split at h1
    · exact E6 h1
    · cases h1
theorem RA {x : Tree} (h : Od x = true) : Ud nodeB x = true := by
  unfold Od at h
  rw [Bool.and_eq_true] at h
  refine Tree.ind (Q := fun x => Ud rnodeB x = true → Ud nodeB x = true) (fun k t ks xs ih h => ?_) x h.2
  rw [Ud, Bool.and_eq_true] at h ⊢
  have h1 := h.1
  unfold rnodeB at h1
  rw [Bool.and_eq_true] at h1
  refine ⟨h1.2, ?_⟩
  have key : ∀ ys : List Tree, (∀ y ∈ ys, y ∈ xs) → Um rnodeB ys = true → Um nodeB ys = true := by
    intro ys
    induction ys with
    | nil => intro _ _; rfl
    | cons y ys ihy =>
      intro hm hs
      rw [Um, Bool.and_eq_true] at hs ⊢
      exact ⟨ih y (hm y Fa) hs.1, ihy (fun z hz => hm z (by simp [hz])) hs.2⟩
  exact key xs (fun _ h => h) h.2
theorem Mt {x : Tree} (h : Od x = true) : Fd x ≤ 32 := by
  unfold Od On at h
  simp only [Bool.and_eq_true, decide_eq_true_eq] at h
  exact h.1.2
theorem N_ (x : Tree) (S : Nat → Prop) (w0 : World) (cs : List Value) (rx : Rep S w0 (Qc x) cs) (hG : Gl w0) (hk : Lx x) (hq : E8 x) (hsz : Kc x ≤ 1000000000) (hlim : Od x = true → (Gi false 0 x 0).length ≤ 140737488355328) : Calls prog 99 #[.agg cs.toArray] w0 (Nd fun v w' => v = (if Od x = true then .tuple #[.string (bs (Gi false 0 x 0)), .int .i64 0] else .tuple #[.string (bs []), .int .i64 1]) ∧ Same [] w0 w') := by
 have hl : cs.length = 4 := rx.length.trans (Id x)
 have ho := rx.one_
 refine Ka func99 rfl ntmps99 Kb (Yc _) ?_
 have hF := FR.start w0 []
 refine Ma ?_
 refine Yn (v := .agg (List.toArray cs)) (cs := (List.toArray cs)) hF rfl rfl ?_
 clear hF; rintro b1 w hb1 hF -
 refine Ca (Li rfl) (Ca (Ic rfl) (Ga (Ia (Ma (Ja (v := .agg (List.toArray cs)) (Wb (l := cs) isAgg27 sizeOf27 rfl hl (hF.cellsAll 0 rfl)) ?_)))))
 refine Pb hF (G1 x by_Om _ _ _ (hF.rep rx) hk (hG.ext hF.same)) (Fb FD rfl rfl) ?_
 clear hF; intro w hF
 refine Ca (Lp rfl) (Ga ?_)
 refine Qj rfl rfl (fun hc0 => ?_) (fun hc0 => ?_)
 refine Ma (Ca (Li rfl) (Ca (Ic rfl) (Ga ?_)))
 refine Zb (Xb (Ua (We (v := .string (bs [])) (x := .int .i64 1) rfl rfl rfl) ?_))
 exact ⟨by rw [if_neg (by simpa using hc0)], hF.same⟩
 refine Wa (Ha (Ma ?_))
 refine Ch (cs := #[.pointer none, .slice none 0 0, .bool false, .int .i64 0]) hF zeroValue161 rfl ?_
 clear hF; rintro b2 w hb2 hF -
 refine Dc (Ja (v := .agg (List.toArray cs)) (Wb (l := cs) isAgg27 sizeOf27 rfl hl (hF.cellsAll 1 rfl)) ?_)
 have hB : BW w0 [] w b2 b2 161 [.bool false, .int .i64 ((0 : Nat) : Int)] [] := BW.own ⟨.inr ⟨rfl, _, _, rfl⟩, Nat.le_refl _, _, _, hF.heap (i := 0) rfl, World.ownsRow_nil _ _ _ _, .inl rfl⟩ (hF.ge (i := 0) rfl) hF.same.size
 have nb1 : b1 ≠ b2 := Ag hF.desc (i := 1) (j := 0) rfl rfl Pa
 have hge := hF.ge (i := 0) rfl
 replace hF : FR w0 [] [(b1, .cells cs.toArray 27)] w := hF.drop 1
 have hXo : Rep (fun b => b ∉ Wk w b2 b2) w (Qc x) cs := (rx.old.same hF.same Fa).weaken fun b hb _ hm => by have h1 := hb.2; rcases Te.1 hm with rfl | ⟨-, h2, -⟩ <;> omega
 refine Ya (UG x false 0 0 _ b2 b2 [] cs hB.bd (hG.ext hF.same) (by have := hG.size; omega) hXo hq (RA (by simpa using hc0)) by_Om (by have := Mt (x := x) (by simpa using hc0); omega) (by simpa using hlim (by simpa using hc0))) (Fc Y1 rfl rfl rfl rfl) ?_
 rintro _ w ⟨rfl, hBd2, hE⟩
 replace hF := hF.wrote hB hE (by simp [Sh, nb1])
 replace hB := hB.wrote hBd2 hE
 clear hBd2 hE
 refine Dc (Ca (Ac Sg rfl) ?_)
 refine Ya (E4 hB.bd (by simpa using VF false 0 x 0 (by simpa using hc0))) (Fb KC rfl rfl) ?_
 rintro _ w ⟨rfl, hE⟩
 replace hF := hF.wrote hB hE (by simp [Sh, nb1])
 clear hE
 refine Ca (Li rfl) (Ca (Ic rfl) (Ga ?_))
 refine Zb (Xb (Ua (We (v := .string (bs ([] ++ Gi false 0 x 0))) (x := .int .i64 0) rfl rfl rfl) ?_))
 exact ⟨by rw [if_pos (by simpa using hc0)]; rfl, hF.same⟩
end Go.Scarf
