/- A part of the proof. -/
import Derived.Test.YtepbomjpbdbejaaGreatDoorFacts
import Derived.Test.YtepbomjpbdbejaaGreatDoorNum
import Derived.Lib.AppendStr
import Derived.Lib.Builder
import Derived.Lib.UnsafeStr
import Derived.LaidEqlPtr
import Derived.Test.YtepbomjpbdbejaaGreatDoorShelf
import Derived.Lib.RuneBytes
import Derived.Test.YtepbomjpbdbejaaGreatDoorW19
import Derived.Laws.BytesString
import Derived.Test.YtepbomjpbdbejaaGreatDoorW2
import Derived.Lib.TrimU
set_option linter.all false
set_option maxHeartbeats 8000000
set_option maxRecDepth 10000
namespace Go.Scarf
open Go.RowKit Go.Proofs Go.Proofs.Tryz
section
variable {P : Program} {w w' w0 : World} {Ds E : List Nat} {bs_ : List (Nat × Obj)}
def Ci : Obj → Bool
  | .cells _ e _ => e == 5
  | _ => false
def Cp (w : World) (b : Nat) : Bool := match w.heap[b]? with | some o => Ci o | none => false
def Wk (w : World) (B pb : Nat) : List Nat := pb :: (List.range w.heap.size).filter fun b => decide (B ≤ b) && Cp w b
theorem We {B pb x : Nat} : x ∈ Wk w B pb ↔ x = pb ∨ (x < w.heap.size ∧ B ≤ x ∧ Cp w x = true) := by simp [Wk]
theorem Zo {b : Nat} {o : Obj} (h : w.heap[b]? = some o) : Cp w b = Ci o := by simp [Cp, h]
def Shp (T : Nat) (rest : List Value) : Prop := (T = 159 ∧ rest = []) ∨ (T = 161 ∧ ∃ m i, rest = [.bool m, .int .i64 i])
theorem Shp.ne {T : Nat} {rest : List Value} (h : Shp T rest) : (T == 5) = false := by rcases h with ⟨rfl, -⟩ | ⟨rfl, -⟩ <;> rfl
structure Bd (w : World) (B pb T : Nat) (rest : List Value) (s : Str) : Prop where
  shp : Shp T rest
  le : B ≤ pb
  ex : ∃ ap v, w.heap[pb]? = some (.cells (ap :: v :: rest).toArray T) ∧ w.ownsRow B 5 1 v s.length (Lib.byteCells s) ∧ (ap = .pointer none ∨ ap = .pointer (some ⟨pb, 0, none⟩))
theorem Bd.lt {B pb T : Nat} {rest : List Value} {s : Str} (h : Bd w B pb T rest s) : pb < w.heap.size := by
  obtain ⟨ap, v, hh, -⟩ := h.ex; exact Da hh
theorem Bd.base {B pb T : Nat} {rest : List Value} {s : Str} (h : Bd w B pb T rest s) : B ≤ w.heap.size := Nat.le_trans h.le (Nat.le_of_lt h.lt)
theorem Tk {B n g : Nat} {v : Value} {xs : List Value} (h : w.ownsRow B 5 1 v n xs) (hg : v.ownBlock = some g) : g < w.heap.size ∧ B ≤ g ∧ Cp w g = true := by
  rcases h.2 with ⟨rfl, -⟩ | ⟨g', cap, cur, rfl, h1, h2, -⟩
  · cases hg
  · cases hg
    exact ⟨Da h2, h1, by rw [Zo h2]; rfl⟩
theorem U0 {B n g pb : Nat} {v : Value} {xs : List Value} (h : w.ownsRow B 5 1 v n xs) (hg : v.ownBlock = some g) : g ∈ Wk w B pb := We.2 (.inr (Tk h hg))
theorem Sn {B n g pb : Nat} {v : Value} {xs : List Value} {o : Obj} (h : w.ownsRow B 5 1 v n xs) (hg : v.ownBlock = some g) (hh : w.heap[pb]? = some o) (ho : Ci o = false) : g ≠ pb := by
  rintro rfl
  have h1 := (Tk h hg).2.2
  rw [Zo hh, ho] at h1; cases h1
theorem Ah {B n : Nat} {v : Value} {xs : List Value} (h : w.ownsRow B 5 1 v n xs) (hs : Same E w w') (he : ∀ g, v.ownBlock = some g → g ∉ E) : w'.ownsRow B 5 1 v n xs := by
  refine ⟨h.1, ?_⟩
  rcases h.2 with h2 | ⟨g, cap, cur, rfl, h1, h2, h3⟩
  · exact .inl h2
  · exact .inr ⟨g, cap, cur, rfl, h1, (hs.block g (Da h2) (he g rfl)).trans h2, h3⟩
theorem Sf {B n : Nat} {v : Value} {xs : List Value} (h : w.ownsRow B 5 1 v n xs) : ∃ A c, v = .slice A n c := by
  rcases h.2 with ⟨rfl, rfl⟩ | ⟨g, cap, cur, rfl, -⟩
  · exact ⟨_, _, rfl⟩
  · exact ⟨_, _, rfl⟩
theorem Wk.step {B pb x : Nat} (hs : Same (Wk w B pb) w w') (hx : x ∈ Wk w' B pb) : x ∈ Wk w B pb ∨ w.heap.size ≤ x := by
  by_cases h : x < w.heap.size
  · by_cases hm : x ∈ Wk w B pb
    · exact .inl hm
    · rcases We.1 hx with rfl | ⟨h1, h2, h3⟩
      · exact .inl (We.2 (.inl rfl))
      · refine absurd (We.2 (.inr ⟨h, h2, ?_⟩)) hm
        rw [Cp, ← hs.block x h hm]; exact h3
  · exact .inr by_Om
theorem FR.grown {g : Option Nat} (h : FR w0 Ds bs_ w) (hg : w.grownBy w' g) (hr : ∀ b, g = some b → (b < w0.heap.size → b ∈ Ds) ∧ ∀ p ∈ bs_, p.1 ≠ b) : FR w0 Ds bs_ w' := by
  have hs : Same g.toList w w' := ⟨hg.os, hg.tape, hg.output, hg.size, fun b hb hn => hg.block b hb (fun e => hn (by simp [← e]))⟩
  exact h.touch hs (fun b hb => hr b (by simpa using hb))
theorem Zk (s t : Str) : Lib.byteCells (s ++ t) = Lib.byteCells s ++ Lib.byteCells t := Lib.byteCells_append s t
end
section
variable {P : Program} {w : World} {ρ : Operand → Value} {dst : Option Nat} {ty : TypeId} {pos : String} {aft : Array Edge} {g : Option (Nat × Bool)}
theorem Z8 {t t' te : Nat} {x y : Operand} (ht : P.underlying t = some (.pointer te)) (hx : ρ x = .pointer none) (hy : ρ y = .pointer none) :
    (execOp ρ ⟨dst, .binOp .eql t x y t', ty, pos, aft, g⟩).run P w = .ok (.value (.bool true)) w := by
  have h : ∀ d : Nat, (Op.equalIn (d + 1) t (.pointer none) (.pointer none)).run P w = .ok true w := fun d => by
    simp [Op.equalIn, run_underlying ht]
  have hg : (eqGuard .eql t x y (.pointer none) (.pointer none)).run P w = .ok () w := by unfold eqGuard; split <;> simp
  simp only [execOp, hx, hy, Sem.run_bind, hg, Result.andThen_ok, binOp]
  simp [Op.equal, Op.maxDepth, h 9999]
theorem B9 {t t' te : Nat} {x y : Operand} {a : Addr} (ht : P.underlying t = some (.pointer te)) (hx : ρ x = .pointer (some a)) (hy : ρ y = .pointer none) :
    (execOp ρ ⟨dst, .binOp .eql t x y t', ty, pos, aft, g⟩).run P w = .ok (.value (.bool false)) w := by
  have h : ∀ d : Nat, (Op.equalIn (d + 1) t (.pointer (some a)) (.pointer none)).run P w = .ok false w := fun d => by
    simp [Op.equalIn, run_underlying ht]
  have hg : (eqGuard .eql t x y (.pointer (some a)) (.pointer none)).run P w = .ok () w := by unfold eqGuard; split <;> simp
  simp only [execOp, hx, hy, Sem.run_bind, hg, Result.andThen_ok, binOp]
  simp [Op.equal, Op.maxDepth, h 9999]
theorem ME {t t' te : Nat} {x y : Operand} {a : Addr} {j : TypeInfo} (ht : P.underlying t = some (.pointer te)) (hte : P.info? te = some j) (hx : ρ x = .pointer (some a)) (hy : ρ y = .pointer (some a)) :
    (execOp ρ ⟨dst, .binOp .neq t x y t', ty, pos, aft, g⟩).run P w = .ok (.value (.bool false)) w := by
  have h := Lib.run_neq_ptr_same w a ht hte
  have hg : (eqGuard .neq t x y (.pointer (some a)) (.pointer (some a))).run P w = .ok () w := by unfold eqGuard; split <;> simp
  simp only [execOp, hx, hy, Sem.run_bind, hg, Result.andThen_ok, h, Sem.run_pure]
theorem Hv {t t' : Nat} {x : Operand} {v : Value} (hx : ρ x = v) (h : (convert t t' v).run P w = .ok v w) : (execOp ρ ⟨dst, .convert t t' x, ty, pos, aft, g⟩).run P w = .ok (.value v) w := by
  simp [execOp, hx, h]
theorem ZB {f : FuncId} {fn : Func} {e : Array Value → Sem Value} {x1 : Operand} {ats : Array TypeId} {v1 v : Value} (hf : P.funcs[f]? = some fn) (hname : (fn.name == "runtime.NumGoroutine") = false)
    (hb : fn.body.isNone = true) (hn : Extern.findNext fn = none) (he : Extern.find fn = some e) (h0 : ρ (.func f) = .func (.func f) #[] #[]) (h1 : ρ x1 = v1) (hr : (e #[v1]).run P w = .ok v w) :
    (execOp ρ ⟨dst, .call ⟨.value (.func f), #[x1], ats⟩, ty, pos, aft, g⟩).run P w = .ok (.value v) w := by
  simp [execOp, resolve, Deferred.ofValue, h0, h1, invoke, run_callFunc_extern hf hname hb hn he, hr]
theorem DH {x : Operand} {ats : Array TypeId} {a : Addr} {n c : Nat} (hx : ρ x = .slice (some a) n c) (hc : c ≠ 0) : (execOp ρ ⟨dst, .call ⟨.builtin .unsafeSliceData, #[x], ats⟩, ty, pos, aft, g⟩).run P w = .ok (.value (.pointer (some a))) w := by
  simp [execOp, resolve, invoke, builtin, hx, Lib.run_unsafeSliceData_row w ats ty a n c hc]
theorem AI {x y : Operand} {t1 t2 : Nat} {u v r : Value} {w' : World} (hx : ρ x = u) (hy : ρ y = v) (h : (Builtin.unsafeString_ #[t1, t2] ty #[u, v]).run P w = .ok r w') : (execOp ρ ⟨dst, .call ⟨.builtin .unsafeString, #[x, y], #[t1, t2]⟩, ty, pos, aft, g⟩).run P w = .ok (.value r) w' := by
  simp [execOp, resolve, invoke, builtin, hx, hy, h]
theorem FA {x y : Operand} {t1 t2 : TypeId} {u v : Value} {r : Value} {w' : World} (hx : ρ x = u) (hy : ρ y = v) (h : (Builtin.append_ #[t1, t2] ty #[u, v]).run P w = .ok r w') :
    (execOp ρ ⟨dst, .call ⟨.builtin .append, #[x, y], #[t1, t2]⟩, ty, pos, aft, g⟩).run P w = .ok (.value r) w' := by
  simp [execOp, resolve, invoke, builtin, hx, hy, h]
end
section
variable {P : Program} {R : Exit → Act → World → Prop} {n : Nat} {kt : Kt} {s : Nat → Value} {w : World} {ops rest : List Oper}
variable {d : Nat} {ty : TypeId} {pos : String} {aft : Array Edge} {g : Option (Nat × Bool)}
variable {w0 : World} {Ds : List Nat} {bs_ : List (Nat × Obj)}
theorem YE {x y : Operand} {t B len c2 k : Nat} {v : Value} {xs news : List Value} {a : Addr} (hE : Elems P t 5 1 1)
    (hF : FR w0 Ds bs_ w) (hO : w.ownsRow B 5 1 v len xs) (hB : B ≤ w.heap.size) (hx : ev n s x = v) (hy : ev n s y = .slice (some a) k c2)
    (hl : news.length = k * 1) (hnews : ∀ j u, news[j]? = some u → w.cell? (a.add j) = some u) (h1 : ∀ u ∈ news, u.oneCell' = true) (hb : len + k ≤ 140737488355328)
    (hr : ∀ b, v.ownBlock = some b → (b < w0.heap.size → b ∈ Ds) ∧ ∀ p ∈ bs_, p.1 ≠ b)
    (h : ∀ v' w', w'.ownsRow B 5 1 v' (len + k) (xs ++ news) → FR w0 Ds bs_ w' → w.heap.size ≤ w'.heap.size → Og P R n ops kt rest (Mg s d v') w')
    (hw : Sb ops n s ⟨some d, .call ⟨.builtin .append, #[x, y], #[t, t]⟩, ty, pos, aft, g⟩ = true := by rfl) : Og P R n ops kt (⟨some d, .call ⟨.builtin .append, #[x, y], #[t, t]⟩, ty, pos, aft, g⟩ :: rest) s w := by
  obtain ⟨i, z, hi, hz, h2, h3, h4⟩ := hE.info
  obtain ⟨v', w', hr', hO', hg, -⟩ := run_append_own (P := P) w B t ty 5 i z 1 1 hE.ht hi hz h2 h3 h4 Ta v len xs hO a k c2 news hl hnews h1 (by unfold maxLen; omega) by_Om hB
  exact Ia (Ov hx hy hr') (h v' w' hO' (hF.grown hg hr) hg.size) hw
theorem SE {x y : Operand} {t u B len : Nat} {v : Value} {xs : List Value} {str : Str} (hE : Elems P t 5 1 1) (hz0 : (P.info? 5).map (·.zero) = some (some (.int .u8 0))) (hu : P.underlying u = some .string)
    (hF : FR w0 Ds bs_ w) (hO : w.ownsRow B 5 1 v len xs) (hB : B ≤ w.heap.size) (hx : ev n s x = v) (hy : ev n s y = .string (bs str)) (hb : len + str.length ≤ 140737488355328)
    (hr : ∀ b, v.ownBlock = some b → (b < w0.heap.size → b ∈ Ds) ∧ ∀ p ∈ bs_, p.1 ≠ b)
    (h : ∀ v' w', w'.ownsRow B 5 1 v' (len + str.length) (xs ++ Lib.byteCells str) → FR w0 Ds bs_ w' → w.heap.size ≤ w'.heap.size → Og P R n ops kt rest (Mg s d v') w')
    (hw : Sb ops n s ⟨some d, .call ⟨.builtin .append, #[x, y], #[t, u]⟩, ty, pos, aft, g⟩ = true := by rfl) : Og P R n ops kt (⟨some d, .call ⟨.builtin .append, #[x, y], #[t, u]⟩, ty, pos, aft, g⟩ :: rest) s w := by
  obtain ⟨i, z, hi, hz, h2, h3, h4⟩ := hE.info
  rw [hi] at hz0
  have hz1 : i.zero = some (.int .u8 0) := by simpa using hz0
  have e : (bs str).size = str.length := Cm str
  obtain ⟨v', w', hr', hO', hg, -⟩ := Lib.run_append_own_string (P := P) w B t u ty 5 i hE.ht hu hi hz1 h2 h3 v len xs hO (bs str) (by rw [e]; unfold maxLen; omega) (by rw [e]; omega) hB
  rw [e] at hO'
  exact Ia (FA hx hy hr') (h v' w' (by simpa [Lib.strCells_eq, Om, bs] using hO') (hF.grown hg hr) hg.size) hw
end
end Go.Scarf
namespace Go.Scarf
open Go.RowKit Go.Proofs Go.Proofs.Tryz
theorem TB : liesAt prog prog.depth 159 (2 / prog.cellsOf 159) 0 159 1 = true := by kernel_rfl
theorem OB : liesAt prog prog.depth 161 (4 / prog.cellsOf 161) 0 159 1 = true := by kernel_rfl
theorem Qr : (prog.info? 159).map (·.size) = some 2 := by kernel_rfl
theorem H2 (w0 : World) (pb : Nat) (v : Value) (hh : w0.heap[pb]? = some (.cells #[.pointer none, v] 159)) : Calls prog 183 #[.pointer (some ⟨pb, 0, none⟩)] w0 (Md fun v_ w' => v_ = .tuple #[] ∧ Same [pb] w0 w' ∧ w'.heap[pb]? = some (.cells #[.pointer (some ⟨pb, 0, none⟩), v] 159)) := by
 obtain ⟨j, hj, hjs⟩ := Option.map_eq_some_iff.1 Qr
 have hne : pb < w0.heap.size := Da hh
 refine Ka func183 rfl ntmps183 Gb (Dd _) ?_
 have hF : FR w0 [pb] [(pb, .cells #[.pointer none, v] 159)] w0 := FR.open_ (by simpa using hh) Ga
 refine Ma (Ca (Qd rfl) (Ca (Cf rfl) (Ca (Gc Fk rfl) (Vd (TF isAgg156 rfl hF.F 0 rfl rfl) (Ia (v := .bool true) (Z8 underlying156 rfl rfl) (Fa (Rd rfl (Ea (Ca (Qd rfl) (Ca (Qd rfl) ?_))))))))))
 refine Ia (v := .pointer (some ⟨pb, 0, none⟩)) (Hv rfl (Lib.run_to_unsafe _ ⟨pb, 0, none⟩ underlying156 underlying239 hj (by rw [hjs]; decide) (e := 159) (cells := 2) (by simp [World.shape?, hF.heap (i := 0) rfl]) (Nat.zero_lt_succ _))) ?_
 refine Ia (v := .pointer (some ⟨pb, 0, none⟩)) (ZB func219 Db Db Db (e := Extern.AbiNoEscape.same) Db rfl rfl (Lib.run_noEscape _ _)) ?_
 refine Ia (v := .pointer (some ⟨pb, 0, none⟩)) (Hv rfl (Lib.run_from_unsafe _ ⟨pb, 0, none⟩ underlying239 underlying156 hj (e := 159) (cells := 2) (by simp [World.shape?, hF.heap (i := 0) rfl]) TB)) ?_
 refine Ca (Cf rfl) (Ca (Gc Fk rfl) ?_)
 refine Hm (.pointer _) hF sizeOf156 rfl rfl Tl Tl ?_
 clear hF; rintro w hF -
 refine Fb ?_
 refine Td (Nc (Ve rfl) ?_)
 exact ⟨rfl, hF.same, hF.heap (i := 0) rfl⟩
theorem G2 (w0 : World) (pb : Nat) (v : Value) (m : Bool) (i : Int) (hh : w0.heap[pb]? = some (.cells #[.pointer none, v, .bool (m), .int .i64 i] 161)) : Calls prog 183 #[.pointer (some ⟨pb, 0, none⟩)] w0 (Md fun v_ w' => v_ = .tuple #[] ∧ Same [pb] w0 w' ∧ w'.heap[pb]? = some (.cells #[.pointer (some ⟨pb, 0, none⟩), v, .bool (m), .int .i64 i] 161)) := by
 obtain ⟨j, hj, hjs⟩ := Option.map_eq_some_iff.1 Qr
 have hne : pb < w0.heap.size := Da hh
 refine Ka func183 rfl ntmps183 Gb (Dd _) ?_
 have hF : FR w0 [pb] [(pb, .cells #[.pointer none, v, .bool (m), .int .i64 i] 161)] w0 := FR.open_ (by simpa using hh) Ga
 refine Ma (Ca (Qd rfl) (Ca (Cf rfl) (Ca (Gc Fk rfl) (Vd (TF isAgg156 rfl hF.F 0 rfl rfl) (Ia (v := .bool true) (Z8 underlying156 rfl rfl) (Fa (Rd rfl (Ea (Ca (Qd rfl) (Ca (Qd rfl) ?_))))))))))
 refine Ia (v := .pointer (some ⟨pb, 0, none⟩)) (Hv rfl (Lib.run_to_unsafe _ ⟨pb, 0, none⟩ underlying156 underlying239 hj (by rw [hjs]; decide) (e := 161) (cells := 4) (by simp [World.shape?, hF.heap (i := 0) rfl]) (Nat.zero_lt_succ _))) ?_
 refine Ia (v := .pointer (some ⟨pb, 0, none⟩)) (ZB func219 Db Db Db (e := Extern.AbiNoEscape.same) Db rfl rfl (Lib.run_noEscape _ _)) ?_
 refine Ia (v := .pointer (some ⟨pb, 0, none⟩)) (Hv rfl (Lib.run_from_unsafe _ ⟨pb, 0, none⟩ underlying239 underlying156 hj (e := 161) (cells := 4) (by simp [World.shape?, hF.heap (i := 0) rfl]) OB)) ?_
 refine Ca (Cf rfl) (Ca (Gc Fk rfl) ?_)
 refine Hm (.pointer _) hF sizeOf156 rfl rfl Tl Tl ?_
 clear hF; rintro w hF -
 refine Fb ?_
 refine Td (Nc (Ve rfl) ?_)
 exact ⟨rfl, hF.same, hF.heap (i := 0) rfl⟩
theorem V1 (w0 : World) (pb : Nat) (v : Value) (hh : w0.heap[pb]? = some (.cells #[.pointer (some ⟨pb, 0, none⟩), v] 159)) : Calls prog 183 #[.pointer (some ⟨pb, 0, none⟩)] w0 (Md fun v_ w' => v_ = .tuple #[] ∧ Same [pb] w0 w' ∧ w'.heap[pb]? = some (.cells #[.pointer (some ⟨pb, 0, none⟩), v] 159)) := by
 obtain ⟨j, hj, hjs⟩ := Option.map_eq_some_iff.1 Qr
 have hne : pb < w0.heap.size := Da hh
 refine Ka func183 rfl ntmps183 Gb (Dd _) ?_
 have hF : FR w0 [pb] [(pb, .cells #[.pointer (some ⟨pb, 0, none⟩), v] 159)] w0 := FR.open_ (by simpa using hh) Ga
 refine Ma (Ca (Qd rfl) (Ca (Cf rfl) (Ca (Gc Fk rfl) (Vd (TF isAgg156 rfl hF.F 0 rfl rfl) (Ia (v := .bool false) (B9 underlying156 rfl rfl) (Fa (Qg rfl (Ma (Ca (Qd rfl) (Ca (Cf rfl) ?_))))))))))
 refine Ca (Gc Fk rfl) (Vd (TF isAgg156 rfl hF.F 0 rfl rfl) (Ca (Qd rfl) (Ia (v := .bool false) (ME underlying156 hj rfl rfl) (Fa (Qg rfl (Cb ?_))))))
 refine Td (Nc (Ve rfl) ?_)
 exact ⟨rfl, hF.same, hF.heap (i := 0) rfl⟩
theorem K2 (w0 : World) (pb : Nat) (v : Value) (m : Bool) (i : Int) (hh : w0.heap[pb]? = some (.cells #[.pointer (some ⟨pb, 0, none⟩), v, .bool (m), .int .i64 i] 161)) : Calls prog 183 #[.pointer (some ⟨pb, 0, none⟩)] w0 (Md fun v_ w' => v_ = .tuple #[] ∧ Same [pb] w0 w' ∧ w'.heap[pb]? = some (.cells #[.pointer (some ⟨pb, 0, none⟩), v, .bool (m), .int .i64 i] 161)) := by
 obtain ⟨j, hj, hjs⟩ := Option.map_eq_some_iff.1 Qr
 have hne : pb < w0.heap.size := Da hh
 refine Ka func183 rfl ntmps183 Gb (Dd _) ?_
 have hF : FR w0 [pb] [(pb, .cells #[.pointer (some ⟨pb, 0, none⟩), v, .bool (m), .int .i64 i] 161)] w0 := FR.open_ (by simpa using hh) Ga
 refine Ma (Ca (Qd rfl) (Ca (Cf rfl) (Ca (Gc Fk rfl) (Vd (TF isAgg156 rfl hF.F 0 rfl rfl) (Ia (v := .bool false) (B9 underlying156 rfl rfl) (Fa (Qg rfl (Ma (Ca (Qd rfl) (Ca (Cf rfl) ?_))))))))))
 refine Ca (Gc Fk rfl) (Vd (TF isAgg156 rfl hF.F 0 rfl rfl) (Ca (Qd rfl) (Ia (v := .bool false) (ME underlying156 hj rfl rfl) (Fa (Qg rfl (Cb ?_))))))
 refine Td (Nc (Ve rfl) ?_)
 exact ⟨rfl, hF.same, hF.heap (i := 0) rfl⟩
theorem Ri {w0 : World} {B pb T : Nat} {rest : List Value} {s : Str} (h : Bd w0 B pb T rest s) :
    ∃ v, w0.ownsRow B 5 1 v s.length (Lib.byteCells s) ∧ (∀ g, v.ownBlock = some g → g ∈ Wk w0 B pb ∧ g ≠ pb) ∧
      Calls prog 183 #[.pointer (some ⟨pb, 0, none⟩)] w0 (Md fun u w' => u = .tuple #[] ∧ Same [pb] w0 w' ∧ w'.heap[pb]? = some (.cells (.pointer (some ⟨pb, 0, none⟩) :: v :: rest).toArray T) ∧ w'.ownsRow B 5 1 v s.length (Lib.byteCells s)) := by
  obtain ⟨hs, hle, ap, v, hh, hO, ha⟩ := h
  have hne : ∀ g, v.ownBlock = some g → g ≠ pb := fun g hg => Sn hO hg hh (by exact hs.ne)
  refine ⟨v, hO, fun g hg => ⟨U0 hO hg, hne g hg⟩, ?_⟩
  have fin : ∀ {u : Value} {w' : World}, (u = .tuple #[] ∧ Same [pb] w0 w' ∧ w'.heap[pb]? = some (.cells (.pointer (some ⟨pb, 0, none⟩) :: v :: rest).toArray T)) → (u = .tuple #[] ∧ Same [pb] w0 w' ∧ w'.heap[pb]? = some (.cells (.pointer (some ⟨pb, 0, none⟩) :: v :: rest).toArray T) ∧ w'.ownsRow B 5 1 v s.length (Lib.byteCells s)) :=
    fun ⟨h1, h2, h3⟩ => ⟨h1, h2, h3, Ah hO h2 (fun g hg => by simpa using hne g hg)⟩
  rcases hs with ⟨rfl, rfl⟩ | ⟨rfl, m, i, rfl⟩ <;> rcases ha with rfl | rfl
  · exact Ue (H2 w0 pb v hh) fun _ _ => fin
  · exact Ue (V1 w0 pb v hh) fun _ _ => fin
  · exact Ue (G2 w0 pb v m i hh) fun _ _ => fin
  · exact Ue (K2 w0 pb v m i hh) fun _ _ => fin
end Go.Scarf
namespace Go.Scarf
open Go.RowKit Go.Proofs Go.Proofs.Tryz
theorem G0 : (prog.info? 5).map (·.zero) = some (some (.int .u8 0)) := by kernel_rfl
theorem FR.addD {w0 w : World} {Ds : List Nat} {bs_ : List (Nat × Obj)} {b : Nat} {o : Obj} (h : FR w0 Ds bs_ w) (hh : w.heap[b]? = some o) (hd : w0.heap.size ≤ b ∨ b ∈ Ds) (hn : ∀ p ∈ bs_, p.1 ≠ b) : FR w0 Ds ((b, o) :: bs_) w :=
  ⟨h.same, fun p hp => by
    rcases List.mem_cons.1 hp with rfl | hp
    · exact ⟨hh, hd⟩
    · exact h.own p hp, List.pairwise_cons.2 ⟨fun q hq => hn q hq, h.desc⟩⟩
def Qi (r : Int) : Str := (Lib.encodeRuneZ r).map fun x => UInt8.ofNat x.toNat
theorem Nn (r : Int) : 1 ≤ (Qi r).length ∧ (Qi r).length ≤ 4 := by rw [Qi, List.length_map]; exact Lib.encodeRuneZ_length r
theorem Ug (r : Int) : Lib.byteCells (Qi r) = Lib.runeCells r := by
  rw [Qi, Lib.byteCells, Lib.runeCells, List.map_map]
  refine List.map_congr_left fun x hx => ?_
  have := Lib.encodeRuneZ_byte r x hx
  simp only [Function.comp_apply, Value.int.injEq, true_and, UInt8.toNat_ofNat']
  omega
theorem Bt {w : World} {B n : Nat} {v : Value} {xs : List Value} {r : Int} (hO : w.ownsRow B 5 1 v n xs) (h0 : -2147483648 ≤ r) (h1 : r ≤ 2147483647) (hn : n + 4 ≤ 140737488355328) (hB : B ≤ w.heap.size) :
    Calls prog 238 #[v, .int .i32 r] w (Md fun v' w' => w'.ownsRow B 5 1 v' (n + (Qi r).length) (xs ++ Lib.byteCells (Qi r)) ∧ ∃ o, (w.alloc o).grownBy w' v.ownBlock) := by
  refine (utf8_AppendRune_plain B v n xs r h0 h1 w hO hn hB).mono fun e w' ⟨v', he, h2, h3⟩ => ⟨v', he, ?_, h3⟩
  have e1 : (Qi r).length = (Lib.runeCells r).length := by rw [← Ug, Lib.byteCells_length]
  rw [e1, Ug]; exact h2
def Lr (f : Nat) (args : Array Value) (u : Value) (w0 : World) (B pb T : Nat) (rest : List Value) (s : Str) : Prop :=
  Calls prog f args w0 (Md fun v w' => v = u ∧ Bd w' B pb T rest s ∧ Same (Wk w0 B pb) w0 w')
theorem O3 (w0 : World) (B pb : Nat) (s : Str) (hB : Bd w0 B pb 159 [] s) (c : UInt8) (hl : s.length + 1 ≤ 140737488355328) : Lr 191 #[.pointer (some ⟨pb, 0, none⟩), .int .u8 ((c.toNat : Nat) : Int)] .nilIface w0 B pb 159 [] (s ++ [c]) := by
 unfold Lr
 refine Ka func191 rfl ntmps191 Gb (Sd _ _) ?_
 obtain ⟨v, hO0, hv, hC⟩ := Ri hB
 have hle := hB.le
 have hBw := hB.base
 have hlt := hB.lt
 have hws := Nat.le_refl w0.heap.size
 have hvl : ∀ g, v.ownBlock = some g → g < w0.heap.size := fun g hg => (Tk hO0 hg).1
 obtain ⟨A1, c1, rfl⟩ := Sf hO0
 have hF := FR.start w0 (Wk w0 B pb)
 refine Ma (Ca (Zy) (Cc (Ca (Qd rfl) ?_)))
 refine Eb hC (Ob Vt rfl rfl) ?_
 rintro _ w ⟨rfl, hE, hh, hO⟩
 replace hws := Nat.le_trans hws hE.size
 replace hBw := Nat.le_trans hBw hE.size
 replace hF : FR w0 (Wk w0 B pb) [(pb, .cells #[.pointer (some ⟨pb, 0, none⟩), .slice A1 s.length c1] 159)] w := (hF.touch hE (fun b hb => by obtain rfl := List.mem_singleton.1 hb; exact ⟨fun _ => We.2 (.inl rfl), by simp⟩)).addD hh (.inr (We.2 (.inl rfl))) Ga
 clear hE hh
 refine Cc (Ca (Qd rfl) (Ca (Qd rfl) (Ca (Cf rfl) (Ca (Gc Zd rfl) (Vd (Ij isAgg157 rfl hF.F 0 rfl rfl) (Ca (Hb rfl) ?_))))))
 refine If 1 hF (Ua (cs := #[.int .u8 ((c.toNat : Nat))]) underlying157 sizeOf5 zeroValue5 Ta Ta Db) ?_
 clear hF; intro b1 w hb1 hF hE
 have nb1 : w0.heap.size ≤ b1 := by rw [hb1]; exact hws
 replace hws := Nat.le_trans hws hE.size
 replace hBw := Nat.le_trans hBw hE.size
 replace hO := Ah hO hE Ga
 clear hE
 refine YE (news := [.int .u8 ((c.toNat : Nat) : Int)]) W1 hF hO hBw rfl rfl rfl (Ub (hF.cellsAll 0 rfl)) (by simp [Value.oneCell']) by_Om (fun b hb => ⟨fun _ => (hv b hb).1, by have h1 := (hv b hb).2; have h2 := hvl b hb; intro p hp; simp only [List.mem_cons, List.not_mem_nil, or_false] at hp; rcases hp with rfl | rfl <;> grind⟩) ?_
 clear hF hO; intro v2 w hO hF hsz
 replace hws := Nat.le_trans hws hsz
 replace hBw := Nat.le_trans hBw hsz
 have hne2 : ∀ g, v2.ownBlock = some g → g ≠ pb := fun g hg => Sn hO hg (hF.heap (i := 1) rfl) rfl
 obtain ⟨A2, c2, rfl⟩ := Sf hO
 clear hsz
 refine Ca (Cf rfl) (Ca (Gc Zd rfl) ?_)
 refine Hm (.slice _ _ _) hF sizeOf157 rfl rfl V2 V2 ?_
 clear hF; intro w hF hE
 replace hws := Nat.le_trans hws hE.size
 replace hBw := Nat.le_trans hBw hE.size
 replace hO := Ah hO hE (fun g hg => by simpa using hne2 g hg)
 clear hE
 refine Cc (Ca (Zy) (Fa ?_))
 refine Ie (v := .nilIface) rfl rfl ?_
 exact ⟨rfl, ⟨.inl ⟨rfl, rfl⟩, hle, _, _, hF.heap (i := 1) rfl, by simpa [Zk, Lib.byteCells, Ug] using hO, .inr rfl⟩, hF.same⟩
theorem Dy (w0 : World) (B pb : Nat) (s : Str) (hB : Bd w0 B pb 159 [] s) (t : Str) (hl : s.length + t.length ≤ 140737488355328) : Lr 154 #[.pointer (some ⟨pb, 0, none⟩), .string (bs t)] (.tuple #[.int .i64 ((t.length : Nat) : Int), .nilIface]) w0 B pb 159 [] (s ++ t) := by
 unfold Lr
 refine Ka func154 rfl ntmps154 Gb (Sd _ _) ?_
 obtain ⟨v, hO0, hv, hC⟩ := Ri hB
 have hle := hB.le
 have hBw := hB.base
 have hlt := hB.lt
 have hws := Nat.le_refl w0.heap.size
 have hvl : ∀ g, v.ownBlock = some g → g < w0.heap.size := fun g hg => (Tk hO0 hg).1
 obtain ⟨A1, c1, rfl⟩ := Sf hO0
 have hF := FR.start w0 (Wk w0 B pb)
 refine Ma (Ca (Pc rfl) (Ca (Zy) (Cc (Ca (Qd rfl) ?_))))
 refine Eb hC (Ob Vt rfl rfl) ?_
 rintro _ w ⟨rfl, hE, hh, hO⟩
 replace hws := Nat.le_trans hws hE.size
 replace hBw := Nat.le_trans hBw hE.size
 replace hF : FR w0 (Wk w0 B pb) [(pb, .cells #[.pointer (some ⟨pb, 0, none⟩), .slice A1 s.length c1] 159)] w := (hF.touch hE (fun b hb => by obtain rfl := List.mem_singleton.1 hb; exact ⟨fun _ => We.2 (.inl rfl), by simp⟩)).addD hh (.inr (We.2 (.inl rfl))) Ga
 clear hE hh
 refine Cc (Ca (Qd rfl) (Ca (Qd rfl) (Ca (Cf rfl) (Ca (Gc Zd rfl) (Vd (Ij isAgg157 rfl hF.F 0 rfl rfl) (Ca (Bf rfl) ?_))))))
 refine SE (str := t) W1 G0 underlying9 hF hO hBw rfl rfl by_Om (fun b hb => ⟨fun _ => (hv b hb).1, by have h1 := (hv b hb).2; have h2 := hvl b hb; intro p hp; simp only [List.mem_cons, List.not_mem_nil, or_false] at hp; rcases hp with rfl <;> grind⟩) ?_
 clear hF hO; intro v2 w hO hF hsz
 replace hws := Nat.le_trans hws hsz
 replace hBw := Nat.le_trans hBw hsz
 have hne2 : ∀ g, v2.ownBlock = some g → g ≠ pb := fun g hg => Sn hO hg (hF.heap (i := 0) rfl) rfl
 obtain ⟨A2, c2, rfl⟩ := Sf hO
 clear hsz
 refine Ca (Cf rfl) (Ca (Gc Zd rfl) ?_)
 refine Hm (.slice _ _ _) hF sizeOf157 rfl rfl Tl V2 ?_
 clear hF; intro w hF hE
 replace hws := Nat.le_trans hws hE.size
 replace hBw := Nat.le_trans hBw hE.size
 replace hO := Ah hO hE (fun g hg => by simpa using hne2 g hg)
 clear hE
 refine Cc (Ca (Bf rfl) (Ca (M7 underlying9 rfl) (Ca (Pc rfl) (Ca (Zy) (Fa ?_)))))
 refine Xb (Wb (Va (Od (v := .int .i64 ((((t) : Str).length : Int))) (x := .nilIface) rfl rfl rfl) ?_))
 exact ⟨rfl, ⟨.inl ⟨rfl, rfl⟩, hle, _, _, hF.heap (i := 0) rfl, by simpa [Zk, Lib.byteCells, Ug] using hO, .inr rfl⟩, hF.same⟩
theorem W3 (w0 : World) (B pb : Nat) (s : Str) (hB : Bd w0 B pb 159 [] s) (r : Int) (hr0 : -2147483648 ≤ r) (hr1 : r ≤ 2147483647) (hl : s.length + 4 ≤ 140737488355328) : Lr 226 #[.pointer (some ⟨pb, 0, none⟩), .int .i32 r] (.tuple #[.int .i64 (((Qi r).length : Nat) : Int), .nilIface]) w0 B pb 159 [] (s ++ Qi r) := by
 unfold Lr
 have hrl := Nn r
 refine Ka func226 rfl ntmps226 Gb (Sd _ _) ?_
 obtain ⟨v, hO0, hv, hC⟩ := Ri hB
 have hle := hB.le
 have hBw := hB.base
 have hlt := hB.lt
 have hws := Nat.le_refl w0.heap.size
 have hvl : ∀ g, v.ownBlock = some g → g < w0.heap.size := fun g hg => (Tk hO0 hg).1
 obtain ⟨A1, c1, rfl⟩ := Sf hO0
 have hF := FR.start w0 (Wk w0 B pb)
 refine Ma (Ca (Pc rfl) (Ca (Zy) (Cc (Ca (Qd rfl) ?_))))
 refine Eb hC (Ob Vt rfl rfl) ?_
 rintro _ w ⟨rfl, hE, hh, hO⟩
 replace hws := Nat.le_trans hws hE.size
 replace hBw := Nat.le_trans hBw hE.size
 replace hF : FR w0 (Wk w0 B pb) [(pb, .cells #[.pointer (some ⟨pb, 0, none⟩), .slice A1 s.length c1] 159)] w := (hF.touch hE (fun b hb => by obtain rfl := List.mem_singleton.1 hb; exact ⟨fun _ => We.2 (.inl rfl), by simp⟩)).addD hh (.inr (We.2 (.inl rfl))) Ga
 clear hE hh
 refine Cc (Ca (Qd rfl) (Ca (Cf rfl) (Ca (Gc Zd rfl) (Vd (Ij isAgg157 rfl hF.F 0 rfl rfl) (Ca (Lf underlying157 rfl) (Ca (Pc rfl) (Cc ?_)))))))
 refine Ca (Qd rfl) (Ca (Qd rfl) (Ca (Cf rfl) (Ca (Gc Zd rfl) (Vd (Ij isAgg157 rfl hF.F 0 rfl rfl) (Ca (Hb rfl) ?_)))))
 refine Eb (Bt hO hr0 hr1 by_Om hBw) (Mb SC rfl rfl rfl) ?_
 rintro v2 w2 ⟨hO2, o, hg⟩
 replace hF := (hF.ext (Same.alloc _ o)).grown hg (fun b hb => ⟨fun _ => (hv b hb).1, by have h1 := (hv b hb).2; have h2 := hvl b hb; intro p hp; simp only [List.mem_cons, List.not_mem_nil, or_false] at hp; rcases hp with rfl <;> grind⟩)
 have hsz := Nat.le_trans (Same.alloc _ o).size hg.size
 clear hO hg; revert hsz hF hO2; generalize w2 = w; intro hO hF hsz
 replace hws := Nat.le_trans hws hsz
 replace hBw := Nat.le_trans hBw hsz
 have hne2 : ∀ g, v2.ownBlock = some g → g ≠ pb := fun g hg => Sn hO hg (hF.heap (i := 0) rfl) rfl
 obtain ⟨A2, c2, rfl⟩ := Sf hO
 clear hsz
 refine Ca (Cf rfl) (Ca (Gc Zd rfl) ?_)
 refine Hm (.slice _ _ _) hF sizeOf157 rfl rfl Tl V2 ?_
 clear hF; intro w hF hE
 replace hws := Nat.le_trans hws hE.size
 replace hBw := Nat.le_trans hBw hE.size
 replace hO := Ah hO hE (fun g hg => by simpa using hne2 g hg)
 clear hE
 refine Cc (Ca (Qd rfl) (Ca (Cf rfl) (Ca (Gc Zd rfl) (Vd (Ij isAgg157 rfl hF.F 0 rfl rfl) (Ca (Lf underlying157 rfl) (Ca (Hb rfl) (Ca (Kr (((Qi r).length : Nat)) rfl rfl) (Ca (Pc rfl) (Ca (Zy) (Fb ?_))))))))))
 refine Ha ?_
 refine Xb (Wb (Va (Od (v := .int .i64 (((Qi r).length : Nat))) (x := .nilIface) rfl rfl rfl) ?_))
 exact ⟨rfl, ⟨.inl ⟨rfl, rfl⟩, hle, _, _, hF.heap (i := 0) rfl, by simpa [Zk, Lib.byteCells, Ug] using hO, .inr rfl⟩, hF.same⟩
theorem Q5 (w0 : World) (B pb : Nat) (m : Bool) (i : Int) (s : Str) (hB : Bd w0 B pb 161 [.bool (m), .int .i64 i] s) (c : UInt8) (hl : s.length + 1 ≤ 140737488355328) : Lr 191 #[.pointer (some ⟨pb, 0, none⟩), .int .u8 ((c.toNat : Nat) : Int)] .nilIface w0 B pb 161 [.bool (m), .int .i64 i] (s ++ [c]) := by
 unfold Lr
 refine Ka func191 rfl ntmps191 Gb (Sd _ _) ?_
 obtain ⟨v, hO0, hv, hC⟩ := Ri hB
 have hle := hB.le
 have hBw := hB.base
 have hlt := hB.lt
 have hws := Nat.le_refl w0.heap.size
 have hvl : ∀ g, v.ownBlock = some g → g < w0.heap.size := fun g hg => (Tk hO0 hg).1
 obtain ⟨A1, c1, rfl⟩ := Sf hO0
 have hF := FR.start w0 (Wk w0 B pb)
 refine Ma (Ca (Zy) (Cc (Ca (Qd rfl) ?_)))
 refine Eb hC (Ob Vt rfl rfl) ?_
 rintro _ w ⟨rfl, hE, hh, hO⟩
 replace hws := Nat.le_trans hws hE.size
 replace hBw := Nat.le_trans hBw hE.size
 replace hF : FR w0 (Wk w0 B pb) [(pb, .cells #[.pointer (some ⟨pb, 0, none⟩), .slice A1 s.length c1, .bool (m), .int .i64 i] 161)] w := (hF.touch hE (fun b hb => by obtain rfl := List.mem_singleton.1 hb; exact ⟨fun _ => We.2 (.inl rfl), by simp⟩)).addD hh (.inr (We.2 (.inl rfl))) Ga
 clear hE hh
 refine Cc (Ca (Qd rfl) (Ca (Qd rfl) (Ca (Cf rfl) (Ca (Gc Zd rfl) (Vd (Ij isAgg157 rfl hF.F 0 rfl rfl) (Ca (Hb rfl) ?_))))))
 refine If 1 hF (Ua (cs := #[.int .u8 ((c.toNat : Nat))]) underlying157 sizeOf5 zeroValue5 Ta Ta Db) ?_
 clear hF; intro b1 w hb1 hF hE
 have nb1 : w0.heap.size ≤ b1 := by rw [hb1]; exact hws
 replace hws := Nat.le_trans hws hE.size
 replace hBw := Nat.le_trans hBw hE.size
 replace hO := Ah hO hE Ga
 clear hE
 refine YE (news := [.int .u8 ((c.toNat : Nat) : Int)]) W1 hF hO hBw rfl rfl rfl (Ub (hF.cellsAll 0 rfl)) (by simp [Value.oneCell']) by_Om (fun b hb => ⟨fun _ => (hv b hb).1, by have h1 := (hv b hb).2; have h2 := hvl b hb; intro p hp; simp only [List.mem_cons, List.not_mem_nil, or_false] at hp; rcases hp with rfl | rfl <;> grind⟩) ?_
 clear hF hO; intro v2 w hO hF hsz
 replace hws := Nat.le_trans hws hsz
 replace hBw := Nat.le_trans hBw hsz
 have hne2 : ∀ g, v2.ownBlock = some g → g ≠ pb := fun g hg => Sn hO hg (hF.heap (i := 1) rfl) rfl
 obtain ⟨A2, c2, rfl⟩ := Sf hO
 clear hsz
 refine Ca (Cf rfl) (Ca (Gc Zd rfl) ?_)
 refine Hm (.slice _ _ _) hF sizeOf157 rfl rfl V2 V2 ?_
 clear hF; intro w hF hE
 replace hws := Nat.le_trans hws hE.size
 replace hBw := Nat.le_trans hBw hE.size
 replace hO := Ah hO hE (fun g hg => by simpa using hne2 g hg)
 clear hE
 refine Cc (Ca (Zy) (Fa ?_))
 refine Ie (v := .nilIface) rfl rfl ?_
 exact ⟨rfl, ⟨.inr ⟨rfl, m, i, rfl⟩, hle, _, _, hF.heap (i := 1) rfl, by simpa [Zk, Lib.byteCells, Ug] using hO, .inr rfl⟩, hF.same⟩
theorem Py (w0 : World) (B pb : Nat) (m : Bool) (i : Int) (s : Str) (hB : Bd w0 B pb 161 [.bool (m), .int .i64 i] s) (t : Str) (hl : s.length + t.length ≤ 140737488355328) : Lr 154 #[.pointer (some ⟨pb, 0, none⟩), .string (bs t)] (.tuple #[.int .i64 ((t.length : Nat) : Int), .nilIface]) w0 B pb 161 [.bool (m), .int .i64 i] (s ++ t) := by
 unfold Lr
 refine Ka func154 rfl ntmps154 Gb (Sd _ _) ?_
 obtain ⟨v, hO0, hv, hC⟩ := Ri hB
 have hle := hB.le
 have hBw := hB.base
 have hlt := hB.lt
 have hws := Nat.le_refl w0.heap.size
 have hvl : ∀ g, v.ownBlock = some g → g < w0.heap.size := fun g hg => (Tk hO0 hg).1
 obtain ⟨A1, c1, rfl⟩ := Sf hO0
 have hF := FR.start w0 (Wk w0 B pb)
 refine Ma (Ca (Pc rfl) (Ca (Zy) (Cc (Ca (Qd rfl) ?_))))
 refine Eb hC (Ob Vt rfl rfl) ?_
 rintro _ w ⟨rfl, hE, hh, hO⟩
 replace hws := Nat.le_trans hws hE.size
 replace hBw := Nat.le_trans hBw hE.size
 replace hF : FR w0 (Wk w0 B pb) [(pb, .cells #[.pointer (some ⟨pb, 0, none⟩), .slice A1 s.length c1, .bool (m), .int .i64 i] 161)] w := (hF.touch hE (fun b hb => by obtain rfl := List.mem_singleton.1 hb; exact ⟨fun _ => We.2 (.inl rfl), by simp⟩)).addD hh (.inr (We.2 (.inl rfl))) Ga
 clear hE hh
 refine Cc (Ca (Qd rfl) (Ca (Qd rfl) (Ca (Cf rfl) (Ca (Gc Zd rfl) (Vd (Ij isAgg157 rfl hF.F 0 rfl rfl) (Ca (Bf rfl) ?_))))))
 refine SE (str := t) W1 G0 underlying9 hF hO hBw rfl rfl by_Om (fun b hb => ⟨fun _ => (hv b hb).1, by have h1 := (hv b hb).2; have h2 := hvl b hb; intro p hp; simp only [List.mem_cons, List.not_mem_nil, or_false] at hp; rcases hp with rfl <;> grind⟩) ?_
 clear hF hO; intro v2 w hO hF hsz
 replace hws := Nat.le_trans hws hsz
 replace hBw := Nat.le_trans hBw hsz
 have hne2 : ∀ g, v2.ownBlock = some g → g ≠ pb := fun g hg => Sn hO hg (hF.heap (i := 0) rfl) rfl
 obtain ⟨A2, c2, rfl⟩ := Sf hO
 clear hsz
 refine Ca (Cf rfl) (Ca (Gc Zd rfl) ?_)
 refine Hm (.slice _ _ _) hF sizeOf157 rfl rfl Tl V2 ?_
 clear hF; intro w hF hE
 replace hws := Nat.le_trans hws hE.size
 replace hBw := Nat.le_trans hBw hE.size
 replace hO := Ah hO hE (fun g hg => by simpa using hne2 g hg)
 clear hE
 refine Cc (Ca (Bf rfl) (Ca (M7 underlying9 rfl) (Ca (Pc rfl) (Ca (Zy) (Fa ?_)))))
 refine Xb (Wb (Va (Od (v := .int .i64 ((((t) : Str).length : Int))) (x := .nilIface) rfl rfl rfl) ?_))
 exact ⟨rfl, ⟨.inr ⟨rfl, m, i, rfl⟩, hle, _, _, hF.heap (i := 0) rfl, by simpa [Zk, Lib.byteCells, Ug] using hO, .inr rfl⟩, hF.same⟩
theorem V5 (w0 : World) (B pb : Nat) (m : Bool) (i : Int) (s : Str) (hB : Bd w0 B pb 161 [.bool (m), .int .i64 i] s) (r : Int) (hr0 : -2147483648 ≤ r) (hr1 : r ≤ 2147483647) (hl : s.length + 4 ≤ 140737488355328) : Lr 226 #[.pointer (some ⟨pb, 0, none⟩), .int .i32 r] (.tuple #[.int .i64 (((Qi r).length : Nat) : Int), .nilIface]) w0 B pb 161 [.bool (m), .int .i64 i] (s ++ Qi r) := by
 unfold Lr
 have hrl := Nn r
 refine Ka func226 rfl ntmps226 Gb (Sd _ _) ?_
 obtain ⟨v, hO0, hv, hC⟩ := Ri hB
 have hle := hB.le
 have hBw := hB.base
 have hlt := hB.lt
 have hws := Nat.le_refl w0.heap.size
 have hvl : ∀ g, v.ownBlock = some g → g < w0.heap.size := fun g hg => (Tk hO0 hg).1
 obtain ⟨A1, c1, rfl⟩ := Sf hO0
 have hF := FR.start w0 (Wk w0 B pb)
 refine Ma (Ca (Pc rfl) (Ca (Zy) (Cc (Ca (Qd rfl) ?_))))
 refine Eb hC (Ob Vt rfl rfl) ?_
 rintro _ w ⟨rfl, hE, hh, hO⟩
 replace hws := Nat.le_trans hws hE.size
 replace hBw := Nat.le_trans hBw hE.size
 replace hF : FR w0 (Wk w0 B pb) [(pb, .cells #[.pointer (some ⟨pb, 0, none⟩), .slice A1 s.length c1, .bool (m), .int .i64 i] 161)] w := (hF.touch hE (fun b hb => by obtain rfl := List.mem_singleton.1 hb; exact ⟨fun _ => We.2 (.inl rfl), by simp⟩)).addD hh (.inr (We.2 (.inl rfl))) Ga
 clear hE hh
 refine Cc (Ca (Qd rfl) (Ca (Cf rfl) (Ca (Gc Zd rfl) (Vd (Ij isAgg157 rfl hF.F 0 rfl rfl) (Ca (Lf underlying157 rfl) (Ca (Pc rfl) (Cc ?_)))))))
 refine Ca (Qd rfl) (Ca (Qd rfl) (Ca (Cf rfl) (Ca (Gc Zd rfl) (Vd (Ij isAgg157 rfl hF.F 0 rfl rfl) (Ca (Hb rfl) ?_)))))
 refine Eb (Bt hO hr0 hr1 by_Om hBw) (Mb SC rfl rfl rfl) ?_
 rintro v2 w2 ⟨hO2, o, hg⟩
 replace hF := (hF.ext (Same.alloc _ o)).grown hg (fun b hb => ⟨fun _ => (hv b hb).1, by have h1 := (hv b hb).2; have h2 := hvl b hb; intro p hp; simp only [List.mem_cons, List.not_mem_nil, or_false] at hp; rcases hp with rfl <;> grind⟩)
 have hsz := Nat.le_trans (Same.alloc _ o).size hg.size
 clear hO hg; revert hsz hF hO2; generalize w2 = w; intro hO hF hsz
 replace hws := Nat.le_trans hws hsz
 replace hBw := Nat.le_trans hBw hsz
 have hne2 : ∀ g, v2.ownBlock = some g → g ≠ pb := fun g hg => Sn hO hg (hF.heap (i := 0) rfl) rfl
 obtain ⟨A2, c2, rfl⟩ := Sf hO
 clear hsz
 refine Ca (Cf rfl) (Ca (Gc Zd rfl) ?_)
 refine Hm (.slice _ _ _) hF sizeOf157 rfl rfl Tl V2 ?_
 clear hF; intro w hF hE
 replace hws := Nat.le_trans hws hE.size
 replace hBw := Nat.le_trans hBw hE.size
 replace hO := Ah hO hE (fun g hg => by simpa using hne2 g hg)
 clear hE
 refine Cc (Ca (Qd rfl) (Ca (Cf rfl) (Ca (Gc Zd rfl) (Vd (Ij isAgg157 rfl hF.F 0 rfl rfl) (Ca (Lf underlying157 rfl) (Ca (Hb rfl) (Ca (Kr (((Qi r).length : Nat)) rfl rfl) (Ca (Pc rfl) (Ca (Zy) (Fb ?_))))))))))
 refine Ha ?_
 refine Xb (Wb (Va (Od (v := .int .i64 (((Qi r).length : Nat))) (x := .nilIface) rfl rfl rfl) ?_))
 exact ⟨rfl, ⟨.inr ⟨rfl, m, i, rfl⟩, hle, _, _, hF.heap (i := 0) rfl, by simpa [Zk, Lib.byteCells, Ug] using hO, .inr rfl⟩, hF.same⟩
end Go.Scarf
namespace Go.Scarf
open Go.RowKit Go.Proofs Go.Proofs.Tryz
theorem Ew : prog.cellsOf 5 = 1 := by kernel_rfl
theorem Same.freeze (w : World) (a : Addr) (n : Nat) : Same [a.block] w (w.freeze a n) := by
  have h := Lib.below_freeze (B := a.block) (Below.refl a.block w) (p := a) (Nat.le_refl _) n
  refine ⟨h.os, h.tape, h.output, h.size, fun b hb hn => ?_⟩
  have hn' : b ≠ a.block := by simpa using hn
  unfold World.freeze
  split
  · rfl
  · simp [Array.getElem?_modify, hn'.symm]
theorem RC (w0 : World) (B pb : Nat) (s : Str) (hB : Bd w0 B pb 159 [] s) (h0 : s ≠ []) : Calls prog 127 #[.pointer (some ⟨pb, 0, none⟩)] w0 (Md fun v w' => v = .string (bs s) ∧ Same (Wk w0 B pb) w0 w') := by
  refine Ka func127 rfl ntmps127 Gb (Dd _) ?_
  obtain ⟨-, hle, ap, v, hh, hO, -⟩ := hB
  have hsl : s.length ≠ 0 := by simpa using h0
  obtain ⟨g, c1, cur, rfl, hbg, hg, hnc, hcm, hcs, htake⟩ : ∃ g cap cur, v = .slice (some ⟨g, 0, none⟩) s.length cap ∧ B ≤ g ∧ w0.heap[g]? = some (.cells cur 5 (0, 0)) ∧ s.length ≤ cap ∧ cap ≤ maxLen ∧ cur.size = cap * 1 ∧ cur.toList.take (s.length * 1) = Lib.byteCells s := by
    rcases hO.2 with ⟨_, hz⟩ | ⟨g, cap, cur, hv, r⟩
    · exact absurd hz hsl
    · exact ⟨g, cap, cur, hv, r⟩
  have hgm : g ∈ Wk w0 B pb := U0 hO rfl
  have hgn : g ≠ pb := Sn hO rfl hh (by rfl)
  have hF : FR w0 (Wk w0 B pb) [(pb, .cells #[ap, .slice (some ⟨g, 0, none⟩) s.length c1] 159)] w0 := (FR.start w0 (Wk w0 B pb)).addD hh (.inr (We.2 (.inl rfl))) Ga
  refine Ja ?_
  refine Ea ?_
  refine Ca (Zi rfl) ?_
  refine Fb ?_
  refine Ha ?_
  refine Ja ?_
  refine Yc [] (.free 0 (.free 1 (.free 2 (.free 3 (.free 5 (.free 6 (.free 7 (.free 8 (.free 9 (.act 4 (.act 10 (.free 11 .nil)))))))))))) hF ?_
  clear hF; intro w hF hE
  replace hg := (hE.block g (Da hg) Ga).trans hg
  replace hO := Ah hO hE Ga
  clear hE
  refine ⟨fun wq => FR w0 (Wk w0 B pb) _ wq, hF, ?_⟩
  refine Xa rfl (Qd rfl) ?_
  refine Xa rfl (Cf rfl) ?_
  refine Xa rfl (Gc Zd rfl) ?_
  refine Jo rfl (Ij isAgg157 rfl C0 0 rfl rfl) ?_
  refine Xa rfl (Qd rfl) ?_
  refine Xa rfl (Cf rfl) ?_
  refine Xa rfl (Gc Zd rfl) ?_
  refine Jo rfl (Ij isAgg157 rfl C0 0 rfl rfl) ?_
  refine Xa rfl (Lf underlying157 rfl) ?_
  refine Cd rfl (DH rfl by_Om) hF ?_
  have hu : (Builtin.unsafeString_ #[196, 3] 9 #[.pointer (some ⟨g, 0, none⟩), .int .i64 s.length]).run prog w = .ok (.string (bs s)) (w.freeze ⟨g, 0, none⟩ s.length) := Lib.run_unsafeString_row w 196 3 9 5 underlying196 Ew g cur.size (by simp [World.shape?, hg]) s h0 by_Om (by simp only [maxLen] at hcm; omega) (fun j x hx => hO.cells (g := g) rfl j (.int .u8 x.toNat) (by simp [Lib.byteCells, hx]))
  have hEf : FR w0 (Wk w0 B pb) _ (w.freeze ⟨g, 0, none⟩ s.length) := hF.touch (Same.freeze w ⟨g, 0, none⟩ s.length) (fun b hb => by obtain rfl := List.mem_singleton.1 hb; exact ⟨fun _ => hgm, by simpa using hgn.symm⟩)
  refine Cd rfl (AI rfl rfl hu) hEf ?_
  replace hF := hEf
  refine Xa rfl (Zi rfl) ?_
  refine Ac ?_
  refine Ha ?_
  refine Ie (v := .string (bs s)) rfl rfl ?_
  exact ⟨rfl, hF.same⟩
theorem CE (w0 : World) (B pb : Nat) (m : Bool) (i : Int) (s : Str) (hB : Bd w0 B pb 161 [.bool (m), .int .i64 i] s) (h0 : s ≠ []) : Calls prog 127 #[.pointer (some ⟨pb, 0, none⟩)] w0 (Md fun v w' => v = .string (bs s) ∧ Same (Wk w0 B pb) w0 w') := by
  refine Ka func127 rfl ntmps127 Gb (Dd _) ?_
  obtain ⟨-, hle, ap, v, hh, hO, -⟩ := hB
  have hsl : s.length ≠ 0 := by simpa using h0
  obtain ⟨g, c1, cur, rfl, hbg, hg, hnc, hcm, hcs, htake⟩ : ∃ g cap cur, v = .slice (some ⟨g, 0, none⟩) s.length cap ∧ B ≤ g ∧ w0.heap[g]? = some (.cells cur 5 (0, 0)) ∧ s.length ≤ cap ∧ cap ≤ maxLen ∧ cur.size = cap * 1 ∧ cur.toList.take (s.length * 1) = Lib.byteCells s := by
    rcases hO.2 with ⟨_, hz⟩ | ⟨g, cap, cur, hv, r⟩
    · exact absurd hz hsl
    · exact ⟨g, cap, cur, hv, r⟩
  have hgm : g ∈ Wk w0 B pb := U0 hO rfl
  have hgn : g ≠ pb := Sn hO rfl hh (by rfl)
  have hF : FR w0 (Wk w0 B pb) [(pb, .cells #[ap, .slice (some ⟨g, 0, none⟩) s.length c1, .bool (m), .int .i64 i] 161)] w0 := (FR.start w0 (Wk w0 B pb)).addD hh (.inr (We.2 (.inl rfl))) Ga
  refine Ja ?_
  refine Ea ?_
  refine Ca (Zi rfl) ?_
  refine Fb ?_
  refine Ha ?_
  refine Ja ?_
  refine Yc [] (.free 0 (.free 1 (.free 2 (.free 3 (.free 5 (.free 6 (.free 7 (.free 8 (.free 9 (.act 4 (.act 10 (.free 11 .nil)))))))))))) hF ?_
  clear hF; intro w hF hE
  replace hg := (hE.block g (Da hg) Ga).trans hg
  replace hO := Ah hO hE Ga
  clear hE
  refine ⟨fun wq => FR w0 (Wk w0 B pb) _ wq, hF, ?_⟩
  refine Xa rfl (Qd rfl) ?_
  refine Xa rfl (Cf rfl) ?_
  refine Xa rfl (Gc Zd rfl) ?_
  refine Jo rfl (Ij isAgg157 rfl C0 0 rfl rfl) ?_
  refine Xa rfl (Qd rfl) ?_
  refine Xa rfl (Cf rfl) ?_
  refine Xa rfl (Gc Zd rfl) ?_
  refine Jo rfl (Ij isAgg157 rfl C0 0 rfl rfl) ?_
  refine Xa rfl (Lf underlying157 rfl) ?_
  refine Cd rfl (DH rfl by_Om) hF ?_
  have hu : (Builtin.unsafeString_ #[196, 3] 9 #[.pointer (some ⟨g, 0, none⟩), .int .i64 s.length]).run prog w = .ok (.string (bs s)) (w.freeze ⟨g, 0, none⟩ s.length) := Lib.run_unsafeString_row w 196 3 9 5 underlying196 Ew g cur.size (by simp [World.shape?, hg]) s h0 by_Om (by simp only [maxLen] at hcm; omega) (fun j x hx => hO.cells (g := g) rfl j (.int .u8 x.toNat) (by simp [Lib.byteCells, hx]))
  have hEf : FR w0 (Wk w0 B pb) _ (w.freeze ⟨g, 0, none⟩ s.length) := hF.touch (Same.freeze w ⟨g, 0, none⟩ s.length) (fun b hb => by obtain rfl := List.mem_singleton.1 hb; exact ⟨fun _ => hgm, by simpa using hgn.symm⟩)
  refine Cd rfl (AI rfl rfl hu) hEf ?_
  replace hF := hEf
  refine Xa rfl (Zi rfl) ?_
  refine Ac ?_
  refine Ha ?_
  refine Ie (v := .string (bs s)) rfl rfl ?_
  exact ⟨rfl, hF.same⟩
theorem Yl {w0 : World} {B pb T : Nat} {rest : List Value} {s : Str} (hB : Bd w0 B pb T rest s) (c : UInt8) (hl : s.length + 1 ≤ 140737488355328) : Lr 191 #[.pointer (some ⟨pb, 0, none⟩), .int .u8 ((c.toNat : Nat) : Int)] .nilIface w0 B pb T rest (s ++ [c]) := by
  rcases hB.shp with ⟨rfl, rfl⟩ | ⟨rfl, m, i, rfl⟩
  · exact O3 w0 B pb s hB c hl
  · exact Q5 w0 B pb m i s hB c hl
theorem Ii {w0 : World} {B pb T : Nat} {rest : List Value} {s : Str} (hB : Bd w0 B pb T rest s) (t : Str) (hl : s.length + t.length ≤ 140737488355328) : Lr 154 #[.pointer (some ⟨pb, 0, none⟩), .string (bs t)] (.tuple #[.int .i64 ((t.length : Nat) : Int), .nilIface]) w0 B pb T rest (s ++ t) := by
  rcases hB.shp with ⟨rfl, rfl⟩ | ⟨rfl, m, i, rfl⟩
  · exact Dy w0 B pb s hB t hl
  · exact Py w0 B pb m i s hB t hl
theorem N3 {w0 : World} {B pb T : Nat} {rest : List Value} {s : Str} (hB : Bd w0 B pb T rest s) (r : Int) (h0 : -2147483648 ≤ r) (h1 : r ≤ 2147483647) (hl : s.length + 4 ≤ 140737488355328) : Lr 226 #[.pointer (some ⟨pb, 0, none⟩), .int .i32 r] (.tuple #[.int .i64 (((Qi r).length : Nat) : Int), .nilIface]) w0 B pb T rest (s ++ Qi r) := by
  rcases hB.shp with ⟨rfl, rfl⟩ | ⟨rfl, m, i, rfl⟩
  · exact W3 w0 B pb s hB r h0 h1 hl
  · exact V5 w0 B pb m i s hB r h0 h1 hl
theorem G3 {w0 : World} {B pb T : Nat} {rest : List Value} {s : Str} (hB : Bd w0 B pb T rest s) (h0 : s ≠ []) : Calls prog 127 #[.pointer (some ⟨pb, 0, none⟩)] w0 (Md fun v w' => v = .string (bs s) ∧ Same (Wk w0 B pb) w0 w') := by
  rcases hB.shp with ⟨rfl, rfl⟩ | ⟨rfl, m, i, rfl⟩
  · exact RC w0 B pb s hB h0
  · exact CE w0 B pb m i s hB h0
structure BW (w0 : World) (Ds : List Nat) (w : World) (B pb T : Nat) (rest : List Value) (s : Str) : Prop where
  bd : Bd w B pb T rest s
  sub : ∀ x ∈ Wk w B pb, x < w0.heap.size → x ∈ Ds
  ge : w0.heap.size ≤ w.heap.size
section
variable {w0 w w' : World} {Ds E : List Nat} {bs_ : List (Nat × Obj)} {B pb T : Nat} {rest : List Value} {s t : Str}
theorem BW.start (h : Bd w0 B pb T rest s) : BW w0 (Wk w0 B pb) w0 B pb T rest s := ⟨h, fun x hx _ => hx, Nat.le_refl _⟩
theorem BW.own (h : Bd w B pb T rest s) (hb : w0.heap.size ≤ B) (hg : w0.heap.size ≤ w.heap.size) : BW w0 Ds w B pb T rest s :=
  ⟨h, fun x hx hl => by
    have := h.le
    rcases We.1 hx with rfl | ⟨-, h2, -⟩ <;> omega, hg⟩
theorem BW.lt (h : BW w0 Ds w B pb T rest s) : pb < w.heap.size := h.bd.lt
theorem BW.wrote (h : BW w0 Ds w B pb T rest s) (hb : Bd w' B pb T rest t) (hs : Same (Wk w B pb) w w') : BW w0 Ds w' B pb T rest t :=
  ⟨hb, fun x hx hl => by
    rcases Wk.step hs hx with h1 | h1
    · exact h.sub x h1 hl
    · have := h.ge; omega, Nat.le_trans h.ge hs.size⟩
theorem FR.wrote (hF : FR w0 Ds bs_ w) (h : BW w0 Ds w B pb T rest s) (hs : Same (Wk w B pb) w w') (hb : ∀ p ∈ bs_, Ci p.2 = false ∧ p.1 ≠ pb) : FR w0 Ds bs_ w' :=
  hF.touch hs fun x hx => ⟨h.sub x hx, fun p hp e => by
    have h1 := hb p hp
    rcases We.1 hx with h2 | ⟨-, -, h3⟩
    · exact h1.2 (e.trans h2)
    · rw [← e, Zo (hF.memHeap hp), h1.1] at h3; cases h3⟩
theorem Bd.same (h : Bd w B pb T rest s) (hs : Same E w w') (hp : pb ∉ E) (he : ∀ x ∈ E, Cp w x = false) : Bd w' B pb T rest s := by
  obtain ⟨h1, h2, ap, v, h3, h4, h5⟩ := h
  refine ⟨h1, h2, ap, v, (hs.block pb (Da h3) hp).trans h3, Ah h4 hs (fun g hg hm => ?_), h5⟩
  have := (Tk h4 hg).2.2
  rw [he g hm] at this; cases this
theorem Bd.ext (h : Bd w B pb T rest s) (hs : Same [] w w') : Bd w' B pb T rest s := h.same hs Ga Ga
theorem BW.step (h : BW w0 Ds w B pb T rest s) (hs : Same E w w') (hp : pb ∉ E) (he : ∀ x ∈ E, Cp w x = false) (he' : ∀ x ∈ E, Cp w' x = false) : BW w0 Ds w' B pb T rest s :=
  ⟨h.bd.same hs hp he, fun x hx hl => by
    refine h.sub x (We.2 ?_) hl
    have hl2 := Nat.lt_of_lt_of_le hl h.ge
    rcases We.1 hx with rfl | ⟨-, h2, h3⟩
    · exact .inl rfl
    · refine .inr ⟨hl2, h2, ?_⟩
      have hn : x ∉ E := fun hm => by rw [he' x hm] at h3; cases h3
      rw [Cp, ← hs.block x hl2 hn]; exact h3, Nat.le_trans h.ge hs.size⟩
theorem BW.ext (h : BW w0 Ds w B pb T rest s) (hs : Same [] w w') : BW w0 Ds w' B pb T rest s := h.step hs Ga Ga Ga
theorem Rep.off {d : D} {cs : List Value} (h : Rep (fun x => x ∉ Wk w B pb) w d cs) (hs : Same (Wk w B pb) w w') : Rep (fun x => x ∉ Wk w' B pb) w' d cs :=
  ((h.old).same hs (fun b hb hn => hn.1 hb)).weaken fun x hx _ hm => by
    rcases Wk.step hs hm with h1 | h1
    · exact hx.1 h1
    · have := hx.2; omega
theorem Rep.off_ext {d : D} {cs : List Value} (h : Rep (fun x => x ∉ Wk w B pb) w d cs) (hp : pb < w.heap.size) (hs : Same [] w w') : Rep (fun x => x ∉ Wk w' B pb) w' d cs := h.off (hs.mono Ga)
end
end Go.Scarf
namespace Go.Scarf
open Go.RowKit Go.Proofs Go.Proofs.Tryz
section
variable {P : Program} {w : World} {ρ : Operand → Value} {dst : Option Nat} {ty : TypeId} {pos : String} {aft : Array Edge} {g : Option (Nat × Bool)}
theorem SD {t t' : TypeId} {x y : Operand} {k : IntKind} {a b c : Int} (hx : ρ x = .int k a) (hy : ρ y = .int k b) (h : bits .and k a b = c) :
    (execOp ρ ⟨dst, .binOp .and t x y t', ty, pos, aft, g⟩).run P w = .ok (.value (.int k c)) w := by
  simp [execOp, hx, hy, Nd, binOp, intBits_and, h]
theorem TH {t t' : TypeId} {x y : Operand} {k k2 : IntKind} {a c : Int} (m : Nat) (hx : ρ x = .int k a) (hy : ρ y = .int k2 m) (hm : m ≤ k.bits) (h : a.fdiv (2 ^ m) = c) :
    (execOp ρ ⟨dst, .binOp .shr t x y t', ty, pos, aft, g⟩).run P w = .ok (.value (.int k c)) w := by
  have hg : (eqGuard .shr t x y (.int k a) (.int k2 m)).run P w = .ok () w := by unfold eqGuard; simp
  have h0 : ¬ ((m : Int) < 0) := by omega
  simp [execOp, hx, hy, hg, binOp, Op.shift, h0, Nat.min_eq_left hm, h]
theorem Zq {t e N : Nat} {x y : Operand} {kk : IntKind} {b : Nat} (i : Nat) (ht : P.underlying t = some (.array N e)) (hs : ∀ w, (sizeOf e).run P w = .ok 1 w) (hx : ρ x = .pointer (some ⟨b, 0, none⟩)) (hy : ρ y = .int kk (i : Int)) (h1 : i < N) :
    (execOp ρ ⟨dst, .indexAddr t x y, ty, pos, aft, g⟩).run P w = .ok (.value (.pointer (some ⟨b, i, none⟩))) w := by
  have h2 : (0 : Int) ≤ (i : Int) ∧ (i : Int) < (N : Int) := by omega
  have e1 : (⟨b, 0, none⟩ : Addr).add i = ⟨b, i, none⟩ := by rw [Nh, Nat.zero_add]
  simp [execOp, hx, hy, Instr.indexAt, run_underlying ht, Instr.sureAddr, asIntOf, h2, hs, e1]
  intro hh; omega
theorem S7 {t e N : Nat} {x y : Operand} {kk : IntKind} {b : Nat} (i : Nat) (ht : P.underlying t = some (.array N e)) (hs : ∀ w, (sizeOf e).run P w = .ok 1 w) (hx : ρ x = .pointer (some ⟨b, 0, none⟩)) (hy : ρ y = .int kk (i : Int)) (h1 : i < N) :
    (execOp ρ ⟨dst, .slice t x (some y) none none, ty, pos, aft, g⟩).run P w = .ok (.value (.slice (some ⟨b, i, none⟩) (N - i) (N - i))) w := by
  have h0 : ¬ N = i := by omega
  have e1 : (⟨b, 0, none⟩ : Addr).add i = ⟨b, i, none⟩ := by rw [Nh, Nat.zero_add]
  have e2 : (0 : Int) ≤ (i : Int) ∧ (i : Int) ≤ (N : Int) := by omega
  simp [execOp, hx, hy, Instr.sliceAt, run_underlying ht, Instr.sureAddr, Instr.sliceBounds, run_sliceBound, hs, e1, h0, e2]
theorem UE {t t' e : Nat} {x : Operand} {a : Addr} {n c : Nat} (s : Str) (ht : P.underlying t = some (.slice e)) (he : P.underlying e = some (.int .u8)) (hd : P.underlying t' = some .string) (hx : ρ x = .slice (some a) n c) (hn : s.length = n)
    (h : ∀ j (hj : j < s.length), w.cell? (a.add j) = some (.int .u8 (s[j].toNat : Int))) :
    (execOp ρ ⟨dst, .convert t t' x, ty, pos, aft, g⟩).run P w = .ok (.value (.string (bs s))) w := by
  have hl := Jm (P := P) a w ((s.map fun u => (u.toNat : Int)).map (Value.int .u8)) (m := n) (by simp [hn]) (fun j hj => by simp at hj ⊢; exact h j hj)
  have hb := run_bytesToString w a n c (s.map fun u => (u.toNat : Int)) hl
  have e1 : ∀ (l : Str) (acc : ByteArray), (l.map fun u => (u.toNat : Int)).foldl (fun r n => r.push (UInt8.ofNat n.toNat)) acc = ⟨acc.data ++ l.toArray⟩ := by
    intro l
    induction l with
    | nil => intro acc; simp
    | cons u l ih => intro acc; rw [List.map_cons, List.foldl_cons, ih]; simp [ByteArray.push]
  rw [e1] at hb
  simp [execOp, hx, run_convert_bytes_string w t t' e _ _ _ ht he hd, hb]
end
def Q8 : List Value := List.replicate 65 (.int .u8 0)
def Ur : Str := [48, 49, 50, 51, 52, 53, 54, 55, 56, 57, 97, 98, 99, 100, 101, 102, 103, 104, 105, 106, 107, 108, 109, 110, 111, 112, 113, 114, 115, 116, 117, 118, 119, 120, 121, 122]
def dg (k : Nat) : UInt8 := Ur.getD k 0
def Oj (r : Nat) : Str := if r < 16 then [dg r] else [dg (r / 16), dg (r % 16)]
theorem Uu {k : Nat} (h : k < Ur.length) : Ur[k] = dg k := by simp [dg, h]
theorem CK : ∀ r < 32, IntKind.u64.wrap ((r : Nat) : Int) = r := by decide
theorem ZK : ∀ u < 32, bits .and .u64 ((u : Nat) : Int) 15 = ((u % 16 : Nat) : Int) := by decide
theorem UJ (w0 : World) (hG : Gl w0) : Calls prog 213 #[.int .u64 16] w0 (Md fun v w' => v = .int .i64 4 ∧ Same [] w0 w') := by
 obtain ⟨e, fz, hbr⟩ := hG.bru
 refine Ka func213 rfl ntmps213 Gb (Dd _) ?_
 have hF := FR.start w0 []
 refine Ma (Ca (Pc rfl) (Fa (Ja (Ma (Ca (Hb rfl) (Ia (v := .bool false) (Ld (Ui rfl rfl) Ta) (Fa (Qg rfl (Cb ?_)))))))))
 refine Ha (Ma (Ca (Hb rfl) (Ca (Hb rfl) (Ia (v := .int .u64 18446744073709551600) (FH rfl Ta) (Ia (v := .int .u64 16) (SD rfl rfl Ta) (Ia (v := .int .u64 4573923408821661840) (U4 rfl rfl Ta) (Ia (v := .int .u64 15) (TH 58 rfl rfl Ta Ta) (Ia (v := .pointer (some (⟨6, 15, none⟩))) (Zq 15 underlying257 sizeOf5 rfl rfl Ta) ?_))))))))
 refine Ia (v := .int .u8 4) (Wa isAgg5 rfl (by rw [Ib (hF.heap0 hbr)]; rfl)) ?_
 refine Ia (v := .int .i64 4) (Ag underlying5 underlying3 rfl Ta) (Ca (Pc rfl) (Fa ?_))
 refine Ie (v := .int .i64 4) rfl rfl ?_
 exact ⟨rfl, hF.same⟩
theorem XM (w0 : World) (hG : Gl w0) : Calls prog 170 #[.int .u64 16] w0 (Md fun v w' => v = .int .i64 4 ∧ Same [] w0 w') := by
 refine Ka func170 rfl ntmps170 Gb (Dd _) ?_
 have hF := FR.start w0 []
 refine Ma (Ca (Pc rfl) (Fa (Ja (Jr rfl (Ma (Ca (Hb rfl) ?_))))))
 refine Rb hF (UJ _ (hG.ext hF.same)) (Ob PI rfl rfl) ?_
 clear hF; intro w hF
 refine Ca (Pc rfl) (Fa ?_)
 refine Ie (v := .int .i64 4) rfl rfl ?_
 exact ⟨rfl, hF.same⟩
theorem HJ (w0 : World) : Calls prog 169 #[.int .i64 16] w0 (Md fun v w' => v = .bool true ∧ Same [] w0 w') := by
 refine Ka func169 rfl ntmps169 Gb (Dd _) ?_
 have hF := FR.start w0 []
 refine Ma (Ca (Hc rfl) (Cc (Ca (Hb rfl) (Ca (Hb rfl) (Ia (v := .int .i64 15) (Xu rfl rfl Ta) (Ia (v := .int .i64 0) (SD rfl rfl Ta) (Ia (v := .bool true) (Kf (Ui rfl rfl) Ta) (Ca (Hc rfl) (Fb ?_)))))))))
 refine Ha ?_
 refine Ie (v := .bool true) rfl rfl ?_
 exact ⟨rfl, hF.same⟩
theorem F2 (w0 : World) (hG : Gl w0) (r : Nat) (hr : r < 32) : Calls prog 136 #[.slice none 0 0, .int .u64 (r : Int), .int .i64 16, .bool false, .bool false] w0 (Md fun v w' => v = .tuple #[.slice none 0 0, .string (bs (Oj r))] ∧ Same [] w0 w') := by
  refine Ka func136 rfl ntmps136 Gb (W7 _ _ _ _ _) ?_
  have hF := FR.start w0 []
  refine Ja ?_
  refine Ea ?_
  refine Ca (Mh rfl) ?_
  refine Ca (Zi rfl) ?_
  refine Fb ?_
  refine Ha ?_
  refine Ja ?_
  refine Ja ?_
  refine Ea ?_
  refine Ca (Hb rfl) ?_
  refine Ia (v := .bool false) (Ld (L5 rfl rfl) Ta) ?_
  refine Ca (Kd rfl) ?_
  refine Ca (Hb rfl) ?_
  refine Ia (v := .bool false) (Ld (Ui rfl rfl) Ta) ?_
  refine Ca (Fd rfl rfl) ?_
  refine Ca (Kd rfl) ?_
  refine Ca (Hb rfl) ?_
  refine Ia (v := .bool false) (Ld (Ox rfl rfl) Ta) ?_
  refine Ca (Fd rfl rfl) ?_
  refine Fb ?_
  refine Ha ?_
  refine Qg rfl ?_
  refine Cb ?_
  refine Ha ?_
  refine Ja ?_
  refine Ea ?_
  refine Lh (cs := (List.toArray Q8)) hF zeroValue205 Db ?_
  clear hF; intro b1 w hb1 hF hE
  clear hE
  refine Fb ?_
  refine Ha ?_
  refine Ja ?_
  refine Ea ?_
  refine Ca (Pc rfl) ?_
  refine Fb ?_
  refine Ha ?_
  refine Ja ?_
  refine Ja ?_
  refine Ea ?_
  refine Ca (Kd rfl) ?_
  refine Fb ?_
  refine Ha ?_
  refine Qg rfl ?_
  refine Cb ?_
  refine Ha ?_
  refine Ja ?_
  refine Ja ?_
  refine Ea ?_
  refine Ca (Hb rfl) ?_
  refine Rb hF (HJ _) (Ob NI rfl rfl) ?_
  clear hF; intro w hF
  refine Fb ?_
  refine Ha ?_
  refine Rd rfl ?_
  refine Ja ?_
  refine Ea ?_
  refine Ca (Hb rfl) ?_
  refine Ia (v := .int .u64 16) (Ag underlying3 underlying183 rfl Ta) ?_
  refine Rb hF (XM _ (hG.ext hF.same)) (Ob LJ rfl rfl) ?_
  clear hF; intro w hF
  refine Ia (v := .int .u64 4) (Ag underlying3 underlying183 rfl Ta) ?_
  refine Ca (Pc rfl) ?_
  refine Fb ?_
  refine Ha ?_
  refine Ja ?_
  refine Ea ?_
  refine Ca (Hb rfl) ?_
  refine Ia (v := .int .u64 16) (Ag underlying3 underlying169 rfl Ta) ?_
  refine Ca (Pc rfl) ?_
  refine Fb ?_
  refine Ha ?_
  refine Ja ?_
  refine Ea ?_
  refine Ca (Hb rfl) ?_
  refine Ia (v := .int .u64 16) (Ag underlying3 underlying183 rfl Ta) ?_
  refine Ia (v := .int .u64 15) (Xu rfl rfl Ta) ?_
  refine Ca (Pc rfl) ?_
  refine Fb ?_
  refine Ha ?_
  refine Ja ?_
  refine Ya ?_
  refine Uc (fun μ σ w => ∃ (u : Nat), ∃ (i : Nat), ∃ (cs : List Value), μ = 2 * u ∧ ((u = r ∧ i = 65 ∧ cs = Q8) ∨ (16 ≤ r ∧ u = r / 16 ∧ i = 64 ∧ cs = Q8.set 64 (.int .u8 ((dg (r % 16)).toNat : Int)))) ∧ AllEq σ [(0, .slice none 0 0), (1, .int .u64 ((u : Int))), (3, .bool false), (4, .bool false), (10, .slice none 0 0), (11, .string (bs [])), (12, .pointer (some ⟨b1, 0, none⟩)), (13, .int .i64 ((i : Int))), (14, .int .u64 4), (15, .int .u64 16), (16, .int .u64 15)] ∧ FR w0 [] [(b1, .cells (List.toArray cs) 205)] w) _ ⟨r, 65, Q8, rfl, (.inl ⟨rfl, rfl, rfl⟩), ⟨rfl, rfl, rfl, rfl, rfl, rfl, rfl, rfl, rfl, rfl, rfl, trivial⟩, hF⟩ ?_
  clear hF; rintro μ σ w ⟨u, i, cs, rfl, hI, hs, hF⟩
  refine Cg.slots hs ?_
  clear hs; intro σ
  have hcl : cs.length = 65 := by rcases hI with ⟨-, -, rfl⟩ | ⟨-, -, -, rfl⟩ <;> simp [Q8]
  have hu32 : u < 32 := by omega
  refine Ja ?_
  refine Ja ?_
  refine Ea ?_
  refine Ca (Hb rfl) ?_
  refine Ca (Hb rfl) ?_
  refine Ca (X8 rfl rfl) ?_
  refine Fb ?_
  refine Ha ?_
  refine Kc rfl rfl (fun hc3 => ?_) (fun hc3 => ?_)
  ·
    refine Cb ?_
    refine Ha ?_
    refine Ya ?_
    refine Ja ?_
    refine Ea ?_
    refine Ca (Hb rfl) ?_
    refine Ca (Kr (((64 : Nat) : Int)) rfl rfl) ?_
    refine Ca (Pc rfl) ?_
    refine Fb ?_
    refine Ha ?_
    refine Ja ?_
    refine Ea ?_
    refine Ca (Hb rfl) ?_
    refine Ca (Hb rfl) ?_
    refine Ca (Hb rfl) ?_
    refine Ia (v := .int .u64 (((u % 16 : Nat) : Int))) (SD rfl rfl (ZK u by_Om)) ?_
    refine Ia (v := .int .u8 (((dg (u % 16)).toNat : Int))) (by rw [← Uu (show u % 16 < Ur.length by show u % 16 < 36; omega)]; exact Ih (u % 16) underlying9 rfl rfl _) ?_
    refine Ia (v := .pointer (some ⟨b1, 64, none⟩)) (Zq 64 underlying205 sizeOf5 rfl rfl Ta) ?_
    refine Af 0 (l := [.int .u8 (((dg (u % 16)).toNat : Nat) : Int)]) (cs' := (List.toArray (cs.set 64 (.int .u8 (((dg (u % 16)).toNat : Nat) : Int))))) hF sizeOf5 rfl (v := .int .u8 (((dg (u % 16)).toNat : Nat) : Int)) rfl rfl Zc rfl (by simp [hcl] <;> omega) (by simp [Ei]) ?_
    clear hF; intro w hF hE
    clear hE
    replace hF : FR w0 [] [(b1, .cells (List.toArray (cs.set 64 (.int .u8 (((dg (u % 16)).toNat : Nat) : Int)))) 205)] w := hF
    refine Fb ?_
    refine Ha ?_
    refine Ea ?_
    refine Ca (Hb rfl) ?_
    refine Ca (Hb rfl) ?_
    refine Ia (v := .int .u64 (((u / 16 : Nat) : Int))) (TH 4 rfl rfl Ta (by rw [Int.fdiv_eq_ediv_of_nonneg _ Ta]; omega)) ?_
    refine Ca (Pc rfl) ?_
    refine Fb ?_
    refine Kb ?_
    refine Dc ⟨_, ?_, u / 16, 64, cs.set 64 (.int .u8 (((dg (u % 16)).toNat : Nat) : Int)), rfl, (.inr (by rcases hI with ⟨rfl, rfl, rfl⟩ | ⟨h16, rfl, rfl, rfl⟩ <;> first | omega | exact ⟨by omega, rfl, rfl, rfl⟩)), ⟨rfl, rfl, rfl, rfl, rfl, rfl, rfl, rfl, rfl, rfl, rfl, trivial⟩, hF⟩
    omega
  ·
    refine Lc (Jc rfl ?_)
    refine Ha ?_
    refine Ja ?_
    refine Ea ?_
    refine Ca (Hb rfl) ?_
    refine Ca (Kr (((i - 1 : Nat) : Int)) rfl rfl) ?_
    refine Ca (Pc rfl) ?_
    refine Fb ?_
    refine Ha ?_
    refine Ea ?_
    refine Ca (Hb rfl) ?_
    refine Ca (Hb rfl) ?_
    refine Ia (v := .int .u8 (((dg u).toNat : Int))) (by rw [← Uu (show u < Ur.length by show u < 36; omega)]; exact Ih u underlying9 rfl rfl _) ?_
    refine Ia (v := .pointer (some ⟨b1, (i - 1), none⟩)) (Zq (i - 1) underlying205 sizeOf5 rfl rfl by_Om) ?_
    refine Af 0 (l := [.int .u8 (((dg (u)).toNat : Nat) : Int)]) (cs' := (List.toArray (cs.set (i - 1) (.int .u8 (((dg (u)).toNat : Nat) : Int))))) hF sizeOf5 rfl (v := .int .u8 (((dg (u)).toNat : Nat) : Int)) rfl rfl Zc rfl (by simp [hcl] <;> omega) (by simp [Ei]) ?_
    clear hF; intro w hF hE
    clear hE
    replace hF : FR w0 [] [(b1, .cells (List.toArray (cs.set (i - 1) (.int .u8 (((dg (u)).toNat : Nat) : Int)))) 205)] w := hF
    refine Fb ?_
    refine Ha ?_
    refine Ja ?_
    refine Ja ?_
    refine Ea ?_
    refine Ca (Kd rfl) ?_
    refine Fb ?_
    refine Ha ?_
    refine Qg rfl ?_
    refine Cb ?_
    refine Ha ?_
    refine Ja ?_
    refine Ja ?_
    refine Ea ?_
    refine Ca (Kd rfl) ?_
    refine Fb ?_
    refine Ha ?_
    refine Qg rfl ?_
    refine Cb ?_
    refine Ha ?_
    refine Ja ?_
    refine Ea ?_
    refine Ca (Hb rfl) ?_
    refine Ia (v := .slice (some ⟨b1, i - 1, none⟩) (65 - (i - 1)) (65 - (i - 1))) (S7 (i - 1) underlying205 sizeOf5 rfl rfl by_Om) ?_
    have hfin : (Oj r).length = 65 - (i - 1) ∧ ∀ j (hj : j < (Oj r).length), w.cell? ((⟨b1, i - 1, none⟩ : Addr).add j) = some (.int .u8 ((Oj r)[j].toNat : Int)) := by
      have hh := hF.heap (i := 0) rfl
      rcases hI with ⟨rfl, rfl, rfl⟩ | ⟨h16, rfl, rfl, rfl⟩
      · have h1 : Oj u = [dg u] := by rw [Oj, if_pos by_Om]
        refine ⟨by rw [h1]; rfl, fun j hj => ?_⟩
        have hj0 : j = 0 := by rw [h1] at hj; simpa using hj
        subst hj0
        rw [Nh, Ib hh]; simp [h1, Q8]
      · have h1 : Oj r = [dg (r / 16), dg (r % 16)] := by rw [Oj, if_neg by_Om]
        refine ⟨by rw [h1]; rfl, fun j hj => ?_⟩
        have hj2 : j = 0 ∨ j = 1 := by rw [h1] at hj; simp at hj; omega
        rw [Nh, Ib hh]
        rcases hj2 with rfl | rfl <;> simp [h1, Q8]
    refine Ia (v := .string (bs (Oj r))) (UE (Oj r) underlying157 underlying5 underlying9 rfl hfin.1 hfin.2) ?_
    refine Ca (Zi rfl) ?_
    refine Fb ?_
    refine Ha ?_
    refine Xb (Wb (Va (Od (v := .slice _ _ _) (x := .string (bs (Oj r))) rfl rfl rfl) ?_))
    exact ⟨rfl, hF.same⟩
theorem LD (w0 : World) (hG : Gl w0) (r : Nat) (hr : r < 32) : Calls prog 106 #[.int .i64 (r : Int), .int .i64 16] w0 (Md fun v w' => v = .string (bs (Oj r)) ∧ Same [] w0 w') := by
 refine Ka func106 rfl ntmps106 Gb (Sd _ _) ?_
 have hF := FR.start w0 []
 refine Ma (Ca (Zi rfl) (Fa (Ja (Ma (Ca (Hb rfl) (Ia (v := .bool false) (Ld (Ui rfl rfl) Ta) (Fa (Qg rfl (Cb ?_)))))))))
 refine Ha (Ma (Ca (Hb rfl) (Ia (v := .int .u64 ((r : Int))) (Ag underlying2 underlying169 rfl (CK r hr)) (Ca (Hb rfl) (Ca (Hb rfl) (Ia (v := .bool false) (Ld (L5 rfl rfl) by_Om) ?_))))))
 refine Rb hF (F2 _ (hG.ext hF.same) r hr) (Bs AK rfl rfl rfl rfl rfl rfl) ?_
 clear hF; intro w hF
 refine Ca (Gn rfl) (Ca (R5 rfl rfl) (Ca (CA rfl rfl) (Ca (Mh rfl) (Ca (Zi rfl) (Cc (Ca (Bf rfl) (Ca (Zi rfl) (Fa ?_))))))))
 refine Ie (v := .string (bs (Oj r))) rfl rfl ?_
 exact ⟨rfl, hF.same⟩
theorem RL (w0 : World) (hG : Gl w0) (r : Nat) (hr : r < 32) : Calls prog 227 #[.int .i64 (r : Int), .int .i64 16] w0 (Md fun v w' => v = .string (bs (Oj r)) ∧ Same [] w0 w') := by
 refine Ka func227 rfl ntmps227 Gb (Sd _ _) ?_
 have hF := FR.start w0 []
 refine Ma (Ca (Zi rfl) (Cc (Ca (Hb rfl) (Ca (Hb rfl) ?_))))
 refine Rb hF (LD _ (hG.ext hF.same) r hr) (Mb OI rfl rfl rfl) ?_
 clear hF; intro w hF
 refine Ca (Zi rfl) (Fa ?_)
 refine Ie (v := .string (bs (Oj r))) rfl rfl ?_
 exact ⟨rfl, hF.same⟩
def Pe (r : Int) : Int := if r = 34 then 34 else if r = 92 then 92 else if r = 8 then 98 else if r = 12 then 102 else if r = 10 then 110 else if r = 13 then 114 else if r = 9 then 116 else 0
theorem ND (w0 : World) (r : Int) : Calls prog 225 #[.int .i32 r] w0 (Md fun v w' => v = .int .u8 (Pe r) ∧ Same [] w0 w') := by
 refine Ka func225 rfl ntmps225 Gb (Dd _) ?_
 have hF := FR.start w0 []
 refine Ma (Ca (Pc rfl) (Fa (Ja (Ma (Ca (Hb rfl) (Fa (Ya (Ja (Ja ?_)))))))))
 refine Ea (Ca (Ho rfl rfl) (Ca (Hc rfl) (Fa ?_)))
 refine Kc rfl rfl (fun hc0 => ?_) (fun hc0 => ?_)
 refine Cb (Ha (Rd rfl (Ma (Ca (Hb rfl) ?_))))
 refine Ia (v := .int .u8 (Pe r)) (Ag underlying21 underlying5 rfl (by rcases (by first | exact .inl (by assumption) | exact .inr (by assumption) : r = 34 ∨ r = 92) with rfl | rfl <;> decide)) ?_
 refine Ca (Pc rfl) (Fa ?_)
 refine Ie (v := .int .u8 (Pe r)) rfl rfl ?_
 refine ⟨?_, hF.same⟩; simp_all [Pe]
 refine Ea (Ca (Ho rfl rfl) (Ca (Hc rfl) (Fa ?_)))
 refine Kc rfl rfl (fun hc1 => ?_) (fun hc1 => ?_)
 refine Ma (Ca (Hb rfl) ?_)
 refine Ia (v := .int .u8 (Pe r)) (Ag underlying21 underlying5 rfl (by rcases (by first | exact .inl (by assumption) | exact .inr (by assumption) : r = 34 ∨ r = 92) with rfl | rfl <;> decide)) ?_
 refine Ca (Pc rfl) (Fa ?_)
 refine Ie (v := .int .u8 (Pe r)) rfl rfl ?_
 refine ⟨?_, hF.same⟩; simp_all [Pe]
 refine Ma (Ca (Ho rfl rfl) (Ca (Hc rfl) (Fa ?_)))
 refine Kc rfl rfl (fun hc2 => ?_) (fun hc2 => ?_)
 refine Ma (Ca (Pc rfl) (Fa ?_))
 refine Ie (v := .int .u8 98) rfl rfl ?_
 refine ⟨?_, hF.same⟩; simp_all [Pe]
 refine Ma (Ca (Ho rfl rfl) (Ca (Hc rfl) (Fa ?_)))
 refine Kc rfl rfl (fun hc3 => ?_) (fun hc3 => ?_)
 refine Ma (Ca (Pc rfl) (Fa ?_))
 refine Ie (v := .int .u8 102) rfl rfl ?_
 refine ⟨?_, hF.same⟩; simp_all [Pe]
 refine Ma (Ca (Ho rfl rfl) (Ca (Hc rfl) (Fa ?_)))
 refine Kc rfl rfl (fun hc4 => ?_) (fun hc4 => ?_)
 refine Ma (Ca (Pc rfl) (Fa ?_))
 refine Ie (v := .int .u8 110) rfl rfl ?_
 refine ⟨?_, hF.same⟩; simp_all [Pe]
 refine Ma (Ca (Ho rfl rfl) (Ca (Hc rfl) (Fa ?_)))
 refine Kc rfl rfl (fun hc5 => ?_) (fun hc5 => ?_)
 refine Ma (Ca (Pc rfl) (Fa ?_))
 refine Ie (v := .int .u8 114) rfl rfl ?_
 refine ⟨?_, hF.same⟩; simp_all [Pe]
 refine Ma (Ca (Ho rfl rfl) (Ca (Hc rfl) (Fa ?_)))
 refine Kc rfl rfl (fun hc6 => ?_) (fun hc6 => ?_)
 refine Ma (Ca (Pc rfl) (Fa ?_))
 refine Ie (v := .int .u8 116) rfl rfl ?_
 refine ⟨?_, hF.same⟩; simp_all [Pe]
 refine Cb (Kb (Ha (Ma (Ca (Pc rfl) (Fa ?_)))))
 refine Ie (v := .int .u8 0) rfl rfl ?_
 refine ⟨?_, hF.same⟩; simp_all [Pe]
end Go.Scarf
namespace Go.Scarf
open Go.RowKit Go.Proofs Go.Proofs.Tryz
def Tt (r : Nat) : Str := if Pe r ≠ 0 then [92, UInt8.ofNat (Pe r).toNat] else if 32 ≤ r then Qi r else [92, 117] ++ Lib.repeatL [48] (4 - (Oj r).length) ++ Oj r
def Cv : Nat → Str → Nat → Str
  | 0, _, _ => []
  | f + 1, s, p => if p < s.length then Tt (Utf8.decode (bs s) p).1 ++ Cv f s (p + (Utf8.decode (bs s) p).2) else []
theorem N_ : ∀ (f g : Nat) (s : Str) (p : Nat), s.length - p ≤ f → s.length - p ≤ g → Cv f s p = Cv g s p
  | 0, 0, _, _, _, _ => rfl
  | 0, g + 1, s, p, h, _ => by rw [Cv, Cv, if_neg by_Om]
  | f + 1, 0, s, p, _, h => by rw [Cv, Cv, if_neg by_Om]
  | f + 1, g + 1, s, p, h1, h2 => by
    rw [Cv, Cv]
    split
    · have h3 := Ff s p
      rw [N_ f g s _ by_Om by_Om]
    · rfl
def Jq (s : Str) (p : Nat) : Str := Cv (s.length - p) s p
theorem Un {s : Str} {p : Nat} (h : p < s.length) : Jq s p = Tt (Utf8.decode (bs s) p).1 ++ Jq s (p + (Utf8.decode (bs s) p).2) := by
  have h3 := Ff s p
  obtain ⟨f, hf⟩ : ∃ f, s.length - p = f + 1 := ⟨s.length - p - 1, by omega⟩
  rw [Jq, hf, Cv, if_pos h, Jq, N_ f (s.length - (p + (Utf8.decode (bs s) p).2)) s _ by_Om by_Om]
theorem F0 {s : Str} {p : Nat} (h : ¬ p < s.length) : Jq s p = [] := by
  have e : s.length - p = 0 := by omega
  rw [Jq, e, Cv]
def Kx (s : Str) : Str := [34] ++ Jq s 0 ++ [34]
theorem Gq (r : Int) : 0 ≤ Pe r ∧ Pe r < 256 := by
  unfold Pe
  repeat' split
  all_goals omega
theorem Hk (r : Nat) : 1 ≤ (Oj r).length ∧ (Oj r).length ≤ 2 := by unfold Oj; split <;> simp
theorem In (n : Nat) : (Lib.repeatL [48] n).length = n := by
  induction n with
  | zero => rfl
  | succ n ih => simp [Lib.repeatL, ih]; try omega
theorem Em (r : Nat) : (Tt r).length ≤ 6 := by
  unfold Tt
  have h1 := Nn r
  have h2 := Hk r
  repeat' split
  · simp
  · omega
  · simp [In]; omega
theorem Xf {w0 : World} {B pb T : Nat} {rest : List Value} {s : Str} (hB : Bd w0 B pb T rest s) (z : Int) (h0 : 0 ≤ z) (h1 : z < 256) (hl : s.length + 1 ≤ 140737488355328) : Lr 191 #[.pointer (some ⟨pb, 0, none⟩), .int .u8 z] .nilIface w0 B pb T rest (s ++ [UInt8.ofNat z.toNat]) := by
  have h := Yl hB (UInt8.ofNat z.toNat) hl
  have e : (((UInt8.ofNat z.toNat).toNat : Nat) : Int) = z := by simp only [UInt8.toNat_ofNat']; omega
  rwa [e] at h
theorem MG (w0 : World) (hG : Gl w0) (s : Str) (hl : s.length ≤ 17592186044416) : Calls prog 190 #[.string (bs s)] w0 (Md fun v w' => v = (if Lib.validD s = true then .tuple #[.string (bs (Kx s)), .int .i64 0] else .tuple #[.string (bs []), .int .i64 2]) ∧ Same [] w0 w') := by
 refine Ka func190 rfl ntmps190 Gb (Dd _) ?_
 have hF := FR.start w0 []
 refine Ma (Ca (Zi rfl) (Ca (Pc rfl) (Fa (Ja (Ma (Ca (Bf rfl) ?_))))))
 refine Eb (H_ s by_Om _ (hG.ext hF.same)) (Ob UH rfl rfl) ?_
 rintro _ w ⟨n0, rfl, hE⟩
 replace hF := hF.ext hE
 clear hE
 refine Ca (Gn rfl) (Ca (Mt rfl rfl) (Ca (Wp rfl rfl) (Ca (Pc rfl) (Ca (Hc rfl) (Cc (Ca (Kd rfl) (Ca (On rfl) (Fa ?_))))))))
 refine Ik rfl rfl (fun hc0 => ?_) (fun hc0 => ?_)
 refine Ma (Ca (Zi rfl) (Ca (Pc rfl) (Fa ?_)))
 refine Xb (Wb (Va (Od (v := .string (bs [])) (x := .int .i64 2) rfl rfl rfl) ?_))
 exact ⟨by rw [if_neg (by simpa using hc0)], hF.same⟩
 refine Cb (Ha (Ma ?_))
 refine Lh (cs := #[.pointer none, .slice none 0 0]) hF zeroValue159 rfl ?_
 clear hF; rintro b1 w hb1 hF -
 refine Cc ?_
 have hBn : BW w0 [] w b1 b1 159 [] [] := BW.own ⟨.inl ⟨rfl, rfl⟩, Nat.le_refl _, _, _, hF.heap (i := 0) rfl, World.ownsRow_nil _ _ _ _, .inl rfl⟩ (hF.ge (i := 0) rfl) hF.same.size
 have hB := hBn
 replace hF := hF.drop 1
 replace hF : FR w0 [] [] w := hF
 have ho : (0 : Nat) ≤ 0 ∧ ([] : Str).length ≤ 0 := by simp
 refine Eb (Xf hB.bd (34) by_Om by_Om Ga) (Mb Pl rfl rfl rfl) ?_
 rintro _ w ⟨rfl, hBd, hE⟩
 replace hF := hF.wrote hB hE Ga
 replace hB := hB.wrote hBd hE
 clear hBd hE
 refine Fa (Ja (Ma (Ca (Bf rfl) ?_)))
 refine Js (str := s) hF underlying9 rfl ?_
 clear hF; intro b2 w hb2 hF hE
 have nb2 : b2 ≠ b1 := by have := hB.lt; omega
 replace hB := hB.ext hE
 clear hE
 refine Fa (Ya ?_)
 refine Uc (fun μ σ w => ∃ (q : Nat), ∃ (o : Str), μ = s.length - q ∧ (o ++ Jq s q = [34] ++ Jq s 0) ∧ (o.length ≤ 1 + 6 * q ∧ o.length ≤ 1 + 6 * s.length) ∧ (BW w0 [] w b1 b1 159 [] o) ∧ AllEq σ [(6, .pointer (some ⟨b1, 0, none⟩)), (20, .pointer (some ⟨b2, 0, none⟩))] ∧ FR w0 [] [(b2, .stringIter (bs s) (q))] w) _ ⟨0, [34], rfl, (rfl), Ga, (hB), TE, hF⟩ ?_
 clear hF; rintro μ σ w ⟨q, o, rfl, hq, ho, hB, hs, hF⟩
 refine Cg.slots hs ?_
 clear hs; intro σ
 have hr2 : Cp w b2 = false := by rw [Zo (hF.heap (i := 0) rfl)]; rfl
 refine Ma ?_
 by_cases hn0 : (q) < (s : Str).length
 refine Fv 0 (p := q) (str := s) hF rfl rfl hn0 ?_
 clear hF; intro w hF hE
 replace hB := hB.step hE (by simpa using nb2.symm) (by simpa using hr2) (by simp [Zo (hF.heap (i := 0) rfl), Ci])
 clear hE
 replace hF : FR w0 [] [(b2, .stringIter (bs s) (q + (Utf8.decode (bs s) (q)).2))] w := hF
 refine Ca (Wp rfl rfl) (Fa (Ja (Rd rfl (Cb (Ha (Ya (Ma (Ca (Mt rfl rfl) (Ca (Pc rfl) (Fa ?_))))))))))
 refine Ja (Ma (Ca (Hb rfl) ?_))
 refine Eb (ND _ (((Utf8.decode (bs s) q).1 : Nat) : Int)) (Ob WI rfl rfl) ?_
 rintro _ w ⟨rfl, hE⟩
 replace hF := hF.ext hE
 replace hB := hB.ext hE
 clear hE
 refine Ca (Pc rfl) (Cc (Ca (Hb rfl) (Ca (D6 rfl rfl) (Fa ?_))))
 refine Kc rfl rfl (fun hc2 => ?_) (fun hc2 => ?_)
 refine Ma ?_
 refine Eb (Xf hB.bd (92) by_Om by_Om (by have h1 := ho.1; have h2 := ho.2; simp; omega)) (Mb Pl rfl rfl rfl) ?_
 rintro _ w ⟨rfl, hBd, hE⟩
 replace hF := hF.wrote hB hE (by simp [Ci, nb2])
 replace hB := hB.wrote hBd hE
 clear hBd hE
 refine Cc (Ca (Hb rfl) ?_)
 refine Eb (Xf hB.bd (Pe (((Utf8.decode (bs s) q).1 : Nat) : Int)) (Gq _).1 (Gq _).2 (by have h1 := ho.1; have h2 := ho.2; simp; omega)) (Mb Pl rfl rfl rfl) ?_
 rintro _ w ⟨rfl, hBd, hE⟩
 replace hF := hF.wrote hB hE (by simp [Ci, nb2])
 replace hB := hB.wrote hBd hE
 have e1 : o ++ [UInt8.ofNat (92 : Int).toNat] ++ [UInt8.ofNat (Pe (((Utf8.decode (bs s) q).1 : Nat) : Int)).toNat] = o ++ Tt (Utf8.decode (bs s) q).1 := by rw [Tt, if_pos (by simpa using hc2)]; simp
 rw [e1] at hB
 clear hBd hE
 refine Fa ?_
 refine Lc (Jc rfl ?_)
 have h1 := Ff s q
 refine Dc ⟨_, ?_, q + (Utf8.decode (bs s) q).2, o ++ Tt (Utf8.decode (bs s) q).1, rfl, (by rw [List.append_assoc, ← Un by_Om]; exact hq), (by have h1 := Ff s q; have h2 := Em (Utf8.decode (bs s) q).1; rw [List.length_append]; omega), (hB), TE, hF⟩
 omega
 refine Cb (Ha (Ja (Ma (Ca (Hb rfl) (Ca (X8 rfl rfl) (Fa ?_))))))
 refine Kc rfl rfl (fun hc3 => ?_) (fun hc3 => ?_)
 refine Ma (Ca (Hb rfl) ?_)
 refine Eb (N3 hB.bd (((Utf8.decode (bs s) q).1 : Nat) : Int) by_Om (by have := Lib.rune_le (bs s) q; omega) (by have h1 := ho.1; have h2 := ho.2; simp; omega)) (Mb KI rfl rfl rfl) ?_
 rintro _ w ⟨rfl, hBd, hE⟩
 replace hF := hF.wrote hB hE (by simp [Ci, nb2])
 replace hB := hB.wrote hBd hE
 have e1 : o ++ Qi (((Utf8.decode (bs s) q).1 : Nat) : Int) = o ++ Tt (Utf8.decode (bs s) q).1 := by rw [Tt, if_neg (by simpa using hc2), if_pos by_Om]
 rw [e1] at hB
 clear hBd hE
 refine Fa ?_
 refine Lc (Jc rfl ?_)
 have h1 := Ff s q
 refine Dc ⟨_, ?_, q + (Utf8.decode (bs s) q).2, o ++ Tt (Utf8.decode (bs s) q).1, rfl, (by rw [List.append_assoc, ← Un by_Om]; exact hq), (by have h1 := Ff s q; have h2 := Em (Utf8.decode (bs s) q).1; rw [List.length_append]; omega), (hB), TE, hF⟩
 omega
 refine Cb (Ha (Ma (Ca (Hb rfl) (Ia (v := .int .i64 ((((Utf8.decode (bs s) q).1 : Nat) : Int))) (Ag underlying21 underlying2 rfl (Am by_Om by_Om)) ?_))))
 refine Eb (RL _ (hG.ext hF.same) (Utf8.decode (bs s) q).1 by_Om) (Mb IK rfl rfl rfl) ?_
 rintro _ w ⟨rfl, hE⟩
 replace hF := hF.ext hE
 replace hB := hB.ext hE
 clear hE
 refine Ca (Zi rfl) (Fa (Ea (Ca (Bf rfl) (Ca (M7 underlying9 rfl) (Ia (v := .int .i64 (((4 - (Oj (Utf8.decode (bs s) q).1).length : Nat) : Int))) (Xu rfl rfl (have := Hk (Utf8.decode (bs s) q).1; Xh by_Om by_Om by_Om)) ?_)))))
 refine Eb (Jz ((4 - (Oj (Utf8.decode (bs s) q).1).length : Nat) : Int) by_Om by_Om _) (Mb R6 rfl rfl rfl) ?_
 rintro _ w ⟨rfl, hE⟩
 replace hF := hF.ext hE
 replace hB := hB.ext hE
 clear hE
 refine Ia (v := .string (bs (([92, 117]) ++ (Lib.repeatL [48] (4 - (Oj (Utf8.decode (bs s) q).1).length))))) (Fp rfl rfl (by have := Hk (Utf8.decode (bs s) q).1; simp [In]; omega)) ?_
 refine Ca (Bf rfl) ?_
 refine Ia (v := .string (bs ((([92, 117]) ++ (Lib.repeatL [48] (4 - (Oj (Utf8.decode (bs s) q).1).length))) ++ (Oj (Utf8.decode (bs s) q).1)))) (Fp rfl rfl (by have := Hk (Utf8.decode (bs s) q).1; simp [In]; omega)) ?_
 refine Eb (Ii hB.bd _ (by have := Hk (Utf8.decode (bs s) q).1; have h1 := ho.1; have h2 := ho.2; simp [In]; omega)) (Mb Bw rfl rfl rfl) ?_
 rintro _ w ⟨rfl, hBd, hE⟩
 replace hF := hF.wrote hB hE (by simp [Ci, nb2])
 replace hB := hB.wrote hBd hE
 have e1 : o ++ ((([92, 117]) ++ (Lib.repeatL [48] (4 - (Oj (Utf8.decode (bs s) q).1).length))) ++ (Oj (Utf8.decode (bs s) q).1)) = o ++ Tt (Utf8.decode (bs s) q).1 := by rw [Tt, if_neg (by simpa using hc2), if_neg by_Om]
 rw [e1] at hB
 clear hBd hE
 refine Fb (Kb ?_)
 have h1 := Ff s q
 refine Dc ⟨_, ?_, q + (Utf8.decode (bs s) q).2, o ++ Tt (Utf8.decode (bs s) q).1, rfl, (by rw [List.append_assoc, ← Un by_Om]; exact hq), (by have h1 := Ff s q; have h2 := Em (Utf8.decode (bs s) q).1; rw [List.length_append]; omega), (hB), TE, hF⟩
 omega
 refine Vn 0 (p := q) (str := s) hF rfl rfl hn0 ?_
 refine Ca (Wp rfl rfl) (Fa (Ja (Qg rfl ?_)))
 refine Lc (Jc rfl ?_)
 refine Ha (Ma ?_)
 refine Eb (Xf hB.bd (34) by_Om by_Om (by have h1 := ho.1; have h2 := ho.2; simp; omega)) (Mb Pl rfl rfl rfl) ?_
 rintro _ w ⟨rfl, hBd, hE⟩
 replace hF := hF.wrote hB hE (by simp [Ci, nb2])
 replace hB := hB.wrote hBd hE
 clear hBd hE
 refine Cc ?_
 refine Eb (G3 hB.bd Ga) (Ob EC rfl rfl) ?_
 rintro _ w ⟨rfl, hE⟩
 replace hF := hF.wrote hB hE (by simp [Ci, nb2])
 clear hE
 refine Ca (Zi rfl) (Ca (Pc rfl) (Fa ?_))
 refine Xb (Wb (Va (Od (v := .string (bs (o ++ [34]))) (x := .int .i64 0) rfl rfl rfl) ?_))
 refine ⟨?_, hF.same⟩
 rw [if_pos (by simpa using hc0), Kx, ← hq, F0 by_Om, List.append_nil]
end Go.Scarf
namespace Go.Scarf
open Go.RowKit Go.Proofs Go.Proofs.Tryz
def Rl (m : Bool) (ind d : Nat) : Str := if m then [10] ++ Lib.repeatL [32] (ind * d) else []
def qS (t : Str) : Str := if Lib.validD t = true then Kx t else []
theorem Ap (c : UInt8) (n : Nat) : (Lib.repeatL [c] n).length = n := by
  induction n with
  | zero => rfl
  | succ n ih => simp [Lib.repeatL, ih]; try omega
theorem Rs (m : Bool) (ind d : Nat) : (Rl m ind d).length ≤ 1 + ind * d := by unfold Rl; split <;> simp [Ap] <;> omega
theorem G1 (s : Str) (p : Nat) : (Jq s p).length ≤ 6 * (s.length - p) := by
  induction h : s.length - p using Nat.strongRecOn generalizing p with
  | ind n ih =>
    by_cases hp : p < s.length
    · rw [Un hp, List.length_append]
      have h1 := Em (Utf8.decode (bs s) p).1
      have h2 := Ff s p
      have h3 := ih (s.length - (p + (Utf8.decode (bs s) p).2)) by_Om (p + (Utf8.decode (bs s) p).2) rfl
      omega
    · rw [F0 hp]; simp
theorem L0 (s : Str) : (qS s).length ≤ 6 * s.length + 2 := by
  unfold qS
  split
  · have := G1 s 0
    simp [Kx]; omega
  · simp
theorem XB (t : Str) (c : Nat) (h1 : c ≤ 9223372036854775807) (h2 : t.length * c ≤ 140737488355328) (w : World) : Calls prog 124 #[.string (bs t), .int .i64 (c : Int)] w (Md fun v w' => v = .string (bs (Lib.repeatL t c)) ∧ Same [] w w') := by
  have h := strings_Repeat (bs t) c w h1 (by rw [Cm]; exact h2)
  exact Lp h
theorem OD (t : Str) (hl : t.length ≤ 17592186044416) (w0 : World) (hG : Gl w0) : Calls prog 190 #[.string (bs t)] w0 (Md fun v w' => v = .tuple #[.string (bs (qS t)), .int .i64 (if Lib.validD t = true then 0 else 2)] ∧ Same [] w0 w') := by
  refine Ue (MG w0 hG t hl) fun v w' ⟨h1, h2⟩ => ⟨?_, h2⟩
  rw [h1, qS]
  split <;> rfl
theorem Bd.mul {w : World} {B pb T : Nat} {m : Bool} {ind : Int} {s : Str} (h : Bd w B pb T [.bool m, .int .i64 ind] s) : w.cell? ⟨pb, 2, none⟩ = some (.bool m) := by
  obtain ⟨ap, v, hh, -⟩ := h.ex
  rw [Ib hh]; rfl
theorem Bd.ind {w : World} {B pb T : Nat} {m : Bool} {ind : Int} {s : Str} (h : Bd w B pb T [.bool m, .int .i64 ind] s) : w.cell? ⟨pb, 3, none⟩ = some (.int .i64 ind) := by
  obtain ⟨ap, v, hh, -⟩ := h.ex
  rw [Ib hh]; rfl
theorem Gl.wrote {w0 w : World} {B pb : Nat} (h : Gl w0) (hs : Same (Wk w0 B pb) w0 w) (hb : 7 ≤ B) (hp : B ≤ pb) : Gl w := h.same hs fun x hx => by
  rcases We.1 hx with rfl | ⟨-, h1, -⟩ <;> omega
theorem H8 (w0 : World) (B pb : Nat) (m : Bool) (ind : Nat) (s : Str) (hBd : Bd w0 B pb 161 [.bool m, .int .i64 (ind : Int)] s) (d : Nat) (hd : ind * d ≤ 1000000000) (hl : s.length + (Rl m ind d).length ≤ 140737488355328) : Lr 192 #[.pointer (some ⟨pb, 0, none⟩), .int .i64 (d : Int)] (.tuple #[]) w0 B pb 161 [.bool m, .int .i64 (ind : Int)] (s ++ Rl m ind d) := by
 unfold Lr
 refine Ka func192 rfl ntmps192 Gb (Sd _ _) ?_
 have hB := BW.start hBd
 have hF := FR.start w0 (Wk w0 B pb)
 refine Ma (Ca (Qd rfl) (Ca (Cf rfl) (Ca (Gc R4 rfl) (Ia (v := .bool (m)) (Wa isAgg4 rfl hB.bd.mul) (Fa ?_)))))
 refine Ik rfl rfl (fun hc0 => ?_) (fun hc0 => ?_)
 rw [Rl, if_pos hc0] at hl
 simp only [List.length_append, List.length_cons, List.length_nil, Ap] at hl
 refine Ma (Ca (Qd rfl) (Ca (Cf rfl) (Ca (Gc Wg rfl) ?_)))
 refine Eb (Xf hB.bd 10 Ta Ta by_Om) (Mb Pl rfl rfl rfl) ?_
 rintro _ w ⟨rfl, hBd, hE⟩
 replace hF := hF.wrote hB hE Ga
 replace hB := hB.wrote hBd hE
 clear hBd hE
 refine Fa ?_
 refine Yc [] (.free 0 (.free 1 (.free 2 (.free 3 (.free 4 (.free 5 (.free 6 (.free 7 (.free 8 (.act 9 (.act 10 .nil))))))))))) hF ?_
 clear hF; intro w hF hE
 replace hB := hB.ext hE
 clear hE
 refine ⟨fun wq => FR w0 (Wk w0 B pb) _ wq ∧ ∃ s', Bd wq B pb 161 [.bool m, .int .i64 (ind : Int)] s', ⟨hF, ⟨_, hB.bd⟩⟩, ?_⟩
 refine Xa rfl (Qd rfl) (Xa rfl (Cf rfl) (Xa rfl (Gc Wg rfl) (Xa rfl (Qd rfl) (Xa rfl (Cf rfl) (Xa rfl (Gc EF rfl) ?_)))))
 refine Qa rfl (v := .int .i64 ((ind : Int))) (fun w hC => Wa isAgg3 rfl (by obtain ⟨-, s_, hs_⟩ := hC; exact hs_.ind)) ?_
 refine Xa rfl (Hb rfl) ?_
 refine Qa rfl (v := .int .i64 (((ind * d : Nat) : Int))) (fun w hC => U4 rfl rfl (Xh (by rw [Int.natCast_mul]) by_Om by_Om)) ?_
 refine Ce rfl (XB [32] (ind * d) by_Om (by simp; omega) _) (Mb R6 rfl rfl rfl) ?_
 rintro _ w ⟨rfl, hE⟩
 replace hF := hF.ext hE
 replace hB := hB.ext hE
 clear hE
 refine ⟨⟨hF, ⟨_, hB.bd⟩⟩, ?_⟩
 refine Ce rfl (Ii hB.bd (Lib.repeatL [32] (ind * d)) (by simp [Ap]; omega)) (Mb Bw rfl rfl rfl) ?_
 rintro _ w ⟨rfl, hBd, hE⟩
 replace hF := hF.wrote hB hE Ga
 replace hB := hB.wrote hBd hE
 clear hBd hE
 refine ⟨⟨hF, ⟨_, hB.bd⟩⟩, ?_⟩
 refine Ac ?_
 refine Td (Nc (Ve rfl) ?_)
 exact ⟨rfl, by simpa [Rl, hc0] using hB.bd, hF.same⟩
 refine Cb ?_
 refine Td (Nc (Ve rfl) ?_)
 exact ⟨rfl, by simpa [Rl, hc0] using hB.bd, hF.same⟩
theorem Vy (w0 : World) (B pb : Nat) (m : Bool) (ind : Nat) (s : Str) (hBd : Bd w0 B pb 161 [.bool m, .int .i64 (ind : Int)] s) (hG : Gl w0) (h8 : 7 ≤ B) (t : Str) (ht : t.length ≤ 17592186044416) (hl : s.length + (qS t).length ≤ 140737488355328) : Lr 158 #[.pointer (some ⟨pb, 0, none⟩), .string (bs t)] (.tuple #[]) w0 B pb 161 [.bool m, .int .i64 (ind : Int)] (s ++ qS t) := by
 unfold Lr
 refine Ka func158 rfl ntmps158 Gb (Sd _ _) ?_
 have hB := BW.start hBd
 have hF := FR.start w0 (Wk w0 B pb)
 refine Ma (Ca (Bf rfl) ?_)
 refine Eb (OD t ht _ ((hG.wrote hF.same h8 hBd.le))) (Ob SI rfl rfl) ?_
 rintro _ w ⟨rfl, hE⟩
 replace hF := hF.ext hE
 replace hB := hB.ext hE
 clear hE
 refine Ca (Gn rfl) (Ca (CA rfl rfl) (Ca (Mt rfl rfl) (Ca (Zi rfl) (Ca (Pc rfl) (Fa (Ea (Ca (Qd rfl) (Ca (Cf rfl) (Ca (Gc Wg rfl) (Ca (Bf rfl) ?_))))))))))
 refine Eb (Ii hB.bd (qS t) by_Om) (Mb Bw rfl rfl rfl) ?_
 rintro _ w ⟨rfl, hBd, hE⟩
 replace hF := hF.wrote hB hE Ga
 replace hB := hB.wrote hBd hE
 clear hBd hE
 refine Fb ?_
 refine Td (Nc (Ve rfl) ?_)
 exact ⟨rfl, hB.bd, hF.same⟩
end Go.Scarf
namespace Go.Scarf
open Go.RowKit Go.Proofs Go.Proofs.Tryz
def Bm (m : Bool) (ind d : Nat) : Bool → List Str → Str
  | _, [] => []
  | first, p :: ps => (if first then [] else [44]) ++ (Rl m ind (d + 1) ++ (p ++ Bm m ind d false ps))
def Kl (m : Bool) (ind d : Nat) (o c : UInt8) (ps : List Str) : Str := [o] ++ (Bm m ind d true ps ++ ((if ps = [] then [] else Rl m ind d) ++ [c]))
mutual
def Ni (m : Bool) (ind : Nat) : Tree → Nat → Str
  | .node k t ks xs, d => if k = 1 then [110, 117, 108, 108] else if k = 4 then qS t else if k = 5 then Kl m ind d 91 93 (Mo m ind xs (d + 1)) else if k = 6 then Kl m ind d 123 125 (Ml m ind xs ks (d + 1)) else t
def Mo (m : Bool) (ind : Nat) : List Tree → Nat → List Str
  | [], _ => []
  | x :: xs, d => Ni m ind x d :: Mo m ind xs d
def Ml (m : Bool) (ind : Nat) : List Tree → List Str → Nat → List Str
  | [], _, _ => []
  | x :: xs, ks, d => (qS (ks.headD []) ++ ([58] ++ ((if m then [32] else []) ++ Ni m ind x d))) :: Ml m ind xs ks.tail d
end
theorem Vf : ∀ {xs : List Tree} {x : Tree}, x ∈ xs → Hd x ≤ Xc xs
  | y :: ys, x, h => by
    rw [Xc]
    rcases List.mem_cons.1 h with rfl | h
    · omega
    · have := Vf h; omega
theorem Xr (m : Bool) (ind d : Nat) : ∀ xs, Mo m ind xs d = xs.map (fun x => Ni m ind x d)
  | [] => by simp [Mo]
  | x :: xs => by simp [Mo, Xr m ind d xs]
def M6 (m : Bool) (ind d : Nat) (k : Str) (x : Tree) : Str := qS k ++ ([58] ++ ((if m then [32] else []) ++ Ni m ind x d))
theorem Dn (m : Bool) (ind d : Nat) : ∀ xs ks, (Ml m ind xs ks d).length = xs.length
  | [], ks => by simp [Ml]
  | x :: xs, ks => by simp [Ml, Dn m ind d xs ks.tail]
theorem H0 (m : Bool) (ind d : Nat) : ∀ (xs : List Tree) (ks : List Str) (j : Nat) (h : j < xs.length) (hk : j < ks.length) (h' : j < (Ml m ind xs ks d).length), (Ml m ind xs ks d)[j] = M6 m ind d ks[j] xs[j]
  | x :: xs, k :: ks, 0, _, _, _ => by simp [Ml, M6]
  | x :: xs, k :: ks, j + 1, h, hk, h' => by
    simp only [Ml, List.tail_cons, List.getElem_cons_succ]
    exact H0 m ind d xs ks j (by simpa using h) (by simpa using hk) (by simpa [Ml] using h')
theorem T_ (m : Bool) (ind d : Nat) {ps : List Str} {j : Nat} (h : j < ps.length) : Bm m ind d (decide (j = 0)) (ps.drop j) = (if j = 0 then [] else [44]) ++ (Rl m ind (d + 1) ++ (ps[j] ++ Bm m ind d (decide (j + 1 = 0)) (ps.drop (j + 1)))) := by
  rw [List.drop_eq_getElem_cons h, Bm]
  simp
mutual
def F_ : Tree → Prop | .node _ t ks xs => t.length ≤ 17592186044416 ∧ (∀ k ∈ ks, k.length ≤ 17592186044416) ∧ Z6 xs
def Z6 : List Tree → Prop | [] => True | x :: xs => F_ x ∧ Z6 xs
end
theorem Us : ∀ {xs : List Tree}, Z6 xs → ∀ x ∈ xs, F_ x
  | [], _, _, h => absurd h Ga
  | y :: ys, h, x, hx => by
    rw [Z6] at h
    rcases List.mem_cons.1 hx with rfl | hx
    · exact h.1
    · exact Us h.2 x hx
def HD (x : Tree) : Prop := ∀ (m : Bool) (ind d : Nat) (w0 : World) (B pb : Nat) (s : Str) (cs : List Value), Bd w0 B pb 161 [.bool m, .int .i64 (ind : Int)] s → Gl w0 → 7 ≤ B → Rep (fun b => b ∉ Wk w0 B pb) w0 (Ed x) cs → F_ x → Xd nodeB x = true →
  ind * (d + Hd x) ≤ 1000000000 → d + Hd x ≤ 1000000000 → s.length + (Ni m ind x d).length ≤ 140737488355328 → Lr 126 #[.pointer (some ⟨pb, 0, none⟩), .agg cs.toArray, .int .i64 (d : Int)] (.tuple #[]) w0 B pb 161 [.bool m, .int .i64 (ind : Int)] (s ++ Ni m ind x d)
def ZL (f : Nat) (k : Int) (t : Str) (ks : List Str) (xs : List Tree) (m : Bool) (ind d : Nat) (ps : List Str) : Prop := ∀ (j : Nat) (hj : j < ps.length) (w0 : World) (B pb : Nat) (s : Str) (A B' : Option Addr) (c e : Nat), Bd w0 B pb 161 [.bool m, .int .i64 (ind : Int)] s → Gl w0 → 7 ≤ B →
  Rep (fun b => b ∉ Wk w0 B pb) w0 (Ed (.node k t ks xs)) [.int .i64 k, .string (bs t), .slice A ks.length c, .slice B' xs.length e] → s.length + ps[j].length ≤ 140737488355328 →
  Lr f #[.pointer (some ⟨pb, 0, none⟩), .agg #[.int .i64 k, .string (bs t), .slice A ks.length c, .slice B' xs.length e], .int .i64 (j : Int), .int .i64 (d : Int)] (.tuple #[]) w0 B pb 161 [.bool m, .int .i64 (ind : Int)] (s ++ ps[j])
theorem MI (k : Int) (t : Str) (ks : List Str) (xs : List Tree) (m : Bool) (ind d : Nat) (j : Nat) (hj : j < xs.length) (w0 : World) (B pb : Nat) (s : Str) (A B_ : Option Addr) (c e : Nat) (hBd : Bd w0 B pb 161 [.bool m, .int .i64 (ind : Int)] s) (hG : Gl w0) (h8 : 7 ≤ B) (hX : Rep (fun b => b ∉ Wk w0 B pb) w0 (Ed (.node k t ks xs)) [.int .i64 k, .string (bs t), .slice A ks.length c, .slice B_ xs.length e]) (hv : ∀ x ∈ xs, HD x) (hok : F_ (.node k t ks xs)) (hn : Xd nodeB (.node k t ks xs) = true) (hd : ind * (d + Xc xs) ≤ 1000000000) (hd2 : d + Xc xs ≤ 1000000000) (hl : s.length + (Ni m ind xs[j] d).length ≤ 140737488355328) : Lr 160 #[.pointer (some ⟨pb, 0, none⟩), .agg #[.int .i64 k, .string (bs t), .slice A ks.length c, .slice B_ xs.length e], .int .i64 (j : Int), .int .i64 (d : Int)] (.tuple #[]) w0 B pb 161 [.bool m, .int .i64 (ind : Int)] (s ++ Ni m ind xs[j] d) := by
 unfold Lr
 rw [F_] at hok
 refine Ka func160 rfl ntmps160 Gb (P8 _ _ _ _) ?_
 have hB := BW.start hBd
 have hF := FR.start w0 (Wk w0 B pb)
 refine Ma ?_
 refine Kk hF rfl ?_
 clear hF; intro b1 w hb1 hF hE
 have nb1 : b1 ≠ pb := by have := hB.lt; omega
 replace hX := hX.off_ext hB.lt hE
 replace hB := hB.ext hE
 clear hE
 refine Fa (Ea (Ca (Qd rfl) (Ca (Gc Xe rfl) (Vd (Ij isAgg22 rfl hF.F 0 rfl rfl) (Ca (Hb rfl) ?_)))))
 obtain ⟨A_, c_, B__, e_, heq_, -, -, hK_, hXs_⟩ := hX.tree_inv
 simp only [List.cons.injEq, Value.slice.injEq, true_and, and_true] at heq_
 obtain ⟨⟨rfl, rfl⟩, rfl, rfl⟩ := heq_
 obtain ⟨ad0, cs0, hA0, hl0, hk0, hx0⟩ := hXs_.tree_elem (i := j) by_Om
 have ho0 := hx0.one_
 refine Ia (v := .pointer (some (ad0.add (j * 4)))) (Pa (i := (j : Int)) Do rfl hA0 rfl by_Om by_Om) (Ia (v := .agg (List.toArray cs0)) (Ic (l := cs0) isAgg27 sizeOf27 rfl hl0 hk0) (Ca (Hb rfl) ?_))
 refine Eb (hv xs[j] (List.getElem_mem hj) m ind d _ B pb s _ hB.bd (hG.wrote hF.same h8 hBd.le) h8 hx0 (Us hok.2.2 _ (List.getElem_mem hj)) ((Ng hn).2 _ (List.getElem_mem hj)) (by have h1 := Vf (List.getElem_mem hj); exact Nat.le_trans (Nat.mul_le_mul_left ind by_Om) hd) (by have h1 := Vf (List.getElem_mem hj); omega) hl) (Bc X1 rfl rfl rfl rfl) ?_
 rintro _ w ⟨rfl, hBd2, hE⟩
 replace hF := hF.wrote hB hE (by simp [Ci, nb1])
 replace hX := hX.off hE
 replace hB := hB.wrote hBd2 hE
 clear hBd2 hE
 refine Fb ?_
 refine Td (Nc (Ve rfl) ?_)
 exact ⟨rfl, hB.bd, hF.same⟩
theorem PB (k : Int) (t : Str) (ks : List Str) (xs : List Tree) (m : Bool) (ind d : Nat) (j : Nat) (hj : j < xs.length) (hjk : j < ks.length) (w0 : World) (B pb : Nat) (s : Str) (A B_ : Option Addr) (c e : Nat) (hBd : Bd w0 B pb 161 [.bool m, .int .i64 (ind : Int)] s) (hG : Gl w0) (h8 : 7 ≤ B) (hX : Rep (fun b => b ∉ Wk w0 B pb) w0 (Ed (.node k t ks xs)) [.int .i64 k, .string (bs t), .slice A ks.length c, .slice B_ xs.length e]) (hv : ∀ x ∈ xs, HD x) (hok : F_ (.node k t ks xs)) (hn : Xd nodeB (.node k t ks xs) = true) (hd : ind * (d + Xc xs) ≤ 1000000000) (hd2 : d + Xc xs ≤ 1000000000) (hl : s.length + (M6 m ind d ks[j] xs[j]).length ≤ 140737488355328) : Lr 161 #[.pointer (some ⟨pb, 0, none⟩), .agg #[.int .i64 k, .string (bs t), .slice A ks.length c, .slice B_ xs.length e], .int .i64 (j : Int), .int .i64 (d : Int)] (.tuple #[]) w0 B pb 161 [.bool m, .int .i64 (ind : Int)] (s ++ M6 m ind d ks[j] xs[j]) := by
 unfold Lr
 rw [F_] at hok
 rw [M6] at hl
 simp only [List.length_append, List.length_cons, List.length_nil] at hl
 refine Ka func161 rfl ntmps161 Gb (P8 _ _ _ _) ?_
 have hB := BW.start hBd
 have hF := FR.start w0 (Wk w0 B pb)
 refine Ma ?_
 refine Kk hF rfl ?_
 clear hF; intro b1 w hb1 hF hE
 have nb1 : b1 ≠ pb := by have := hB.lt; omega
 replace hX := hX.off_ext hB.lt hE
 replace hB := hB.ext hE
 clear hE
 refine Cc (Ca (Qd rfl) (Ca (Gc Fm rfl) (Vd (Ij isAgg25 rfl hF.F 0 rfl rfl) (Ca (Hb rfl) ?_))))
 obtain ⟨A_, c_, B__, e_, heq_, -, -, hK_, hXs_⟩ := hX.tree_inv
 simp only [List.cons.injEq, Value.slice.injEq, true_and, and_true] at heq_
 obtain ⟨⟨rfl, rfl⟩, rfl, rfl⟩ := heq_
 obtain ⟨ad0, hA0, hk0, hx0⟩ := hK_.str_elem (i := j) by_Om
 refine Ia (v := .pointer (some (ad0.add (j * 1)))) (Pa (i := (j : Int)) Wx rfl hA0 rfl by_Om by_Om) (Ia (v := .string (bs (ks[j]))) (Wa isAgg9 rfl hk0) ?_)
 refine Eb (Vy _ B pb m ind s hB.bd (hG.wrote hF.same h8 hBd.le) h8 ks[j] (hok.2.1 _ (List.getElem_mem hjk)) by_Om) (Mb TD rfl rfl rfl) ?_
 rintro _ w ⟨rfl, hBd2, hE⟩
 replace hF := hF.wrote hB hE (by simp [Ci, nb1])
 replace hX := hX.off hE
 replace hB := hB.wrote hBd2 hE
 clear hBd2 hE
 refine Cc (Ca (Qd rfl) (Ca (Cf rfl) (Ca (Gc Wg rfl) ?_)))
 refine Eb (Xf hB.bd 58 Ta Ta (by rw [List.length_append]; omega)) (Mb Pl rfl rfl rfl) ?_
 rintro _ w ⟨rfl, hBd2, hE⟩
 replace hF := hF.wrote hB hE (by simp [Ci, nb1])
 replace hX := hX.off hE
 replace hB := hB.wrote hBd2 hE
 clear hBd2 hE
 refine Fa (Ja (Ma (Ca (Qd rfl) (Ca (Cf rfl) (Ca (Gc R4 rfl) (Ia (v := .bool (m)) (Wa isAgg4 rfl hB.bd.mul) (Fa ?_)))))))
 refine Ik rfl rfl (fun hc0 => ?_) (fun hc0 => ?_)
 refine Ea (Ca (Qd rfl) (Ca (Cf rfl) (Ca (Gc Wg rfl) ?_)))
 refine Eb (Xf hB.bd 32 Ta Ta (by simp only [List.length_append, List.length_cons, List.length_nil]; (first | rw [if_pos hc0] at hl | rw [if_neg (by simp [hc0])] at hl); simp only [List.length_cons, List.length_nil] at hl; omega)) (Mb Pl rfl rfl rfl) ?_
 rintro _ w ⟨rfl, hBd2, hE⟩
 replace hF := hF.wrote hB hE (by simp [Ci, nb1])
 replace hX := hX.off hE
 replace hB := hB.wrote hBd2 hE
 clear hBd2 hE
 refine Fa (Ea (Ca (Qd rfl) (Ca (Gc Xe rfl) (Vd (Ij isAgg22 rfl hF.F 0 rfl rfl) (Ca (Hb rfl) ?_)))))
 obtain ⟨A_, c_, B__, e_, heq_, -, -, hK_, hXs_⟩ := hX.tree_inv
 simp only [List.cons.injEq, Value.slice.injEq, true_and, and_true] at heq_
 obtain ⟨⟨rfl, rfl⟩, rfl, rfl⟩ := heq_
 obtain ⟨ad1, cs1, hA1, hl1, hk1, hx1⟩ := hXs_.tree_elem (i := j) by_Om
 have ho1 := hx1.one_
 refine Ia (v := .pointer (some (ad1.add (j * 4)))) (Pa (i := (j : Int)) Do rfl hA1 rfl by_Om by_Om) (Ia (v := .agg (List.toArray cs1)) (Ic (l := cs1) isAgg27 sizeOf27 rfl hl1 hk1) (Ca (Hb rfl) ?_))
 refine Eb (hv xs[j] (List.getElem_mem hj) m ind d _ B pb _ _ hB.bd (hG.wrote hF.same h8 hBd.le) h8 hx1 (Us hok.2.2 _ (List.getElem_mem hj)) ((Ng hn).2 _ (List.getElem_mem hj)) (by have h1 := Vf (List.getElem_mem hj); exact Nat.le_trans (Nat.mul_le_mul_left ind by_Om) hd) (by have h1 := Vf (List.getElem_mem hj); omega) (by simp only [List.length_append, List.length_cons, List.length_nil]; (first | rw [if_pos hc0] at hl | rw [if_neg (by simp [hc0])] at hl); simp only [List.length_cons, List.length_nil] at hl; omega)) (Bc X1 rfl rfl rfl rfl) ?_
 rintro _ w ⟨rfl, hBd2, hE⟩
 replace hF := hF.wrote hB hE (by simp [Ci, nb1])
 replace hX := hX.off hE
 replace hB := hB.wrote hBd2 hE
 clear hBd2 hE
 refine Fb ?_
 refine Td (Nc (Ve rfl) ?_)
 exact ⟨rfl, by simpa [M6, hc0] using hB.bd, hF.same⟩
 refine Cb (Ha (Ea (Ca (Qd rfl) (Ca (Gc Xe rfl) (Vd (Ij isAgg22 rfl hF.F 0 rfl rfl) (Ca (Hb rfl) ?_))))))
 obtain ⟨A_, c_, B__, e_, heq_, -, -, hK_, hXs_⟩ := hX.tree_inv
 simp only [List.cons.injEq, Value.slice.injEq, true_and, and_true] at heq_
 obtain ⟨⟨rfl, rfl⟩, rfl, rfl⟩ := heq_
 obtain ⟨ad2, cs2, hA2, hl2, hk2, hx2⟩ := hXs_.tree_elem (i := j) by_Om
 have ho2 := hx2.one_
 refine Ia (v := .pointer (some (ad2.add (j * 4)))) (Pa (i := (j : Int)) Do rfl hA2 rfl by_Om by_Om) (Ia (v := .agg (List.toArray cs2)) (Ic (l := cs2) isAgg27 sizeOf27 rfl hl2 hk2) (Ca (Hb rfl) ?_))
 refine Eb (hv xs[j] (List.getElem_mem hj) m ind d _ B pb _ _ hB.bd (hG.wrote hF.same h8 hBd.le) h8 hx2 (Us hok.2.2 _ (List.getElem_mem hj)) ((Ng hn).2 _ (List.getElem_mem hj)) (by have h1 := Vf (List.getElem_mem hj); exact Nat.le_trans (Nat.mul_le_mul_left ind by_Om) hd) (by have h1 := Vf (List.getElem_mem hj); omega) (by simp only [List.length_append, List.length_cons, List.length_nil]; (first | rw [if_pos hc0] at hl | rw [if_neg (by simp [hc0])] at hl); simp only [List.length_cons, List.length_nil] at hl; omega)) (Bc X1 rfl rfl rfl rfl) ?_
 rintro _ w ⟨rfl, hBd2, hE⟩
 replace hF := hF.wrote hB hE (by simp [Ci, nb1])
 replace hX := hX.off hE
 replace hB := hB.wrote hBd2 hE
 clear hBd2 hE
 refine Fb ?_
 refine Td (Nc (Ve rfl) ?_)
 exact ⟨rfl, by simpa [M6, hc0] using hB.bd, hF.same⟩
end Go.Scarf
namespace Go.Scarf
open Go.RowKit Go.Proofs Go.Proofs.Tryz
theorem KB (m : Bool) (ind d : Nat) (b : Bool) : Bm m ind d b [] = [] := by cases b <;> rfl
theorem V8 (f : Nat) (hen : Jb prog f) (k : Int) (t : Str) (ks : List Str) (xs : List Tree) (m : Bool) (ind d : Nat) (bo bc : UInt8) (ps : List Str) (hps : ps.length = xs.length) (hI : ZL f k t ks xs m ind (d + 1) ps) (w0 : World) (B pb : Nat) (s : Str) (A B_ : Option Addr) (c e : Nat) (hBd : Bd w0 B pb 161 [.bool m, .int .i64 (ind : Int)] s) (hG : Gl w0) (h8 : 7 ≤ B) (hX : Rep (fun b => b ∉ Wk w0 B pb) w0 (Ed (.node k t ks xs)) [.int .i64 k, .string (bs t), .slice A ks.length c, .slice B_ xs.length e]) (hd1 : ind * (d + 1) ≤ 1000000000) (hd2 : d + 1 ≤ 1000000000) (hxl : xs.length ≤ 9223372036854775807) (hlim : s.length + (Kl m ind d bo bc ps).length ≤ 140737488355328) : Lr 159 #[.pointer (some ⟨pb, 0, none⟩), .agg #[.int .i64 k, .string (bs t), .slice A ks.length c, .slice B_ xs.length e], .int .i64 (d : Int), .string (bs [bo, bc]), .func (.func f) #[.pointer (some ⟨pb, 0, none⟩)] #[]] (.tuple #[]) w0 B pb 161 [.bool m, .int .i64 (ind : Int)] (s ++ Kl m ind d bo bc ps) := by
 unfold Lr
 rw [Kl] at hlim
 simp only [List.length_append, List.length_cons, List.length_nil] at hlim
 refine Ka func159 rfl ntmps159 Gb (W7 _ _ _ _ _) ?_
 have hB := BW.start hBd
 have hF := FR.start w0 (Wk w0 B pb)
 refine Ma ?_
 refine Kk hF rfl ?_
 clear hF; intro b1 w hb1 hF hE
 have nb1 : b1 ≠ pb := by have := hB.lt; omega
 replace hX := hX.off_ext hB.lt hE
 replace hB := hB.ext hE
 clear hE
 refine Fa (Ja ?_)
 refine Yc [] (.free 0 (.free 1 (.free 2 (.free 3 (.free 4 (.act 5 .nil)))))) hF ?_
 clear hF; intro w hF hE
 replace hX := hX.off_ext hB.lt hE
 replace hB := hB.ext hE
 clear hE
 refine ⟨fun wq => FR w0 (Wk w0 B pb) _ wq, hF, ?_⟩
 refine Xa rfl (Qd rfl) (Xa rfl (Cf rfl) (Xa rfl (Gc Wg rfl) (Xa rfl (Bf rfl) ?_)))
 refine Qa rfl (v := .int .u8 (((bo.toNat : Nat) : Int))) (fun w hC => Ih (s := [bo, bc]) 0 underlying9 rfl rfl Ga) ?_
 refine Ce rfl (Yl hB.bd bo by_Om) (Mb Pl rfl rfl rfl) ?_
 rintro _ w ⟨rfl, hBd2, hE⟩
 replace hF := hF.wrote hB hE (by simp [Ci, nb1])
 replace hX := hX.off hE
 replace hB := hB.wrote hBd2 hE
 clear hBd2 hE
 refine ⟨hF, ?_⟩
 refine Ac (Ha (Ja (Ma (Ca (Gc Xe rfl) (Vd (Ij isAgg22 rfl hF.F 0 rfl rfl) (Ca (Lf underlying22 rfl) (Ca (Hb rfl) (Fa (Ya ?_)))))))))
 refine Uc (fun μ σ w => ∃ (j : Nat), ∃ (o : Str), μ = xs.length - j ∧ (j ≤ xs.length) ∧ (o ++ Bm m ind d (decide (j = 0)) (ps.drop j) = s ++ ([bo] ++ Bm m ind d true ps)) ∧ (BW w0 (Wk w0 B pb) w B pb 161 [.bool m, .int .i64 (ind : Int)] (o)) ∧ (Rep (fun b => b ∉ Wk w B pb) w (Ed (.node k t ks xs)) [.int .i64 k, .string (bs t), .slice A ks.length c, .slice B_ xs.length e]) ∧ AllEq σ [(0, .pointer (some ⟨pb, 0, none⟩)), (2, .int .i64 ((d : Int))), (3, .string (bs ([bo, bc]))), (4, .func (.func f) #[.pointer (some ⟨pb, 0, none⟩)] #[]), (6, .pointer (some ⟨b1, 0, none⟩)), (19, .int .i64 ((xs.length : Nat))), (20, .int .i64 ((j : Int)))] ∧ FR w0 (Wk w0 B pb) [(b1, .cells #[.int .i64 k, .string (bs t), .slice A ks.length c, .slice B_ xs.length e] 27)] w) _ ⟨0, s ++ [bo], rfl, (Nat.zero_le _), Ga, (hB), (hX), ZG, hF⟩ ?_
 clear hF; rintro μ σ w ⟨j, o, rfl, hj, hq, hB, hX, hs, hF⟩
 refine Cg.slots hs ?_
 clear hs; intro σ
 refine Ma (Ca (Yk rfl rfl) (Fa (Ja ?_)))
 refine Kc rfl rfl (fun hc0 => ?_) (fun hc0 => ?_)
 have hjp : j < ps.length := by omega
 have hjd := T_ m ind d hjp
 have hL := congrArg List.length hq
 rw [hjd] at hL
 have hif : (if j = 0 then ([] : Str) else [44]).length = if j = 0 then 0 else 1 := by split <;> rfl
 simp only [List.length_append, List.length_cons, List.length_nil, hif] at hL
 refine Cb (Ha (Ja (Ya (Ma (Ca (Hb rfl) (Ca (Pc rfl) (Fa (Ja (Ma (Ca (Hb rfl) ?_))))))))))
 refine Ca (Ey rfl rfl) (Fa ?_)
 refine Kc rfl rfl (fun hc1 => ?_) (fun hc1 => ?_)
 refine Ea (Ca (Qd rfl) (Ca (Cf rfl) (Ca (Gc Wg rfl) ?_)))
 refine Eb (Xf hB.bd 44 Ta Ta (by rw [if_neg by_Om] at hL; omega)) (Mb Pl rfl rfl rfl) ?_
 rintro _ w ⟨rfl, hBd2, hE⟩
 replace hF := hF.wrote hB hE (by simp [Ci, nb1])
 replace hX := hX.off hE
 replace hB := hB.wrote hBd2 hE
 clear hBd2 hE
 refine Cc (Ca (Qd rfl) (Ca (Hb rfl) (Ca (Di (((d + 1 : Nat) : Int)) rfl rfl) ?_)))
 refine Eb (H8 _ B pb m ind _ hB.bd (d + 1) hd1 (by (try simp only [List.length_append, List.length_cons, List.length_nil]); first | (rw [if_neg by_Om] at hL; omega) | (rw [if_pos by_Om] at hL; omega))) (Mb Z7 rfl rfl rfl) ?_
 rintro _ w ⟨rfl, hBd2, hE⟩
 replace hF := hF.wrote hB hE (by simp [Ci, nb1])
 replace hX := hX.off hE
 replace hB := hB.wrote hBd2 hE
 clear hBd2 hE
 refine Fa (Ea (Ca (F6) (Vd (El isAgg27 sizeOf27 rfl hF.F 0 rfl rfl) (Ca (Hb rfl) (Ca (Hb rfl) (Ca (Di (((d + 1 : Nat) : Int)) rfl rfl) ?_))))))
 refine Eb (hI j hjp _ B pb _ A B_ c e hB.bd (hG.wrote hF.same h8 hBd.le) h8 hX (by (try simp only [List.length_append, List.length_cons, List.length_nil]); first | (rw [if_neg by_Om] at hL; omega) | (rw [if_pos by_Om] at hL; omega))) (O5 rfl hen rfl rfl rfl rfl) ?_
 rintro _ w ⟨rfl, hBd2, hE⟩
 replace hF := hF.wrote hB hE (by simp [Ci, nb1])
 replace hX := hX.off hE
 replace hB := hB.wrote hBd2 hE
 clear hBd2 hE
 replace hB : BW w0 (Wk w0 B pb) w B pb 161 [.bool m, .int .i64 (ind : Int)] (o ++ ((if j = 0 then [] else [44]) ++ (Rl m ind (d + 1) ++ ps[j]))) := by first | (have h0 : ¬ j = 0 := by_Om; rw [if_neg h0]; simpa using hB) | (have h0 : j = 0 := by_Om; rw [if_pos h0]; simpa using hB)
 refine Fb (Kb (Ha (Ea (Ca (To rfl rfl) (Ca (Hb rfl) (Fb ?_))))))
 refine Dc ⟨_, ?_, j + 1, o ++ ((if j = 0 then [] else [44]) ++ (Rl m ind (d + 1) ++ ps[j])), rfl, by_Om, (by have h := hq; rw [hjd] at h; simpa [List.append_assoc] using h), (hB), (hX), ZG, hF⟩
 omega
 refine Cb (Ha (Ma (Ca (Qd rfl) (Ca (Hb rfl) (Ca (Di (((d + 1 : Nat) : Int)) rfl rfl) ?_)))))
 refine Eb (H8 _ B pb m ind _ hB.bd (d + 1) hd1 (by (try simp only [List.length_append, List.length_cons, List.length_nil]); first | (rw [if_neg by_Om] at hL; omega) | (rw [if_pos by_Om] at hL; omega))) (Mb Z7 rfl rfl rfl) ?_
 rintro _ w ⟨rfl, hBd2, hE⟩
 replace hF := hF.wrote hB hE (by simp [Ci, nb1])
 replace hX := hX.off hE
 replace hB := hB.wrote hBd2 hE
 clear hBd2 hE
 refine Fa (Ea (Ca (F6) (Vd (El isAgg27 sizeOf27 rfl hF.F 0 rfl rfl) (Ca (Hb rfl) (Ca (Hb rfl) (Ca (Di (((d + 1 : Nat) : Int)) rfl rfl) ?_))))))
 refine Eb (hI j hjp _ B pb _ A B_ c e hB.bd (hG.wrote hF.same h8 hBd.le) h8 hX (by (try simp only [List.length_append, List.length_cons, List.length_nil]); first | (rw [if_neg by_Om] at hL; omega) | (rw [if_pos by_Om] at hL; omega))) (O5 rfl hen rfl rfl rfl rfl) ?_
 rintro _ w ⟨rfl, hBd2, hE⟩
 replace hF := hF.wrote hB hE (by simp [Ci, nb1])
 replace hX := hX.off hE
 replace hB := hB.wrote hBd2 hE
 clear hBd2 hE
 replace hB : BW w0 (Wk w0 B pb) w B pb 161 [.bool m, .int .i64 (ind : Int)] (o ++ ((if j = 0 then [] else [44]) ++ (Rl m ind (d + 1) ++ ps[j]))) := by first | (have h0 : ¬ j = 0 := by_Om; rw [if_neg h0]; simpa using hB) | (have h0 : j = 0 := by_Om; rw [if_pos h0]; simpa using hB)
 refine Fb (Kb (Ha (Ea (Ca (To rfl rfl) (Ca (Hb rfl) (Fb ?_))))))
 refine Dc ⟨_, ?_, j + 1, o ++ ((if j = 0 then [] else [44]) ++ (Rl m ind (d + 1) ++ ps[j])), rfl, by_Om, (by have h := hq; rw [hjd] at h; simpa [List.append_assoc] using h), (hB), (hX), ZG, hF⟩
 omega
 have hq2 : o = s ++ ([bo] ++ Bm m ind d true ps) := by have h := hq; rw [List.drop_eq_nil_of_le by_Om, KB, List.append_nil] at h; exact h
 refine Lc (Jc rfl ?_)
 refine Ha (Ja (Ma (Ca (Gc Xe rfl) (Vd (Ij isAgg22 rfl hF.F 0 rfl rfl) (Ca (Lf underlying22 rfl) (Ca (Ey rfl rfl) (Fa ?_)))))))
 refine Kc rfl rfl (fun hc2 => ?_) (fun hc2 => ?_)
 have hpn : ps ≠ [] := by intro hp; rw [hp] at hps; simp at hps; omega
 refine Ea (Ca (Qd rfl) (Ca (Hb rfl) ?_))
 refine Eb (H8 _ B pb m ind _ hB.bd d (Nat.le_trans (Nat.mul_le_mul_left ind by_Om) hd1) (by have hp : ps ≠ [] := (by intro hp; rw [hp] at hps; simp at hps; omega); rw [if_neg hp] at hlim; rw [hq2]; (try simp only [List.length_append, List.length_cons, List.length_nil]); omega)) (Mb Z7 rfl rfl rfl) ?_
 rintro _ w ⟨rfl, hBd2, hE⟩
 replace hF := hF.wrote hB hE (by simp [Ci, nb1])
 replace hX := hX.off hE
 replace hB := hB.wrote hBd2 hE
 clear hBd2 hE
 refine Fa ?_
 refine Yc [] (.free 0 (.free 1 (.free 2 (.free 3 (.free 4 (.act 5 .nil)))))) hF ?_
 clear hF; intro w hF hE
 replace hX := hX.off_ext hB.lt hE
 replace hB := hB.ext hE
 clear hE
 refine ⟨fun wq => FR w0 (Wk w0 B pb) _ wq, hF, ?_⟩
 refine Xa rfl (Qd rfl) (Xa rfl (Cf rfl) (Xa rfl (Gc Wg rfl) (Xa rfl (Bf rfl) ?_)))
 refine Qa rfl (v := .int .u8 (((bc.toNat : Nat) : Int))) (fun w hC => Ih (s := [bo, bc]) 1 underlying9 rfl rfl Ga) ?_
 refine Ce rfl (Yl hB.bd bc (by rw [hq2]; (try simp only [List.length_append, List.length_cons, List.length_nil]); first | (rw [if_neg hpn] at hlim; omega) | omega)) (Mb Pl rfl rfl rfl) ?_
 rintro _ w ⟨rfl, hBd2, hE⟩
 replace hF := hF.wrote hB hE (by simp [Ci, nb1])
 replace hX := hX.off hE
 replace hB := hB.wrote hBd2 hE
 clear hBd2 hE
 refine ⟨hF, ?_⟩
 refine Ac ?_
 refine Td (Nc (Ve rfl) ?_)
 refine ⟨rfl, ?_, hF.same⟩
 have hb := hB.bd
 rw [hq2] at hb
 rw [Kl, if_neg hpn]
 simpa [List.append_assoc] using hb
 have hpz : ps = [] := List.eq_nil_of_length_eq_zero by_Om
 refine Cb (Ha ?_)
 refine Yc [] (.free 0 (.free 1 (.free 2 (.free 3 (.free 4 (.act 5 .nil)))))) hF ?_
 clear hF; intro w hF hE
 replace hX := hX.off_ext hB.lt hE
 replace hB := hB.ext hE
 clear hE
 refine ⟨fun wq => FR w0 (Wk w0 B pb) _ wq, hF, ?_⟩
 refine Xa rfl (Qd rfl) (Xa rfl (Cf rfl) (Xa rfl (Gc Wg rfl) (Xa rfl (Bf rfl) ?_)))
 refine Qa rfl (v := .int .u8 (((bc.toNat : Nat) : Int))) (fun w hC => Ih (s := [bo, bc]) 1 underlying9 rfl rfl Ga) ?_
 refine Ce rfl (Yl hB.bd bc (by rw [hq2]; (try simp only [List.length_append, List.length_cons, List.length_nil]); first | (rw [if_neg hpn] at hlim; omega) | omega)) (Mb Pl rfl rfl rfl) ?_
 rintro _ w ⟨rfl, hBd2, hE⟩
 replace hF := hF.wrote hB hE (by simp [Ci, nb1])
 replace hX := hX.off hE
 replace hB := hB.wrote hBd2 hE
 clear hBd2 hE
 refine ⟨hF, ?_⟩
 refine Ac ?_
 refine Td (Nc (Ve rfl) ?_)
 refine ⟨rfl, ?_, hF.same⟩
 have hb := hB.bd
 rw [hq2] at hb
 rw [Kl, if_pos hpz]
 simpa [List.append_assoc] using hb
theorem C8 (k : Int) (t : Str) (ks : List Str) (xs : List Tree) (ih : ∀ x ∈ xs, HD x) (m : Bool) (ind d : Nat) (w0 : World) (B pb : Nat) (s : Str) (A B_ : Option Addr) (c e : Nat) (hBd : Bd w0 B pb 161 [.bool m, .int .i64 (ind : Int)] s) (hG : Gl w0) (h8 : 7 ≤ B) (hX : Rep (fun b => b ∉ Wk w0 B pb) w0 (Ed (.node k t ks xs)) [.int .i64 k, .string (bs t), .slice A ks.length c, .slice B_ xs.length e]) (hok : F_ (.node k t ks xs)) (hn : Xd nodeB (.node k t ks xs) = true) (hd : ind * (d + Hd (.node k t ks xs)) ≤ 1000000000) (hd2 : d + Hd (.node k t ks xs) ≤ 1000000000) (hxl : xs.length ≤ 9223372036854775807) (hl : s.length + (Ni m ind (.node k t ks xs) d).length ≤ 140737488355328) : Lr 126 #[.pointer (some ⟨pb, 0, none⟩), .agg #[.int .i64 k, .string (bs t), .slice A ks.length c, .slice B_ xs.length e], .int .i64 (d : Int)] (.tuple #[]) w0 B pb 161 [.bool m, .int .i64 (ind : Int)] (s ++ Ni m ind (.node k t ks xs) d) := by
 unfold Lr
 refine Ka func126 rfl ntmps126 Gb (Pi _ _ _) ?_
 have hB := BW.start hBd
 have hF := FR.start w0 (Wk w0 B pb)
 refine Ma ?_
 refine Kk hF rfl ?_
 clear hF; intro b1 w hb1 hF hE
 have nb1 : b1 ≠ pb := by have := hB.lt; omega
 replace hX := hX.off_ext hB.lt hE
 replace hB := hB.ext hE
 clear hE
 refine Cc (Ca (Gc An rfl) (Vd (At isAgg3 rfl hF.F 0 rfl rfl) (Fa (Ya (Ma (Ca (Ho rfl rfl) (Ca (Hc rfl) (Fb ?_))))))))
 refine Ha ?_
 refine Kc rfl rfl (fun hc0 => ?_) (fun hc0 => ?_)
 refine Ea (Ca (Qd rfl) (Ca (Cf rfl) (Ca (Gc Wg rfl) ?_)))
 have hkk_ : k = 1 := by omega
 refine Eb (Ii hB.bd [110, 117, 108, 108] (by rw [Ni, if_pos hkk_] at hl; exact hl)) (Mb Bw rfl rfl rfl) ?_
 rintro _ w ⟨rfl, hBd2, hE⟩
 replace hF := hF.wrote hB hE (by simp [Ci, nb1])
 replace hX := hX.off hE
 replace hB := hB.wrote hBd2 hE
 clear hBd2 hE
 refine Fb (Kb ?_)
 refine Td (Nc (Ve rfl) ?_)
 refine ⟨rfl, ?_, hF.same⟩
 rw [Ni]
 first | (rw [if_pos hkk_]; exact hB.bd) | (rw [if_neg by_Om, if_pos hkk_]; exact hB.bd) | (rw [if_neg by_Om, if_neg by_Om, if_pos hkk_]; exact hB.bd) | (rw [if_neg by_Om, if_neg by_Om, if_neg by_Om, if_pos hkk_]; exact hB.bd) | (rw [if_neg by_Om, if_neg by_Om, if_neg by_Om, if_neg by_Om]; exact hB.bd)
 refine Ma (Ca (Ho rfl rfl) (Ca (Hc rfl) (Fa ?_)))
 refine Kc rfl rfl (fun hc1 => ?_) (fun hc1 => ?_)
 refine Ea (Ca (Qd rfl) (Ca (Gc Wi rfl) (Vd (Yx isAgg9 rfl hF.F 0 rfl rfl) ?_)))
 have hkk_ : k = 4 := by omega
 refine Eb (Vy _ B pb m ind s hB.bd (hG.wrote hF.same h8 hBd.le) h8 t (by rw [F_] at hok; exact hok.1) (by rw [Ni, if_neg by_Om, if_pos hkk_] at hl; exact hl)) (Mb TD rfl rfl rfl) ?_
 rintro _ w ⟨rfl, hBd2, hE⟩
 replace hF := hF.wrote hB hE (by simp [Ci, nb1])
 replace hX := hX.off hE
 replace hB := hB.wrote hBd2 hE
 clear hBd2 hE
 refine Fb (Kb ?_)
 refine Td (Nc (Ve rfl) ?_)
 refine ⟨rfl, ?_, hF.same⟩
 rw [Ni]
 first | (rw [if_pos hkk_]; exact hB.bd) | (rw [if_neg by_Om, if_pos hkk_]; exact hB.bd) | (rw [if_neg by_Om, if_neg by_Om, if_pos hkk_]; exact hB.bd) | (rw [if_neg by_Om, if_neg by_Om, if_neg by_Om, if_pos hkk_]; exact hB.bd) | (rw [if_neg by_Om, if_neg by_Om, if_neg by_Om, if_neg by_Om]; exact hB.bd)
 refine Ma (Ca (Ho rfl rfl) (Ca (Hc rfl) (Fa ?_)))
 refine Kc rfl rfl (fun hc2 => ?_) (fun hc2 => ?_)
 refine Ea (Ca (Qd rfl) (Vd (El isAgg27 sizeOf27 rfl hF.F 0 rfl rfl) (Ca (Hb rfl) (Ca (Qd rfl) (Ia (v := .func (.func 160) #[.pointer (some ⟨pb, 0, none⟩)] #[]) (Ss rfl) ?_)))))
 have hkk_ : k = 5 := by omega
 refine Eb (V8 160 RI k t ks xs m ind d 91 93 (Mo m ind xs (d + 1)) (by rw [Xr, List.length_map]) (fun j hj w1 B1 p1 s1 A1 B1_ c1 e1 hb1_ hg1 h81 hx1 hl1 => by have hj2 : j < xs.length := (by rw [Xr, List.length_map] at hj; exact hj); have hg : (Mo m ind xs (d + 1))[j] = Ni m ind xs[j] (d + 1) := (by simp only [Xr, List.getElem_map]); rw [hg] at hl1 ⊢; exact MI k t ks xs m ind (d + 1) j hj2 w1 B1 p1 s1 A1 B1_ c1 e1 hb1_ hg1 h81 hx1 ih hok hn (by rw [Hd] at hd; exact Nat.le_trans (Nat.mul_le_mul_left ind by_Om) hd) (by rw [Hd] at hd2; omega) hl1) _ B pb s A B_ c e hB.bd (hG.wrote hF.same h8 hBd.le) h8 hX (by have h1 := hd; rw [Hd] at h1; exact Nat.le_trans (Nat.mul_le_mul_left ind by_Om) h1) (by rw [Hd] at hd2; omega) hxl (by rw [Ni] at hl; simpa [hkk_] using hl)) (Bs JC rfl rfl rfl rfl rfl rfl) ?_
 rintro _ w ⟨rfl, hBd2, hE⟩
 replace hF := hF.wrote hB hE (by simp [Ci, nb1])
 replace hX := hX.off hE
 replace hB := hB.wrote hBd2 hE
 clear hBd2 hE
 refine Fb (Kb ?_)
 refine Td (Nc (Ve rfl) ?_)
 refine ⟨rfl, ?_, hF.same⟩
 rw [Ni]
 first | (rw [if_pos hkk_]; exact hB.bd) | (rw [if_neg by_Om, if_pos hkk_]; exact hB.bd) | (rw [if_neg by_Om, if_neg by_Om, if_pos hkk_]; exact hB.bd) | (rw [if_neg by_Om, if_neg by_Om, if_neg by_Om, if_pos hkk_]; exact hB.bd) | (rw [if_neg by_Om, if_neg by_Om, if_neg by_Om, if_neg by_Om]; exact hB.bd)
 refine Ma (Ca (Ho rfl rfl) (Ca (Hc rfl) (Fa ?_)))
 refine Kc rfl rfl (fun hc3 => ?_) (fun hc3 => ?_)
 refine Ea (Ca (Qd rfl) (Vd (El isAgg27 sizeOf27 rfl hF.F 0 rfl rfl) (Ca (Hb rfl) (Ca (Qd rfl) (Ia (v := .func (.func 161) #[.pointer (some ⟨pb, 0, none⟩)] #[]) (Ss rfl) ?_)))))
 have hkk_ : k = 6 := by omega
 have hkl : ks.length = xs.length := (Nq (hkk_ ▸ (Ng hn).1)).2
 refine Eb (V8 161 ZJ k t ks xs m ind d 123 125 (Ml m ind xs ks (d + 1)) (by rw [Dn]) (fun j hj w1 B1 p1 s1 A1 B1_ c1 e1 hb1_ hg1 h81 hx1 hl1 => by have hj2 : j < xs.length := (by rw [Dn] at hj; exact hj); have hg := H0 m ind (d + 1) xs ks j hj2 by_Om hj; rw [hg] at hl1 ⊢; exact PB k t ks xs m ind (d + 1) j hj2 by_Om w1 B1 p1 s1 A1 B1_ c1 e1 hb1_ hg1 h81 hx1 ih hok hn (by rw [Hd] at hd; exact Nat.le_trans (Nat.mul_le_mul_left ind by_Om) hd) (by rw [Hd] at hd2; omega) hl1) _ B pb s A B_ c e hB.bd (hG.wrote hF.same h8 hBd.le) h8 hX (by have h1 := hd; rw [Hd] at h1; exact Nat.le_trans (Nat.mul_le_mul_left ind by_Om) h1) (by rw [Hd] at hd2; omega) hxl (by rw [Ni] at hl; simpa [hkk_] using hl)) (Bs JC rfl rfl rfl rfl rfl rfl) ?_
 rintro _ w ⟨rfl, hBd2, hE⟩
 replace hF := hF.wrote hB hE (by simp [Ci, nb1])
 replace hX := hX.off hE
 replace hB := hB.wrote hBd2 hE
 clear hBd2 hE
 refine Fb (Kb ?_)
 refine Td (Nc (Ve rfl) ?_)
 refine ⟨rfl, ?_, hF.same⟩
 rw [Ni]
 first | (rw [if_pos hkk_]; exact hB.bd) | (rw [if_neg by_Om, if_pos hkk_]; exact hB.bd) | (rw [if_neg by_Om, if_neg by_Om, if_pos hkk_]; exact hB.bd) | (rw [if_neg by_Om, if_neg by_Om, if_neg by_Om, if_pos hkk_]; exact hB.bd) | (rw [if_neg by_Om, if_neg by_Om, if_neg by_Om, if_neg by_Om]; exact hB.bd)
 refine Yc [] (.free 0 (.free 1 (.free 2 (.free 3 (.free 4 (.act 5 .nil)))))) hF ?_
 clear hF; intro w hF hE
 replace hX := hX.off_ext hB.lt hE
 replace hB := hB.ext hE
 clear hE
 refine ⟨fun wq => FR w0 (Wk w0 B pb) _ wq, hF, ?_⟩
 refine Xa rfl (Qd rfl) (Xa rfl (Cf rfl) (Xa rfl (Gc Wg rfl) (Xa rfl (Gc Wi rfl) (Jo rfl (Yx isAgg9 rfl C0 0 rfl rfl) ?_))))
 refine Ce rfl (Ii hB.bd t (by rw [Ni, if_neg by_Om, if_neg by_Om, if_neg by_Om, if_neg by_Om] at hl; exact hl)) (Mb Bw rfl rfl rfl) ?_
 rintro _ w ⟨rfl, hBd2, hE⟩
 replace hF := hF.wrote hB hE (by simp [Ci, nb1])
 replace hX := hX.off hE
 replace hB := hB.wrote hBd2 hE
 clear hBd2 hE
 refine ⟨hF, ?_⟩
 refine Ac (Kb ?_)
 refine Td (Nc (Ve rfl) ?_)
 refine ⟨rfl, ?_, hF.same⟩
 rw [Ni]
 first | (rw [if_pos hkk_]; exact hB.bd) | (rw [if_neg by_Om, if_pos hkk_]; exact hB.bd) | (rw [if_neg by_Om, if_neg by_Om, if_pos hkk_]; exact hB.bd) | (rw [if_neg by_Om, if_neg by_Om, if_neg by_Om, if_pos hkk_]; exact hB.bd) | (rw [if_neg by_Om, if_neg by_Om, if_neg by_Om, if_neg by_Om]; exact hB.bd)
theorem BG (x : Tree) : HD x := Tree.ind (Q := HD) (fun k t ks xs ih m ind d w0 B pb s cs hBd hG h8 hX hok hn hd hd2 hl => by
  obtain ⟨A, c, B_, e, rfl, -, -, -, hXs⟩ := hX.tree_inv
  have h1 := hXs.slice_len
  exact C8 k t ks xs ih m ind d w0 B pb s A B_ c e hBd hG h8 hX hok hn hd hd2 by_Om hl) x
end Go.Scarf
namespace Go.Scarf
open Go.RowKit Go.Proofs Go.Proofs.Tryz
theorem P6 {t : Str} (h : Wm t = true) : t ≠ [] := by
  rintro rfl
  revert h
  decide
theorem QF (m : Bool) (ind : Nat) (x : Tree) (d : Nat) (h : Wd x = true) : Ni m ind x d ≠ [] := by
  obtain ⟨k, t, ks, xs⟩ := x
  unfold Wd at h
  rw [Bool.and_eq_true] at h
  have h1 := (Ng h.2).1
  unfold rnodeB at h1
  rw [Bool.and_eq_true, decide_eq_true_eq] at h1
  obtain ⟨h7, h1⟩ := h1
  have h7' : k ≠ 7 := h7
  rw [Ni]
  split
  · simp
  split
  · rename_i h4
    subst h4
    simp [nodeB] at h1
    rw [qS, if_pos h1.2]; simp [Kx]
  split
  · simp [Kl]
  split
  · simp [Kl]
  · rename_i g1 g4 g5 g6
    simp only [nodeB, if_neg g5, if_neg g6, if_neg g1, if_neg g4, if_neg h7'] at h1
    split at h1
    · cases h1
    split at h1
    · rw [Bool.or_eq_true, decide_eq_true_eq, decide_eq_true_eq] at h1
      rcases h1 with rfl | rfl <;> simp
    split at h1
    · exact P6 h1
    · cases h1
theorem HA {x : Tree} (h : Wd x = true) : Xd nodeB x = true := by
  unfold Wd at h
  rw [Bool.and_eq_true] at h
  refine Tree.ind (Q := fun x => Xd rnodeB x = true → Xd nodeB x = true) (fun k t ks xs ih h => ?_) x h.2
  rw [Xd, Bool.and_eq_true] at h ⊢
  have h1 := h.1
  unfold rnodeB at h1
  rw [Bool.and_eq_true] at h1
  refine ⟨h1.2, ?_⟩
  have key : ∀ ys : List Tree, (∀ y ∈ ys, y ∈ xs) → Qm rnodeB ys = true → Qm nodeB ys = true := by
    intro ys
    induction ys with
    | nil => intro _ _; rfl
    | cons y ys ihy =>
      intro hm hs
      rw [Qm, Bool.and_eq_true] at hs ⊢
      exact ⟨ih y (hm y Ga) hs.1, ihy (fun z hz => hm z (by simp [hz])) hs.2⟩
  exact key xs (fun _ h => h) h.2
theorem Wu {x : Tree} (h : Wd x = true) : Hd x ≤ 32 := by
  unfold Wd Wn at h
  simp only [Bool.and_eq_true, decide_eq_true_eq] at h
  exact h.1.2
theorem CB (x : Tree) (S : Nat → Prop) (w0 : World) (cs : List Value) (rx : Rep S w0 (Ed x) cs) (hG : Gl w0) (hk : Xx x) (hq : F_ x) (hsz : Qc x ≤ 1000000000) (hlim : Wd x = true → (Ni false 0 x 0).length ≤ 140737488355328) : Calls prog 99 #[.agg cs.toArray] w0 (Md fun v w' => v = (if Wd x = true then .tuple #[.string (bs (Ni false 0 x 0)), .int .i64 0] else .tuple #[.string (bs []), .int .i64 1]) ∧ Same [] w0 w') := by
 have hl : cs.length = 4 := rx.length.trans (Yd x)
 have ho := rx.one_
 refine Ka func99 rfl ntmps99 Gb (Dd _) ?_
 have hF := FR.start w0 []
 refine Ma ?_
 refine Qq (v := .agg (List.toArray cs)) (cs := (List.toArray cs)) hF rfl rfl ?_
 clear hF; rintro b1 w hb1 hF -
 refine Ca (Zi rfl) (Ca (Pc rfl) (Fa (Ja (Ma (Ia (v := .agg (List.toArray cs)) (Ic (l := cs) isAgg27 sizeOf27 rfl hl (hF.cellsAll 0 rfl)) ?_)))))
 refine Rb hF (J2 x by_Om _ _ _ (hF.rep rx) hk (hG.ext hF.same)) (Ob NE rfl rfl) ?_
 clear hF; intro w hF
 refine Ca (On rfl) (Fa ?_)
 refine Ik rfl rfl (fun hc0 => ?_) (fun hc0 => ?_)
 refine Ma (Ca (Zi rfl) (Ca (Pc rfl) (Fa ?_)))
 refine Xb (Wb (Va (Od (v := .string (bs [])) (x := .int .i64 1) rfl rfl rfl) ?_))
 exact ⟨by rw [if_neg (by simpa using hc0)], hF.same⟩
 refine Cb (Ha (Ma ?_))
 refine Lh (cs := #[.pointer none, .slice none 0 0, .bool false, .int .i64 0]) hF zeroValue161 rfl ?_
 clear hF; rintro b2 w hb2 hF -
 refine Cc (Ia (v := .agg (List.toArray cs)) (Ic (l := cs) isAgg27 sizeOf27 rfl hl (hF.cellsAll 1 rfl)) ?_)
 have hB : BW w0 [] w b2 b2 161 [.bool false, .int .i64 ((0 : Nat) : Int)] [] := BW.own ⟨.inr ⟨rfl, _, _, rfl⟩, Nat.le_refl _, _, _, hF.heap (i := 0) rfl, World.ownsRow_nil _ _ _ _, .inl rfl⟩ (hF.ge (i := 0) rfl) hF.same.size
 have nb1 : b1 ≠ b2 := Kg hF.desc (i := 1) (j := 0) rfl rfl Ta
 have hge := hF.ge (i := 0) rfl
 replace hF : FR w0 [] [(b1, .cells cs.toArray 27)] w := hF.drop 1
 have hXo : Rep (fun b => b ∉ Wk w b2 b2) w (Ed x) cs := (rx.old.same hF.same Ga).weaken fun b hb _ hm => by have h1 := hb.2; rcases We.1 hm with rfl | ⟨-, h2, -⟩ <;> omega
 refine Eb (BG x false 0 0 _ b2 b2 [] cs hB.bd (hG.ext hF.same) (by have := hG.size; omega) hXo hq (HA (by simpa using hc0)) by_Om (by have := Wu (x := x) (by simpa using hc0); omega) (by simpa using hlim (by simpa using hc0))) (Bc X1 rfl rfl rfl rfl) ?_
 rintro _ w ⟨rfl, hBd2, hE⟩
 replace hF := hF.wrote hB hE (by simp [Ci, nb1])
 replace hB := hB.wrote hBd2 hE
 clear hBd2 hE
 refine Cc (Ca (Gc Wg rfl) ?_)
 refine Eb (G3 hB.bd (by simpa using QF false 0 x 0 (by simpa using hc0))) (Ob EC rfl rfl) ?_
 rintro _ w ⟨rfl, hE⟩
 replace hF := hF.wrote hB hE (by simp [Ci, nb1])
 clear hE
 refine Ca (Zi rfl) (Ca (Pc rfl) (Fa ?_))
 refine Xb (Wb (Va (Od (v := .string (bs ([] ++ Ni false 0 x 0))) (x := .int .i64 0) rfl rfl rfl) ?_))
 exact ⟨by rw [if_pos (by simpa using hc0)]; rfl, hF.same⟩
end Go.Scarf
