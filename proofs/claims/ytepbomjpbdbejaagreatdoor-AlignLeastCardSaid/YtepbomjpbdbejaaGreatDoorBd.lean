/- A part of the proof. -/
import Derived.Test.YtepbomjpbdbejaaGreatDoorFacts
import Derived.Test.YtepbomjpbdbejaaGreatDoorNum
import Derived.Lib.AppendStr
import Derived.Lib.Builder
import Derived.Lib.UnsafeStr
import Derived.LaidEqlPtr
import Derived.Test.YtepbomjpbdbejaaGreatDoorShelf
import Derived.Lib.RuneBytes
import Derived.Test.YtepbomjpbdbejaaGreatDoorW19
import Derived.Laws.BytesString
import Derived.Test.YtepbomjpbdbejaaGreatDoorW2
import Derived.Lib.TrimU
set_option linter.all false
set_option maxHeartbeats 8000000
set_option maxRecDepth 10000
namespace Go.Scarf
open Go.RowKit Go.Proofs Go.Proofs.Tryz
section
variable {P : Program} {w w' w0 : World} {Ds E : List Nat} {bs_ : List (Nat × Obj)}
def Zi : Obj → Bool
  | .cells _ e _ => e == 5
  | _ => false
def Lq (w : World) (b : Nat) : Bool := match w.heap[b]? with | some o => Zi o | none => false
def Wk (w : World) (B pb : Nat) : List Nat := pb :: (List.range w.heap.size).filter fun b => decide (B ≤ b) && Lq w b
theorem If {B pb x : Nat} : x ∈ Wk w B pb ↔ x = pb ∨ (x < w.heap.size ∧ B ≤ x ∧ Lq w x = true) := by simp [Wk]
theorem Sp {b : Nat} {o : Obj} (h : w.heap[b]? = some o) : Lq w b = Zi o := by simp [Lq, h]
def Shp (T : Nat) (rest : List Value) : Prop := (T = 159 ∧ rest = []) ∨ (T = 161 ∧ ∃ m i, rest = [.bool m, .int .i64 i])
theorem Shp.ne {T : Nat} {rest : List Value} (h : Shp T rest) : (T == 5) = false := by rcases h with ⟨rfl, -⟩ | ⟨rfl, -⟩ <;> rfl
structure Bd (w : World) (B pb T : Nat) (rest : List Value) (s : Str) : Prop where
  shp : Shp T rest
  le : B ≤ pb
  ex : ∃ ap v, w.heap[pb]? = some (.cells (ap :: v :: rest).toArray T) ∧ w.ownsRow B 5 1 v s.length (Lib.byteCells s) ∧ (ap = .pointer none ∨ ap = .pointer (some ⟨pb, 0, none⟩))
theorem Bd.lt {B pb T : Nat} {rest : List Value} {s : Str} (h : Bd w B pb T rest s) : pb < w.heap.size := by
  obtain ⟨ap, v, hh, -⟩ := h.ex; exact Fa hh
theorem Bd.base {B pb T : Nat} {rest : List Value} {s : Str} (h : Bd w B pb T rest s) : B ≤ w.heap.size := Nat.le_trans h.le (Nat.le_of_lt h.lt)
theorem Km {B n g : Nat} {v : Value} {xs : List Value} (h : w.ownsRow B 5 1 v n xs) (hg : v.ownBlock = some g) : g < w.heap.size ∧ B ≤ g ∧ Lq w g = true := by
  rcases h.2 with ⟨rfl, -⟩ | ⟨g', cap, cur, rfl, h1, h2, -⟩
  · cases hg
  · cases hg
    exact ⟨Fa h2, h1, by rw [Sp h2]; rfl⟩
theorem X4 {B n g pb : Nat} {v : Value} {xs : List Value} (h : w.ownsRow B 5 1 v n xs) (hg : v.ownBlock = some g) : g ∈ Wk w B pb := If.2 (.inr (Km h hg))
theorem Uo {B n g pb : Nat} {v : Value} {xs : List Value} {o : Obj} (h : w.ownsRow B 5 1 v n xs) (hg : v.ownBlock = some g) (hh : w.heap[pb]? = some o) (ho : Zi o = false) : g ≠ pb := by
  rintro rfl
  have h1 := (Km h hg).2.2
  rw [Sp hh, ho] at h1; cases h1
theorem Lh {B n : Nat} {v : Value} {xs : List Value} (h : w.ownsRow B 5 1 v n xs) (hs : Same E w w') (he : ∀ g, v.ownBlock = some g → g ∉ E) : w'.ownsRow B 5 1 v n xs := by
  refine ⟨h.1, ?_⟩
  rcases h.2 with h2 | ⟨g, cap, cur, rfl, h1, h2, h3⟩
  · exact .inl h2
  · exact .inr ⟨g, cap, cur, rfl, h1, (hs.block g (Fa h2) (he g rfl)).trans h2, h3⟩
theorem Ag {B n : Nat} {v : Value} {xs : List Value} (h : w.ownsRow B 5 1 v n xs) : ∃ A c, v = .slice A n c := by
  rcases h.2 with ⟨rfl, rfl⟩ | ⟨g, cap, cur, rfl, -⟩
  · exact ⟨_, _, rfl⟩
  · exact ⟨_, _, rfl⟩
theorem Wk.step {B pb x : Nat} (hs : Same (Wk w B pb) w w') (hx : x ∈ Wk w' B pb) : x ∈ Wk w B pb ∨ w.heap.size ≤ x := by
  by_cases h : x < w.heap.size
  · by_cases hm : x ∈ Wk w B pb
    · exact .inl hm
    · rcases If.1 hx with rfl | ⟨h1, h2, h3⟩
      · exact .inl (If.2 (.inl rfl))
      · refine absurd (If.2 (.inr ⟨h, h2, ?_⟩)) hm
        rw [Lq, ← hs.block x h hm]; exact h3
  · exact .inr by_Om
theorem FR.grown {g : Option Nat} (h : FR w0 Ds bs_ w) (hg : w.grownBy w' g) (hr : ∀ b, g = some b → (b < w0.heap.size → b ∈ Ds) ∧ ∀ p ∈ bs_, p.1 ≠ b) : FR w0 Ds bs_ w' := by
  have hs : Same g.toList w w' := ⟨hg.os, hg.tape, hg.output, hg.size, fun b hb hn => hg.block b hb (fun e => hn (by simp [← e]))⟩
  exact h.touch hs (fun b hb => hr b (by simpa using hb))
theorem Sm (s t : Str) : Lib.byteCells (s ++ t) = Lib.byteCells s ++ Lib.byteCells t := Lib.byteCells_append s t
end
section
variable {P : Program} {w : World} {ρ : Operand → Value} {dst : Option Nat} {ty : TypeId} {pos : String} {aft : Array Edge} {g : Option (Nat × Bool)}
theorem KD {t t' te : Nat} {x y : Operand} (ht : P.underlying t = some (.pointer te)) (hx : ρ x = .pointer none) (hy : ρ y = .pointer none) :
    (execOp ρ ⟨dst, .binOp .eql t x y t', ty, pos, aft, g⟩).run P w = .ok (.value (.bool true)) w := by
  have h : ∀ d : Nat, (Op.equalIn (d + 1) t (.pointer none) (.pointer none)).run P w = .ok true w := fun d => by
    simp [Op.equalIn, run_underlying ht]
  have hg : (eqGuard .eql t x y (.pointer none) (.pointer none)).run P w = .ok () w := by unfold eqGuard; split <;> simp
  simp only [execOp, hx, hy, Sem.run_bind, hg, Result.andThen_ok, binOp]
  simp [Op.equal, Op.maxDepth, h 9999]
theorem KC {t t' te : Nat} {x y : Operand} {a : Addr} (ht : P.underlying t = some (.pointer te)) (hx : ρ x = .pointer (some a)) (hy : ρ y = .pointer none) :
    (execOp ρ ⟨dst, .binOp .eql t x y t', ty, pos, aft, g⟩).run P w = .ok (.value (.bool false)) w := by
  have h : ∀ d : Nat, (Op.equalIn (d + 1) t (.pointer (some a)) (.pointer none)).run P w = .ok false w := fun d => by
    simp [Op.equalIn, run_underlying ht]
  have hg : (eqGuard .eql t x y (.pointer (some a)) (.pointer none)).run P w = .ok () w := by unfold eqGuard; split <;> simp
  simp only [execOp, hx, hy, Sem.run_bind, hg, Result.andThen_ok, binOp]
  simp [Op.equal, Op.maxDepth, h 9999]
theorem QL {t t' te : Nat} {x y : Operand} {a : Addr} {j : TypeInfo} (ht : P.underlying t = some (.pointer te)) (hte : P.info? te = some j) (hx : ρ x = .pointer (some a)) (hy : ρ y = .pointer (some a)) :
    (execOp ρ ⟨dst, .binOp .neq t x y t', ty, pos, aft, g⟩).run P w = .ok (.value (.bool false)) w := by
  have h := Lib.run_neq_ptr_same w a ht hte
  have hg : (eqGuard .neq t x y (.pointer (some a)) (.pointer (some a))).run P w = .ok () w := by unfold eqGuard; split <;> simp
  simp only [execOp, hx, hy, Sem.run_bind, hg, Result.andThen_ok, h, Sem.run_pure]
theorem Tx {t t' : Nat} {x : Operand} {v : Value} (hx : ρ x = v) (h : (convert t t' v).run P w = .ok v w) : (execOp ρ ⟨dst, .convert t t' x, ty, pos, aft, g⟩).run P w = .ok (.value v) w := by
  simp [execOp, hx, h]
theorem CI {f : FuncId} {fn : Func} {e : Array Value → Sem Value} {x1 : Operand} {ats : Array TypeId} {v1 v : Value} (hf : P.funcs[f]? = some fn) (hname : (fn.name == "runtime.NumGoroutine") = false)
    (hb : fn.body.isNone = true) (hn : Extern.findNext fn = none) (he : Extern.find fn = some e) (h0 : ρ (.func f) = .func (.func f) #[] #[]) (h1 : ρ x1 = v1) (hr : (e #[v1]).run P w = .ok v w) :
    (execOp ρ ⟨dst, .call ⟨.value (.func f), #[x1], ats⟩, ty, pos, aft, g⟩).run P w = .ok (.value v) w := by
  simp [execOp, resolve, Deferred.ofValue, h0, h1, invoke, run_callFunc_extern hf hname hb hn he, hr]
theorem XO {x : Operand} {ats : Array TypeId} {a : Addr} {n c : Nat} (hx : ρ x = .slice (some a) n c) (hc : c ≠ 0) : (execOp ρ ⟨dst, .call ⟨.builtin .unsafeSliceData, #[x], ats⟩, ty, pos, aft, g⟩).run P w = .ok (.value (.pointer (some a))) w := by
  simp [execOp, resolve, invoke, builtin, hx, Lib.run_unsafeSliceData_row w ats ty a n c hc]
theorem TO {x y : Operand} {t1 t2 : Nat} {u v r : Value} {w' : World} (hx : ρ x = u) (hy : ρ y = v) (h : (Builtin.unsafeString_ #[t1, t2] ty #[u, v]).run P w = .ok r w') : (execOp ρ ⟨dst, .call ⟨.builtin .unsafeString, #[x, y], #[t1, t2]⟩, ty, pos, aft, g⟩).run P w = .ok (.value r) w' := by
  simp [execOp, resolve, invoke, builtin, hx, hy, h]
theorem ZF {x y : Operand} {t1 t2 : TypeId} {u v : Value} {r : Value} {w' : World} (hx : ρ x = u) (hy : ρ y = v) (h : (Builtin.append_ #[t1, t2] ty #[u, v]).run P w = .ok r w') :
    (execOp ρ ⟨dst, .call ⟨.builtin .append, #[x, y], #[t1, t2]⟩, ty, pos, aft, g⟩).run P w = .ok (.value r) w' := by
  simp [execOp, resolve, invoke, builtin, hx, hy, h]
end
section
variable {P : Program} {R : Exit → Act → World → Prop} {n : Nat} {kt : Kt} {s : Nat → Value} {w : World} {ops rest : List Oper}
variable {d : Nat} {ty : TypeId} {pos : String} {aft : Array Edge} {g : Option (Nat × Bool)}
variable {w0 : World} {Ds : List Nat} {bs_ : List (Nat × Obj)}
theorem RJ {x y : Operand} {t B len c2 k : Nat} {v : Value} {xs news : List Value} {a : Addr} (hE : Elems P t 5 1 1)
    (hF : FR w0 Ds bs_ w) (hO : w.ownsRow B 5 1 v len xs) (hB : B ≤ w.heap.size) (hx : ev n s x = v) (hy : ev n s y = .slice (some a) k c2)
    (hl : news.length = k * 1) (hnews : ∀ j u, news[j]? = some u → w.cell? (a.add j) = some u) (h1 : ∀ u ∈ news, u.oneCell' = true) (hb : len + k ≤ 140737488355328)
    (hr : ∀ b, v.ownBlock = some b → (b < w0.heap.size → b ∈ Ds) ∧ ∀ p ∈ bs_, p.1 ≠ b)
    (h : ∀ v' w', w'.ownsRow B 5 1 v' (len + k) (xs ++ news) → FR w0 Ds bs_ w' → w.heap.size ≤ w'.heap.size → Og P R n ops kt rest (Tg s d v') w')
    (hw : Vb ops n s ⟨some d, .call ⟨.builtin .append, #[x, y], #[t, t]⟩, ty, pos, aft, g⟩ = true := by rfl) : Og P R n ops kt (⟨some d, .call ⟨.builtin .append, #[x, y], #[t, t]⟩, ty, pos, aft, g⟩ :: rest) s w := by
  obtain ⟨i, z, hi, hz, h2, h3, h4⟩ := hE.info
  obtain ⟨v', w', hr', hO', hg, -⟩ := run_append_own (P := P) w B t ty 5 i z 1 1 hE.ht hi hz h2 h3 h4 Ra v len xs hO a k c2 news hl hnews h1 (by unfold maxLen; omega) by_Om hB
  exact Ja (Uy hx hy hr') (h v' w' hO' (hF.grown hg hr) hg.size) hw
theorem LJ {x y : Operand} {t u B len : Nat} {v : Value} {xs : List Value} {str : Str} (hE : Elems P t 5 1 1) (hz0 : (P.info? 5).map (·.zero) = some (some (.int .u8 0))) (hu : P.underlying u = some .string)
    (hF : FR w0 Ds bs_ w) (hO : w.ownsRow B 5 1 v len xs) (hB : B ≤ w.heap.size) (hx : ev n s x = v) (hy : ev n s y = .string (bs str)) (hb : len + str.length ≤ 140737488355328)
    (hr : ∀ b, v.ownBlock = some b → (b < w0.heap.size → b ∈ Ds) ∧ ∀ p ∈ bs_, p.1 ≠ b)
    (h : ∀ v' w', w'.ownsRow B 5 1 v' (len + str.length) (xs ++ Lib.byteCells str) → FR w0 Ds bs_ w' → w.heap.size ≤ w'.heap.size → Og P R n ops kt rest (Tg s d v') w')
    (hw : Vb ops n s ⟨some d, .call ⟨.builtin .append, #[x, y], #[t, u]⟩, ty, pos, aft, g⟩ = true := by rfl) : Og P R n ops kt (⟨some d, .call ⟨.builtin .append, #[x, y], #[t, u]⟩, ty, pos, aft, g⟩ :: rest) s w := by
  obtain ⟨i, z, hi, hz, h2, h3, h4⟩ := hE.info
  rw [hi] at hz0
  have hz1 : i.zero = some (.int .u8 0) := by simpa using hz0
  have e : (bs str).size = str.length := Yn str
  obtain ⟨v', w', hr', hO', hg, -⟩ := Lib.run_append_own_string (P := P) w B t u ty 5 i hE.ht hu hi hz1 h2 h3 v len xs hO (bs str) (by rw [e]; unfold maxLen; omega) (by rw [e]; omega) hB
  rw [e] at hO'
  exact Ja (ZF hx hy hr') (h v' w' (by simpa [Lib.strCells_eq, No, bs] using hO') (hF.grown hg hr) hg.size) hw
end
end Go.Scarf
namespace Go.Scarf
open Go.RowKit Go.Proofs Go.Proofs.Tryz
theorem DJ : liesAt prog prog.depth 159 (2 / prog.cellsOf 159) 0 159 1 = true := by kernel_rfl
theorem ZG : liesAt prog prog.depth 161 (4 / prog.cellsOf 161) 0 159 1 = true := by kernel_rfl
theorem Uu : (prog.info? 159).map (·.size) = some 2 := by kernel_rfl
theorem L6 (w0 : World) (pb : Nat) (v : Value) (hh : w0.heap[pb]? = some (.cells #[.pointer none, v] 159)) : Calls prog 183 #[.pointer (some ⟨pb, 0, none⟩)] w0 (Rd fun v_ w' => v_ = .tuple #[] ∧ Same [pb] w0 w' ∧ w'.heap[pb]? = some (.cells #[.pointer (some ⟨pb, 0, none⟩), v] 159)) := by
 obtain ⟨j, hj, hjs⟩ := Option.map_eq_some_iff.1 Uu
 have hne : pb < w0.heap.size := Fa hh
 refine Ma func183 rfl ntmps183 Jb (Ed _) ?_
 have hF : FR w0 [pb] [(pb, .cells #[.pointer none, v] 159)] w0 := FR.open_ (by simpa using hh) Ga
 refine Ka (Ca (De rfl) (Ca (Of rfl) (Ca (Kc Vl rfl) (Qd (VN isAgg156 rfl hF.F 0 rfl rfl) (Ja (v := .bool true) (KD underlying156 rfl rfl) (Ea (Ae rfl (Da (Ca (De rfl) (Ca (De rfl) ?_))))))))))
 refine Ja (v := .pointer (some ⟨pb, 0, none⟩)) (Tx rfl (Lib.run_to_unsafe _ ⟨pb, 0, none⟩ underlying156 underlying239 hj (by rw [hjs]; decide) (e := 159) (cells := 2) (by simp [World.shape?, hF.heap (i := 0) rfl]) (Nat.zero_lt_succ _))) ?_
 refine Ja (v := .pointer (some ⟨pb, 0, none⟩)) (CI func219 Ib Ib Ib (e := Extern.AbiNoEscape.same) Ib rfl rfl (Lib.run_noEscape _ _)) ?_
 refine Ja (v := .pointer (some ⟨pb, 0, none⟩)) (Tx rfl (Lib.run_from_unsafe _ ⟨pb, 0, none⟩ underlying239 underlying156 hj (e := 159) (cells := 2) (by simp [World.shape?, hF.heap (i := 0) rfl]) DJ)) ?_
 refine Ca (Of rfl) (Ca (Kc Vl rfl) ?_)
 refine Co (.pointer _) hF sizeOf156 rfl rfl Gn Gn ?_
 clear hF; rintro w hF -
 refine Ya ?_
 refine Fe (Yc (Ef rfl) ?_)
 exact ⟨rfl, hF.same, hF.heap (i := 0) rfl⟩
theorem R6 (w0 : World) (pb : Nat) (v : Value) (m : Bool) (i : Int) (hh : w0.heap[pb]? = some (.cells #[.pointer none, v, .bool (m), .int .i64 i] 161)) : Calls prog 183 #[.pointer (some ⟨pb, 0, none⟩)] w0 (Rd fun v_ w' => v_ = .tuple #[] ∧ Same [pb] w0 w' ∧ w'.heap[pb]? = some (.cells #[.pointer (some ⟨pb, 0, none⟩), v, .bool (m), .int .i64 i] 161)) := by
 obtain ⟨j, hj, hjs⟩ := Option.map_eq_some_iff.1 Uu
 have hne : pb < w0.heap.size := Fa hh
 refine Ma func183 rfl ntmps183 Jb (Ed _) ?_
 have hF : FR w0 [pb] [(pb, .cells #[.pointer none, v, .bool (m), .int .i64 i] 161)] w0 := FR.open_ (by simpa using hh) Ga
 refine Ka (Ca (De rfl) (Ca (Of rfl) (Ca (Kc Vl rfl) (Qd (VN isAgg156 rfl hF.F 0 rfl rfl) (Ja (v := .bool true) (KD underlying156 rfl rfl) (Ea (Ae rfl (Da (Ca (De rfl) (Ca (De rfl) ?_))))))))))
 refine Ja (v := .pointer (some ⟨pb, 0, none⟩)) (Tx rfl (Lib.run_to_unsafe _ ⟨pb, 0, none⟩ underlying156 underlying239 hj (by rw [hjs]; decide) (e := 161) (cells := 4) (by simp [World.shape?, hF.heap (i := 0) rfl]) (Nat.zero_lt_succ _))) ?_
 refine Ja (v := .pointer (some ⟨pb, 0, none⟩)) (CI func219 Ib Ib Ib (e := Extern.AbiNoEscape.same) Ib rfl rfl (Lib.run_noEscape _ _)) ?_
 refine Ja (v := .pointer (some ⟨pb, 0, none⟩)) (Tx rfl (Lib.run_from_unsafe _ ⟨pb, 0, none⟩ underlying239 underlying156 hj (e := 161) (cells := 4) (by simp [World.shape?, hF.heap (i := 0) rfl]) ZG)) ?_
 refine Ca (Of rfl) (Ca (Kc Vl rfl) ?_)
 refine Co (.pointer _) hF sizeOf156 rfl rfl Gn Gn ?_
 clear hF; rintro w hF -
 refine Ya ?_
 refine Fe (Yc (Ef rfl) ?_)
 exact ⟨rfl, hF.same, hF.heap (i := 0) rfl⟩
theorem T5 (w0 : World) (pb : Nat) (v : Value) (hh : w0.heap[pb]? = some (.cells #[.pointer (some ⟨pb, 0, none⟩), v] 159)) : Calls prog 183 #[.pointer (some ⟨pb, 0, none⟩)] w0 (Rd fun v_ w' => v_ = .tuple #[] ∧ Same [pb] w0 w' ∧ w'.heap[pb]? = some (.cells #[.pointer (some ⟨pb, 0, none⟩), v] 159)) := by
 obtain ⟨j, hj, hjs⟩ := Option.map_eq_some_iff.1 Uu
 have hne : pb < w0.heap.size := Fa hh
 refine Ma func183 rfl ntmps183 Jb (Ed _) ?_
 have hF : FR w0 [pb] [(pb, .cells #[.pointer (some ⟨pb, 0, none⟩), v] 159)] w0 := FR.open_ (by simpa using hh) Ga
 refine Ka (Ca (De rfl) (Ca (Of rfl) (Ca (Kc Vl rfl) (Qd (VN isAgg156 rfl hF.F 0 rfl rfl) (Ja (v := .bool false) (KC underlying156 rfl rfl) (Ea (Bg rfl (Ka (Ca (De rfl) (Ca (Of rfl) ?_))))))))))
 refine Ca (Kc Vl rfl) (Qd (VN isAgg156 rfl hF.F 0 rfl rfl) (Ca (De rfl) (Ja (v := .bool false) (QL underlying156 hj rfl rfl) (Ea (Bg rfl (Wa ?_))))))
 refine Fe (Yc (Ef rfl) ?_)
 exact ⟨rfl, hF.same, hF.heap (i := 0) rfl⟩
theorem V6 (w0 : World) (pb : Nat) (v : Value) (m : Bool) (i : Int) (hh : w0.heap[pb]? = some (.cells #[.pointer (some ⟨pb, 0, none⟩), v, .bool (m), .int .i64 i] 161)) : Calls prog 183 #[.pointer (some ⟨pb, 0, none⟩)] w0 (Rd fun v_ w' => v_ = .tuple #[] ∧ Same [pb] w0 w' ∧ w'.heap[pb]? = some (.cells #[.pointer (some ⟨pb, 0, none⟩), v, .bool (m), .int .i64 i] 161)) := by
 obtain ⟨j, hj, hjs⟩ := Option.map_eq_some_iff.1 Uu
 have hne : pb < w0.heap.size := Fa hh
 refine Ma func183 rfl ntmps183 Jb (Ed _) ?_
 have hF : FR w0 [pb] [(pb, .cells #[.pointer (some ⟨pb, 0, none⟩), v, .bool (m), .int .i64 i] 161)] w0 := FR.open_ (by simpa using hh) Ga
 refine Ka (Ca (De rfl) (Ca (Of rfl) (Ca (Kc Vl rfl) (Qd (VN isAgg156 rfl hF.F 0 rfl rfl) (Ja (v := .bool false) (KC underlying156 rfl rfl) (Ea (Bg rfl (Ka (Ca (De rfl) (Ca (Of rfl) ?_))))))))))
 refine Ca (Kc Vl rfl) (Qd (VN isAgg156 rfl hF.F 0 rfl rfl) (Ca (De rfl) (Ja (v := .bool false) (QL underlying156 hj rfl rfl) (Ea (Bg rfl (Wa ?_))))))
 refine Fe (Yc (Ef rfl) ?_)
 exact ⟨rfl, hF.same, hF.heap (i := 0) rfl⟩
theorem Nj {w0 : World} {B pb T : Nat} {rest : List Value} {s : Str} (h : Bd w0 B pb T rest s) :
    ∃ v, w0.ownsRow B 5 1 v s.length (Lib.byteCells s) ∧ (∀ g, v.ownBlock = some g → g ∈ Wk w0 B pb ∧ g ≠ pb) ∧
      Calls prog 183 #[.pointer (some ⟨pb, 0, none⟩)] w0 (Rd fun u w' => u = .tuple #[] ∧ Same [pb] w0 w' ∧ w'.heap[pb]? = some (.cells (.pointer (some ⟨pb, 0, none⟩) :: v :: rest).toArray T) ∧ w'.ownsRow B 5 1 v s.length (Lib.byteCells s)) := by
  obtain ⟨hs, hle, ap, v, hh, hO, ha⟩ := h
  have hne : ∀ g, v.ownBlock = some g → g ≠ pb := fun g hg => Uo hO hg hh (by exact hs.ne)
  refine ⟨v, hO, fun g hg => ⟨X4 hO hg, hne g hg⟩, ?_⟩
  have fin : ∀ {u : Value} {w' : World}, (u = .tuple #[] ∧ Same [pb] w0 w' ∧ w'.heap[pb]? = some (.cells (.pointer (some ⟨pb, 0, none⟩) :: v :: rest).toArray T)) → (u = .tuple #[] ∧ Same [pb] w0 w' ∧ w'.heap[pb]? = some (.cells (.pointer (some ⟨pb, 0, none⟩) :: v :: rest).toArray T) ∧ w'.ownsRow B 5 1 v s.length (Lib.byteCells s)) :=
    fun ⟨h1, h2, h3⟩ => ⟨h1, h2, h3, Lh hO h2 (fun g hg => by simpa using hne g hg)⟩
  rcases hs with ⟨rfl, rfl⟩ | ⟨rfl, m, i, rfl⟩ <;> rcases ha with rfl | rfl
  · exact Zg (L6 w0 pb v hh) fun _ _ => fin
  · exact Zg (T5 w0 pb v hh) fun _ _ => fin
  · exact Zg (R6 w0 pb v m i hh) fun _ _ => fin
  · exact Zg (V6 w0 pb v m i hh) fun _ _ => fin
end Go.Scarf
namespace Go.Scarf
open Go.RowKit Go.Proofs Go.Proofs.Tryz
theorem K3 : (prog.info? 5).map (·.zero) = some (some (.int .u8 0)) := by kernel_rfl
theorem FR.addD {w0 w : World} {Ds : List Nat} {bs_ : List (Nat × Obj)} {b : Nat} {o : Obj} (h : FR w0 Ds bs_ w) (hh : w.heap[b]? = some o) (hd : w0.heap.size ≤ b ∨ b ∈ Ds) (hn : ∀ p ∈ bs_, p.1 ≠ b) : FR w0 Ds ((b, o) :: bs_) w :=
  ⟨h.same, fun p hp => by
    rcases List.mem_cons.1 hp with rfl | hp
    · exact ⟨hh, hd⟩
    · exact h.own p hp, List.pairwise_cons.2 ⟨fun q hq => hn q hq, h.desc⟩⟩
def Gh (r : Int) : Str := (Lib.encodeRuneZ r).map fun x => UInt8.ofNat x.toNat
theorem So (r : Int) : 1 ≤ (Gh r).length ∧ (Gh r).length ≤ 4 := by rw [Gh, List.length_map]; exact Lib.encodeRuneZ_length r
theorem Fh (r : Int) : Lib.byteCells (Gh r) = Lib.runeCells r := by
  rw [Gh, Lib.byteCells, Lib.runeCells, List.map_map]
  refine List.map_congr_left fun x hx => ?_
  have := Lib.encodeRuneZ_byte r x hx
  simp only [Function.comp_apply, Value.int.injEq, true_and, UInt8.toNat_ofNat']
  omega
theorem Ht {w : World} {B n : Nat} {v : Value} {xs : List Value} {r : Int} (hO : w.ownsRow B 5 1 v n xs) (h0 : -2147483648 ≤ r) (h1 : r ≤ 2147483647) (hn : n + 4 ≤ 140737488355328) (hB : B ≤ w.heap.size) :
    Calls prog 238 #[v, .int .i32 r] w (Rd fun v' w' => w'.ownsRow B 5 1 v' (n + (Gh r).length) (xs ++ Lib.byteCells (Gh r)) ∧ ∃ o, (w.alloc o).grownBy w' v.ownBlock) := by
  refine (utf8_AppendRune_plain B v n xs r h0 h1 w hO hn hB).mono fun e w' ⟨v', he, h2, h3⟩ => ⟨v', he, ?_, h3⟩
  have e1 : (Gh r).length = (Lib.runeCells r).length := by rw [← Fh, Lib.byteCells_length]
  rw [e1, Fh]; exact h2
def Ys (f : Nat) (args : Array Value) (u : Value) (w0 : World) (B pb T : Nat) (rest : List Value) (s : Str) : Prop :=
  Calls prog f args w0 (Rd fun v w' => v = u ∧ Bd w' B pb T rest s ∧ Same (Wk w0 B pb) w0 w')
theorem R8 (w0 : World) (B pb : Nat) (s : Str) (hB : Bd w0 B pb 159 [] s) (c : UInt8) (hl : s.length + 1 ≤ 140737488355328) : Ys 191 #[.pointer (some ⟨pb, 0, none⟩), .int .u8 ((c.toNat : Nat) : Int)] .nilIface w0 B pb 159 [] (s ++ [c]) := by
 unfold Ys
 refine Ma func191 rfl ntmps191 Jb (Vd _ _) ?_
 obtain ⟨v, hO0, hv, hC⟩ := Nj hB
 have hle := hB.le
 have hBw := hB.base
 have hlt := hB.lt
 have hws := Nat.le_refl w0.heap.size
 have hvl : ∀ g, v.ownBlock = some g → g < w0.heap.size := fun g hg => (Km hO0 hg).1
 obtain ⟨A1, c1, rfl⟩ := Ag hO0
 have hF := FR.start w0 (Wk w0 B pb)
 refine Ka (Ca (C1) (Cc (Ca (De rfl) ?_)))
 refine Db hC (Eb Cv rfl rfl) ?_
 rintro _ w ⟨rfl, hE, hh, hO⟩
 replace hws := Nat.le_trans hws hE.size
 replace hBw := Nat.le_trans hBw hE.size
 replace hF : FR w0 (Wk w0 B pb) [(pb, .cells #[.pointer (some ⟨pb, 0, none⟩), .slice A1 s.length c1] 159)] w := (hF.touch hE (fun b hb => by obtain rfl := List.mem_singleton.1 hb; exact ⟨fun _ => If.2 (.inl rfl), by simp⟩)).addD hh (.inr (If.2 (.inl rfl))) Ga
 clear hE hh
 refine Cc (Ca (De rfl) (Ca (De rfl) (Ca (Of rfl) (Ca (Kc Ie rfl) (Qd (Vi isAgg157 rfl hF.F 0 rfl rfl) (Ca (Hb rfl) ?_))))))
 refine Xf 1 hF (Ua (cs := #[.int .u8 ((c.toNat : Nat))]) underlying157 sizeOf5 zeroValue5 Ra Ra Ib) ?_
 clear hF; intro b1 w hb1 hF hE
 have nb1 : w0.heap.size ≤ b1 := by rw [hb1]; exact hws
 replace hws := Nat.le_trans hws hE.size
 replace hBw := Nat.le_trans hBw hE.size
 replace hO := Lh hO hE Ga
 clear hE
 refine RJ (news := [.int .u8 ((c.toNat : Nat) : Int)]) X6 hF hO hBw rfl rfl rfl (Xb (hF.cellsAll 0 rfl)) (by simp [Value.oneCell']) by_Om (fun b hb => ⟨fun _ => (hv b hb).1, by have h1 := (hv b hb).2; have h2 := hvl b hb; intro p hp; simp only [List.mem_cons, List.not_mem_nil, or_false] at hp; rcases hp with rfl | rfl <;> grind⟩) ?_
 clear hF hO; intro v2 w hO hF hsz
 replace hws := Nat.le_trans hws hsz
 replace hBw := Nat.le_trans hBw hsz
 have hne2 : ∀ g, v2.ownBlock = some g → g ≠ pb := fun g hg => Uo hO hg (hF.heap (i := 1) rfl) rfl
 obtain ⟨A2, c2, rfl⟩ := Ag hO
 clear hsz
 refine Ca (Of rfl) (Ca (Kc Ie rfl) ?_)
 refine Co (.slice _ _ _) hF sizeOf157 rfl rfl Y6 Y6 ?_
 clear hF; intro w hF hE
 replace hws := Nat.le_trans hws hE.size
 replace hBw := Nat.le_trans hBw hE.size
 replace hO := Lh hO hE (fun g hg => by simpa using hne2 g hg)
 clear hE
 refine Cc (Ca (C1) (Ea ?_))
 refine Xd (v := .nilIface) rfl rfl ?_
 exact ⟨rfl, ⟨.inl ⟨rfl, rfl⟩, hle, _, _, hF.heap (i := 1) rfl, by simpa [Sm, Lib.byteCells, Fh] using hO, .inr rfl⟩, hF.same⟩
theorem H1 (w0 : World) (B pb : Nat) (s : Str) (hB : Bd w0 B pb 159 [] s) (t : Str) (hl : s.length + t.length ≤ 140737488355328) : Ys 154 #[.pointer (some ⟨pb, 0, none⟩), .string (bs t)] (.tuple #[.int .i64 ((t.length : Nat) : Int), .nilIface]) w0 B pb 159 [] (s ++ t) := by
 unfold Ys
 refine Ma func154 rfl ntmps154 Jb (Vd _ _) ?_
 obtain ⟨v, hO0, hv, hC⟩ := Nj hB
 have hle := hB.le
 have hBw := hB.base
 have hlt := hB.lt
 have hws := Nat.le_refl w0.heap.size
 have hvl : ∀ g, v.ownBlock = some g → g < w0.heap.size := fun g hg => (Km hO0 hg).1
 obtain ⟨A1, c1, rfl⟩ := Ag hO0
 have hF := FR.start w0 (Wk w0 B pb)
 refine Ka (Ca (Gc rfl) (Ca (C1) (Cc (Ca (De rfl) ?_))))
 refine Db hC (Eb Cv rfl rfl) ?_
 rintro _ w ⟨rfl, hE, hh, hO⟩
 replace hws := Nat.le_trans hws hE.size
 replace hBw := Nat.le_trans hBw hE.size
 replace hF : FR w0 (Wk w0 B pb) [(pb, .cells #[.pointer (some ⟨pb, 0, none⟩), .slice A1 s.length c1] 159)] w := (hF.touch hE (fun b hb => by obtain rfl := List.mem_singleton.1 hb; exact ⟨fun _ => If.2 (.inl rfl), by simp⟩)).addD hh (.inr (If.2 (.inl rfl))) Ga
 clear hE hh
 refine Cc (Ca (De rfl) (Ca (De rfl) (Ca (Of rfl) (Ca (Kc Ie rfl) (Qd (Vi isAgg157 rfl hF.F 0 rfl rfl) (Ca (Lf rfl) ?_))))))
 refine LJ (str := t) X6 K3 underlying9 hF hO hBw rfl rfl by_Om (fun b hb => ⟨fun _ => (hv b hb).1, by have h1 := (hv b hb).2; have h2 := hvl b hb; intro p hp; simp only [List.mem_cons, List.not_mem_nil, or_false] at hp; rcases hp with rfl <;> grind⟩) ?_
 clear hF hO; intro v2 w hO hF hsz
 replace hws := Nat.le_trans hws hsz
 replace hBw := Nat.le_trans hBw hsz
 have hne2 : ∀ g, v2.ownBlock = some g → g ≠ pb := fun g hg => Uo hO hg (hF.heap (i := 0) rfl) rfl
 obtain ⟨A2, c2, rfl⟩ := Ag hO
 clear hsz
 refine Ca (Of rfl) (Ca (Kc Ie rfl) ?_)
 refine Co (.slice _ _ _) hF sizeOf157 rfl rfl Gn Y6 ?_
 clear hF; intro w hF hE
 replace hws := Nat.le_trans hws hE.size
 replace hBw := Nat.le_trans hBw hE.size
 replace hO := Lh hO hE (fun g hg => by simpa using hne2 g hg)
 clear hE
 refine Cc (Ca (Lf rfl) (Ca (H9 underlying9 rfl) (Ca (Gc rfl) (Ca (C1) (Ea ?_)))))
 refine Fc (Bc (Za (Ye (v := .int .i64 ((((t) : Str).length : Int))) (x := .nilIface) rfl rfl rfl) ?_))
 exact ⟨rfl, ⟨.inl ⟨rfl, rfl⟩, hle, _, _, hF.heap (i := 0) rfl, by simpa [Sm, Lib.byteCells, Fh] using hO, .inr rfl⟩, hF.same⟩
theorem R7 (w0 : World) (B pb : Nat) (s : Str) (hB : Bd w0 B pb 159 [] s) (r : Int) (hr0 : -2147483648 ≤ r) (hr1 : r ≤ 2147483647) (hl : s.length + 4 ≤ 140737488355328) : Ys 226 #[.pointer (some ⟨pb, 0, none⟩), .int .i32 r] (.tuple #[.int .i64 (((Gh r).length : Nat) : Int), .nilIface]) w0 B pb 159 [] (s ++ Gh r) := by
 unfold Ys
 have hrl := So r
 refine Ma func226 rfl ntmps226 Jb (Vd _ _) ?_
 obtain ⟨v, hO0, hv, hC⟩ := Nj hB
 have hle := hB.le
 have hBw := hB.base
 have hlt := hB.lt
 have hws := Nat.le_refl w0.heap.size
 have hvl : ∀ g, v.ownBlock = some g → g < w0.heap.size := fun g hg => (Km hO0 hg).1
 obtain ⟨A1, c1, rfl⟩ := Ag hO0
 have hF := FR.start w0 (Wk w0 B pb)
 refine Ka (Ca (Gc rfl) (Ca (C1) (Cc (Ca (De rfl) ?_))))
 refine Db hC (Eb Cv rfl rfl) ?_
 rintro _ w ⟨rfl, hE, hh, hO⟩
 replace hws := Nat.le_trans hws hE.size
 replace hBw := Nat.le_trans hBw hE.size
 replace hF : FR w0 (Wk w0 B pb) [(pb, .cells #[.pointer (some ⟨pb, 0, none⟩), .slice A1 s.length c1] 159)] w := (hF.touch hE (fun b hb => by obtain rfl := List.mem_singleton.1 hb; exact ⟨fun _ => If.2 (.inl rfl), by simp⟩)).addD hh (.inr (If.2 (.inl rfl))) Ga
 clear hE hh
 refine Cc (Ca (De rfl) (Ca (Of rfl) (Ca (Kc Ie rfl) (Qd (Vi isAgg157 rfl hF.F 0 rfl rfl) (Ca (Qe underlying157 rfl) (Ca (Gc rfl) (Cc ?_)))))))
 refine Ca (De rfl) (Ca (De rfl) (Ca (Of rfl) (Ca (Kc Ie rfl) (Qd (Vi isAgg157 rfl hF.F 0 rfl rfl) (Ca (Hb rfl) ?_)))))
 refine Db (Ht hO hr0 hr1 by_Om hBw) (Qb GI rfl rfl rfl) ?_
 rintro v2 w2 ⟨hO2, o, hg⟩
 replace hF := (hF.ext (Same.alloc _ o)).grown hg (fun b hb => ⟨fun _ => (hv b hb).1, by have h1 := (hv b hb).2; have h2 := hvl b hb; intro p hp; simp only [List.mem_cons, List.not_mem_nil, or_false] at hp; rcases hp with rfl <;> grind⟩)
 have hsz := Nat.le_trans (Same.alloc _ o).size hg.size
 clear hO hg; revert hsz hF hO2; generalize w2 = w; intro hO hF hsz
 replace hws := Nat.le_trans hws hsz
 replace hBw := Nat.le_trans hBw hsz
 have hne2 : ∀ g, v2.ownBlock = some g → g ≠ pb := fun g hg => Uo hO hg (hF.heap (i := 0) rfl) rfl
 obtain ⟨A2, c2, rfl⟩ := Ag hO
 clear hsz
 refine Ca (Of rfl) (Ca (Kc Ie rfl) ?_)
 refine Co (.slice _ _ _) hF sizeOf157 rfl rfl Gn Y6 ?_
 clear hF; intro w hF hE
 replace hws := Nat.le_trans hws hE.size
 replace hBw := Nat.le_trans hBw hE.size
 replace hO := Lh hO hE (fun g hg => by simpa using hne2 g hg)
 clear hE
 refine Cc (Ca (De rfl) (Ca (Of rfl) (Ca (Kc Ie rfl) (Qd (Vi isAgg157 rfl hF.F 0 rfl rfl) (Ca (Qe underlying157 rfl) (Ca (Hb rfl) (Ca (Zu (((Gh r).length : Nat)) rfl rfl) (Ca (Gc rfl) (Ca (C1) (Ya ?_))))))))))
 refine Ha ?_
 refine Fc (Bc (Za (Ye (v := .int .i64 (((Gh r).length : Nat))) (x := .nilIface) rfl rfl rfl) ?_))
 exact ⟨rfl, ⟨.inl ⟨rfl, rfl⟩, hle, _, _, hF.heap (i := 0) rfl, by simpa [Sm, Lib.byteCells, Fh] using hO, .inr rfl⟩, hF.same⟩
theorem P7 (w0 : World) (B pb : Nat) (m : Bool) (i : Int) (s : Str) (hB : Bd w0 B pb 161 [.bool (m), .int .i64 i] s) (c : UInt8) (hl : s.length + 1 ≤ 140737488355328) : Ys 191 #[.pointer (some ⟨pb, 0, none⟩), .int .u8 ((c.toNat : Nat) : Int)] .nilIface w0 B pb 161 [.bool (m), .int .i64 i] (s ++ [c]) := by
 unfold Ys
 refine Ma func191 rfl ntmps191 Jb (Vd _ _) ?_
 obtain ⟨v, hO0, hv, hC⟩ := Nj hB
 have hle := hB.le
 have hBw := hB.base
 have hlt := hB.lt
 have hws := Nat.le_refl w0.heap.size
 have hvl : ∀ g, v.ownBlock = some g → g < w0.heap.size := fun g hg => (Km hO0 hg).1
 obtain ⟨A1, c1, rfl⟩ := Ag hO0
 have hF := FR.start w0 (Wk w0 B pb)
 refine Ka (Ca (C1) (Cc (Ca (De rfl) ?_)))
 refine Db hC (Eb Cv rfl rfl) ?_
 rintro _ w ⟨rfl, hE, hh, hO⟩
 replace hws := Nat.le_trans hws hE.size
 replace hBw := Nat.le_trans hBw hE.size
 replace hF : FR w0 (Wk w0 B pb) [(pb, .cells #[.pointer (some ⟨pb, 0, none⟩), .slice A1 s.length c1, .bool (m), .int .i64 i] 161)] w := (hF.touch hE (fun b hb => by obtain rfl := List.mem_singleton.1 hb; exact ⟨fun _ => If.2 (.inl rfl), by simp⟩)).addD hh (.inr (If.2 (.inl rfl))) Ga
 clear hE hh
 refine Cc (Ca (De rfl) (Ca (De rfl) (Ca (Of rfl) (Ca (Kc Ie rfl) (Qd (Vi isAgg157 rfl hF.F 0 rfl rfl) (Ca (Hb rfl) ?_))))))
 refine Xf 1 hF (Ua (cs := #[.int .u8 ((c.toNat : Nat))]) underlying157 sizeOf5 zeroValue5 Ra Ra Ib) ?_
 clear hF; intro b1 w hb1 hF hE
 have nb1 : w0.heap.size ≤ b1 := by rw [hb1]; exact hws
 replace hws := Nat.le_trans hws hE.size
 replace hBw := Nat.le_trans hBw hE.size
 replace hO := Lh hO hE Ga
 clear hE
 refine RJ (news := [.int .u8 ((c.toNat : Nat) : Int)]) X6 hF hO hBw rfl rfl rfl (Xb (hF.cellsAll 0 rfl)) (by simp [Value.oneCell']) by_Om (fun b hb => ⟨fun _ => (hv b hb).1, by have h1 := (hv b hb).2; have h2 := hvl b hb; intro p hp; simp only [List.mem_cons, List.not_mem_nil, or_false] at hp; rcases hp with rfl | rfl <;> grind⟩) ?_
 clear hF hO; intro v2 w hO hF hsz
 replace hws := Nat.le_trans hws hsz
 replace hBw := Nat.le_trans hBw hsz
 have hne2 : ∀ g, v2.ownBlock = some g → g ≠ pb := fun g hg => Uo hO hg (hF.heap (i := 1) rfl) rfl
 obtain ⟨A2, c2, rfl⟩ := Ag hO
 clear hsz
 refine Ca (Of rfl) (Ca (Kc Ie rfl) ?_)
 refine Co (.slice _ _ _) hF sizeOf157 rfl rfl Y6 Y6 ?_
 clear hF; intro w hF hE
 replace hws := Nat.le_trans hws hE.size
 replace hBw := Nat.le_trans hBw hE.size
 replace hO := Lh hO hE (fun g hg => by simpa using hne2 g hg)
 clear hE
 refine Cc (Ca (C1) (Ea ?_))
 refine Xd (v := .nilIface) rfl rfl ?_
 exact ⟨rfl, ⟨.inr ⟨rfl, m, i, rfl⟩, hle, _, _, hF.heap (i := 1) rfl, by simpa [Sm, Lib.byteCells, Fh] using hO, .inr rfl⟩, hF.same⟩
theorem E1 (w0 : World) (B pb : Nat) (m : Bool) (i : Int) (s : Str) (hB : Bd w0 B pb 161 [.bool (m), .int .i64 i] s) (t : Str) (hl : s.length + t.length ≤ 140737488355328) : Ys 154 #[.pointer (some ⟨pb, 0, none⟩), .string (bs t)] (.tuple #[.int .i64 ((t.length : Nat) : Int), .nilIface]) w0 B pb 161 [.bool (m), .int .i64 i] (s ++ t) := by
 unfold Ys
 refine Ma func154 rfl ntmps154 Jb (Vd _ _) ?_
 obtain ⟨v, hO0, hv, hC⟩ := Nj hB
 have hle := hB.le
 have hBw := hB.base
 have hlt := hB.lt
 have hws := Nat.le_refl w0.heap.size
 have hvl : ∀ g, v.ownBlock = some g → g < w0.heap.size := fun g hg => (Km hO0 hg).1
 obtain ⟨A1, c1, rfl⟩ := Ag hO0
 have hF := FR.start w0 (Wk w0 B pb)
 refine Ka (Ca (Gc rfl) (Ca (C1) (Cc (Ca (De rfl) ?_))))
 refine Db hC (Eb Cv rfl rfl) ?_
 rintro _ w ⟨rfl, hE, hh, hO⟩
 replace hws := Nat.le_trans hws hE.size
 replace hBw := Nat.le_trans hBw hE.size
 replace hF : FR w0 (Wk w0 B pb) [(pb, .cells #[.pointer (some ⟨pb, 0, none⟩), .slice A1 s.length c1, .bool (m), .int .i64 i] 161)] w := (hF.touch hE (fun b hb => by obtain rfl := List.mem_singleton.1 hb; exact ⟨fun _ => If.2 (.inl rfl), by simp⟩)).addD hh (.inr (If.2 (.inl rfl))) Ga
 clear hE hh
 refine Cc (Ca (De rfl) (Ca (De rfl) (Ca (Of rfl) (Ca (Kc Ie rfl) (Qd (Vi isAgg157 rfl hF.F 0 rfl rfl) (Ca (Lf rfl) ?_))))))
 refine LJ (str := t) X6 K3 underlying9 hF hO hBw rfl rfl by_Om (fun b hb => ⟨fun _ => (hv b hb).1, by have h1 := (hv b hb).2; have h2 := hvl b hb; intro p hp; simp only [List.mem_cons, List.not_mem_nil, or_false] at hp; rcases hp with rfl <;> grind⟩) ?_
 clear hF hO; intro v2 w hO hF hsz
 replace hws := Nat.le_trans hws hsz
 replace hBw := Nat.le_trans hBw hsz
 have hne2 : ∀ g, v2.ownBlock = some g → g ≠ pb := fun g hg => Uo hO hg (hF.heap (i := 0) rfl) rfl
 obtain ⟨A2, c2, rfl⟩ := Ag hO
 clear hsz
 refine Ca (Of rfl) (Ca (Kc Ie rfl) ?_)
 refine Co (.slice _ _ _) hF sizeOf157 rfl rfl Gn Y6 ?_
 clear hF; intro w hF hE
 replace hws := Nat.le_trans hws hE.size
 replace hBw := Nat.le_trans hBw hE.size
 replace hO := Lh hO hE (fun g hg => by simpa using hne2 g hg)
 clear hE
 refine Cc (Ca (Lf rfl) (Ca (H9 underlying9 rfl) (Ca (Gc rfl) (Ca (C1) (Ea ?_)))))
 refine Fc (Bc (Za (Ye (v := .int .i64 ((((t) : Str).length : Int))) (x := .nilIface) rfl rfl rfl) ?_))
 exact ⟨rfl, ⟨.inr ⟨rfl, m, i, rfl⟩, hle, _, _, hF.heap (i := 0) rfl, by simpa [Sm, Lib.byteCells, Fh] using hO, .inr rfl⟩, hF.same⟩
theorem U7 (w0 : World) (B pb : Nat) (m : Bool) (i : Int) (s : Str) (hB : Bd w0 B pb 161 [.bool (m), .int .i64 i] s) (r : Int) (hr0 : -2147483648 ≤ r) (hr1 : r ≤ 2147483647) (hl : s.length + 4 ≤ 140737488355328) : Ys 226 #[.pointer (some ⟨pb, 0, none⟩), .int .i32 r] (.tuple #[.int .i64 (((Gh r).length : Nat) : Int), .nilIface]) w0 B pb 161 [.bool (m), .int .i64 i] (s ++ Gh r) := by
 unfold Ys
 have hrl := So r
 refine Ma func226 rfl ntmps226 Jb (Vd _ _) ?_
 obtain ⟨v, hO0, hv, hC⟩ := Nj hB
 have hle := hB.le
 have hBw := hB.base
 have hlt := hB.lt
 have hws := Nat.le_refl w0.heap.size
 have hvl : ∀ g, v.ownBlock = some g → g < w0.heap.size := fun g hg => (Km hO0 hg).1
 obtain ⟨A1, c1, rfl⟩ := Ag hO0
 have hF := FR.start w0 (Wk w0 B pb)
 refine Ka (Ca (Gc rfl) (Ca (C1) (Cc (Ca (De rfl) ?_))))
 refine Db hC (Eb Cv rfl rfl) ?_
 rintro _ w ⟨rfl, hE, hh, hO⟩
 replace hws := Nat.le_trans hws hE.size
 replace hBw := Nat.le_trans hBw hE.size
 replace hF : FR w0 (Wk w0 B pb) [(pb, .cells #[.pointer (some ⟨pb, 0, none⟩), .slice A1 s.length c1, .bool (m), .int .i64 i] 161)] w := (hF.touch hE (fun b hb => by obtain rfl := List.mem_singleton.1 hb; exact ⟨fun _ => If.2 (.inl rfl), by simp⟩)).addD hh (.inr (If.2 (.inl rfl))) Ga
 clear hE hh
 refine Cc (Ca (De rfl) (Ca (Of rfl) (Ca (Kc Ie rfl) (Qd (Vi isAgg157 rfl hF.F 0 rfl rfl) (Ca (Qe underlying157 rfl) (Ca (Gc rfl) (Cc ?_)))))))
 refine Ca (De rfl) (Ca (De rfl) (Ca (Of rfl) (Ca (Kc Ie rfl) (Qd (Vi isAgg157 rfl hF.F 0 rfl rfl) (Ca (Hb rfl) ?_)))))
 refine Db (Ht hO hr0 hr1 by_Om hBw) (Qb GI rfl rfl rfl) ?_
 rintro v2 w2 ⟨hO2, o, hg⟩
 replace hF := (hF.ext (Same.alloc _ o)).grown hg (fun b hb => ⟨fun _ => (hv b hb).1, by have h1 := (hv b hb).2; have h2 := hvl b hb; intro p hp; simp only [List.mem_cons, List.not_mem_nil, or_false] at hp; rcases hp with rfl <;> grind⟩)
 have hsz := Nat.le_trans (Same.alloc _ o).size hg.size
 clear hO hg; revert hsz hF hO2; generalize w2 = w; intro hO hF hsz
 replace hws := Nat.le_trans hws hsz
 replace hBw := Nat.le_trans hBw hsz
 have hne2 : ∀ g, v2.ownBlock = some g → g ≠ pb := fun g hg => Uo hO hg (hF.heap (i := 0) rfl) rfl
 obtain ⟨A2, c2, rfl⟩ := Ag hO
 clear hsz
 refine Ca (Of rfl) (Ca (Kc Ie rfl) ?_)
 refine Co (.slice _ _ _) hF sizeOf157 rfl rfl Gn Y6 ?_
 clear hF; intro w hF hE
 replace hws := Nat.le_trans hws hE.size
 replace hBw := Nat.le_trans hBw hE.size
 replace hO := Lh hO hE (fun g hg => by simpa using hne2 g hg)
 clear hE
 refine Cc (Ca (De rfl) (Ca (Of rfl) (Ca (Kc Ie rfl) (Qd (Vi isAgg157 rfl hF.F 0 rfl rfl) (Ca (Qe underlying157 rfl) (Ca (Hb rfl) (Ca (Zu (((Gh r).length : Nat)) rfl rfl) (Ca (Gc rfl) (Ca (C1) (Ya ?_))))))))))
 refine Ha ?_
 refine Fc (Bc (Za (Ye (v := .int .i64 (((Gh r).length : Nat))) (x := .nilIface) rfl rfl rfl) ?_))
 exact ⟨rfl, ⟨.inr ⟨rfl, m, i, rfl⟩, hle, _, _, hF.heap (i := 0) rfl, by simpa [Sm, Lib.byteCells, Fh] using hO, .inr rfl⟩, hF.same⟩
end Go.Scarf
namespace Go.Scarf
open Go.RowKit Go.Proofs Go.Proofs.Tryz
theorem Gy : prog.cellsOf 5 = 1 := by kernel_rfl
theorem Same.freeze (w : World) (a : Addr) (n : Nat) : Same [a.block] w (w.freeze a n) := by
  have h := Lib.below_freeze (B := a.block) (Below.refl a.block w) (p := a) (Nat.le_refl _) n
  refine ⟨h.os, h.tape, h.output, h.size, fun b hb hn => ?_⟩
  have hn' : b ≠ a.block := by simpa using hn
  unfold World.freeze
  split
  · rfl
  · simp [Array.getElem?_modify, hn'.symm]
theorem DI (w0 : World) (B pb : Nat) (s : Str) (hB : Bd w0 B pb 159 [] s) (h0 : s ≠ []) : Calls prog 127 #[.pointer (some ⟨pb, 0, none⟩)] w0 (Rd fun v w' => v = .string (bs s) ∧ Same (Wk w0 B pb) w0 w') := by
  refine Ma func127 rfl ntmps127 Jb (Ed _) ?_
  obtain ⟨-, hle, ap, v, hh, hO, -⟩ := hB
  have hsl : s.length ≠ 0 := by simpa using h0
  obtain ⟨g, c1, cur, rfl, hbg, hg, hnc, hcm, hcs, htake⟩ : ∃ g cap cur, v = .slice (some ⟨g, 0, none⟩) s.length cap ∧ B ≤ g ∧ w0.heap[g]? = some (.cells cur 5 (0, 0)) ∧ s.length ≤ cap ∧ cap ≤ maxLen ∧ cur.size = cap * 1 ∧ cur.toList.take (s.length * 1) = Lib.byteCells s := by
    rcases hO.2 with ⟨_, hz⟩ | ⟨g, cap, cur, hv, r⟩
    · exact absurd hz hsl
    · exact ⟨g, cap, cur, hv, r⟩
  have hgm : g ∈ Wk w0 B pb := X4 hO rfl
  have hgn : g ≠ pb := Uo hO rfl hh (by rfl)
  have hF : FR w0 (Wk w0 B pb) [(pb, .cells #[ap, .slice (some ⟨g, 0, none⟩) s.length c1] 159)] w0 := (FR.start w0 (Wk w0 B pb)).addD hh (.inr (If.2 (.inl rfl))) Ga
  refine Ia ?_
  refine Da ?_
  refine Ca (Qj rfl) ?_
  refine Ya ?_
  refine Ha ?_
  refine Ia ?_
  refine Id [] (.free 0 (.free 1 (.free 2 (.free 3 (.free 5 (.free 6 (.free 7 (.free 8 (.free 9 (.act 4 (.act 10 (.free 11 .nil)))))))))))) hF ?_
  clear hF; intro w hF hE
  replace hg := (hE.block g (Fa hg) Ga).trans hg
  replace hO := Lh hO hE Ga
  clear hE
  refine ⟨fun wq => FR w0 (Wk w0 B pb) _ wq, hF, ?_⟩
  refine Xa rfl (De rfl) ?_
  refine Xa rfl (Of rfl) ?_
  refine Xa rfl (Kc Ie rfl) ?_
  refine Zo rfl (Vi isAgg157 rfl C0 0 rfl rfl) ?_
  refine Xa rfl (De rfl) ?_
  refine Xa rfl (Of rfl) ?_
  refine Xa rfl (Kc Ie rfl) ?_
  refine Zo rfl (Vi isAgg157 rfl C0 0 rfl rfl) ?_
  refine Xa rfl (Qe underlying157 rfl) ?_
  refine Pd rfl (XO rfl by_Om) hF ?_
  have hu : (Builtin.unsafeString_ #[196, 3] 9 #[.pointer (some ⟨g, 0, none⟩), .int .i64 s.length]).run prog w = .ok (.string (bs s)) (w.freeze ⟨g, 0, none⟩ s.length) := Lib.run_unsafeString_row w 196 3 9 5 underlying196 Gy g cur.size (by simp [World.shape?, hg]) s h0 by_Om (by simp only [maxLen] at hcm; omega) (fun j x hx => hO.cells (g := g) rfl j (.int .u8 x.toNat) (by simp [Lib.byteCells, hx]))
  have hEf : FR w0 (Wk w0 B pb) _ (w.freeze ⟨g, 0, none⟩ s.length) := hF.touch (Same.freeze w ⟨g, 0, none⟩ s.length) (fun b hb => by obtain rfl := List.mem_singleton.1 hb; exact ⟨fun _ => hgm, by simpa using hgn.symm⟩)
  refine Pd rfl (TO rfl rfl hu) hEf ?_
  replace hF := hEf
  refine Xa rfl (Qj rfl) ?_
  refine Jc ?_
  refine Ha ?_
  refine Xd (v := .string (bs s)) rfl rfl ?_
  exact ⟨rfl, hF.same⟩
theorem HL (w0 : World) (B pb : Nat) (m : Bool) (i : Int) (s : Str) (hB : Bd w0 B pb 161 [.bool (m), .int .i64 i] s) (h0 : s ≠ []) : Calls prog 127 #[.pointer (some ⟨pb, 0, none⟩)] w0 (Rd fun v w' => v = .string (bs s) ∧ Same (Wk w0 B pb) w0 w') := by
  refine Ma func127 rfl ntmps127 Jb (Ed _) ?_
  obtain ⟨-, hle, ap, v, hh, hO, -⟩ := hB
  have hsl : s.length ≠ 0 := by simpa using h0
  obtain ⟨g, c1, cur, rfl, hbg, hg, hnc, hcm, hcs, htake⟩ : ∃ g cap cur, v = .slice (some ⟨g, 0, none⟩) s.length cap ∧ B ≤ g ∧ w0.heap[g]? = some (.cells cur 5 (0, 0)) ∧ s.length ≤ cap ∧ cap ≤ maxLen ∧ cur.size = cap * 1 ∧ cur.toList.take (s.length * 1) = Lib.byteCells s := by
    rcases hO.2 with ⟨_, hz⟩ | ⟨g, cap, cur, hv, r⟩
    · exact absurd hz hsl
    · exact ⟨g, cap, cur, hv, r⟩
  have hgm : g ∈ Wk w0 B pb := X4 hO rfl
  have hgn : g ≠ pb := Uo hO rfl hh (by rfl)
  have hF : FR w0 (Wk w0 B pb) [(pb, .cells #[ap, .slice (some ⟨g, 0, none⟩) s.length c1, .bool (m), .int .i64 i] 161)] w0 := (FR.start w0 (Wk w0 B pb)).addD hh (.inr (If.2 (.inl rfl))) Ga
  refine Ia ?_
  refine Da ?_
  refine Ca (Qj rfl) ?_
  refine Ya ?_
  refine Ha ?_
  refine Ia ?_
  refine Id [] (.free 0 (.free 1 (.free 2 (.free 3 (.free 5 (.free 6 (.free 7 (.free 8 (.free 9 (.act 4 (.act 10 (.free 11 .nil)))))))))))) hF ?_
  clear hF; intro w hF hE
  replace hg := (hE.block g (Fa hg) Ga).trans hg
  replace hO := Lh hO hE Ga
  clear hE
  refine ⟨fun wq => FR w0 (Wk w0 B pb) _ wq, hF, ?_⟩
  refine Xa rfl (De rfl) ?_
  refine Xa rfl (Of rfl) ?_
  refine Xa rfl (Kc Ie rfl) ?_
  refine Zo rfl (Vi isAgg157 rfl C0 0 rfl rfl) ?_
  refine Xa rfl (De rfl) ?_
  refine Xa rfl (Of rfl) ?_
  refine Xa rfl (Kc Ie rfl) ?_
  refine Zo rfl (Vi isAgg157 rfl C0 0 rfl rfl) ?_
  refine Xa rfl (Qe underlying157 rfl) ?_
  refine Pd rfl (XO rfl by_Om) hF ?_
  have hu : (Builtin.unsafeString_ #[196, 3] 9 #[.pointer (some ⟨g, 0, none⟩), .int .i64 s.length]).run prog w = .ok (.string (bs s)) (w.freeze ⟨g, 0, none⟩ s.length) := Lib.run_unsafeString_row w 196 3 9 5 underlying196 Gy g cur.size (by simp [World.shape?, hg]) s h0 by_Om (by simp only [maxLen] at hcm; omega) (fun j x hx => hO.cells (g := g) rfl j (.int .u8 x.toNat) (by simp [Lib.byteCells, hx]))
  have hEf : FR w0 (Wk w0 B pb) _ (w.freeze ⟨g, 0, none⟩ s.length) := hF.touch (Same.freeze w ⟨g, 0, none⟩ s.length) (fun b hb => by obtain rfl := List.mem_singleton.1 hb; exact ⟨fun _ => hgm, by simpa using hgn.symm⟩)
  refine Pd rfl (TO rfl rfl hu) hEf ?_
  replace hF := hEf
  refine Xa rfl (Qj rfl) ?_
  refine Jc ?_
  refine Ha ?_
  refine Xd (v := .string (bs s)) rfl rfl ?_
  exact ⟨rfl, hF.same⟩
theorem On {w0 : World} {B pb T : Nat} {rest : List Value} {s : Str} (hB : Bd w0 B pb T rest s) (c : UInt8) (hl : s.length + 1 ≤ 140737488355328) : Ys 191 #[.pointer (some ⟨pb, 0, none⟩), .int .u8 ((c.toNat : Nat) : Int)] .nilIface w0 B pb T rest (s ++ [c]) := by
  rcases hB.shp with ⟨rfl, rfl⟩ | ⟨rfl, m, i, rfl⟩
  · exact R8 w0 B pb s hB c hl
  · exact P7 w0 B pb m i s hB c hl
theorem Dj {w0 : World} {B pb T : Nat} {rest : List Value} {s : Str} (hB : Bd w0 B pb T rest s) (t : Str) (hl : s.length + t.length ≤ 140737488355328) : Ys 154 #[.pointer (some ⟨pb, 0, none⟩), .string (bs t)] (.tuple #[.int .i64 ((t.length : Nat) : Int), .nilIface]) w0 B pb T rest (s ++ t) := by
  rcases hB.shp with ⟨rfl, rfl⟩ | ⟨rfl, m, i, rfl⟩
  · exact H1 w0 B pb s hB t hl
  · exact E1 w0 B pb m i s hB t hl
theorem D7 {w0 : World} {B pb T : Nat} {rest : List Value} {s : Str} (hB : Bd w0 B pb T rest s) (r : Int) (h0 : -2147483648 ≤ r) (h1 : r ≤ 2147483647) (hl : s.length + 4 ≤ 140737488355328) : Ys 226 #[.pointer (some ⟨pb, 0, none⟩), .int .i32 r] (.tuple #[.int .i64 (((Gh r).length : Nat) : Int), .nilIface]) w0 B pb T rest (s ++ Gh r) := by
  rcases hB.shp with ⟨rfl, rfl⟩ | ⟨rfl, m, i, rfl⟩
  · exact R7 w0 B pb s hB r h0 h1 hl
  · exact U7 w0 B pb m i s hB r h0 h1 hl
theorem J8 {w0 : World} {B pb T : Nat} {rest : List Value} {s : Str} (hB : Bd w0 B pb T rest s) (h0 : s ≠ []) : Calls prog 127 #[.pointer (some ⟨pb, 0, none⟩)] w0 (Rd fun v w' => v = .string (bs s) ∧ Same (Wk w0 B pb) w0 w') := by
  rcases hB.shp with ⟨rfl, rfl⟩ | ⟨rfl, m, i, rfl⟩
  · exact DI w0 B pb s hB h0
  · exact HL w0 B pb m i s hB h0
structure BW (w0 : World) (Ds : List Nat) (w : World) (B pb T : Nat) (rest : List Value) (s : Str) : Prop where
  bd : Bd w B pb T rest s
  sub : ∀ x ∈ Wk w B pb, x < w0.heap.size → x ∈ Ds
  ge : w0.heap.size ≤ w.heap.size
section
variable {w0 w w' : World} {Ds E : List Nat} {bs_ : List (Nat × Obj)} {B pb T : Nat} {rest : List Value} {s t : Str}
theorem BW.start (h : Bd w0 B pb T rest s) : BW w0 (Wk w0 B pb) w0 B pb T rest s := ⟨h, fun x hx _ => hx, Nat.le_refl _⟩
theorem BW.own (h : Bd w B pb T rest s) (hb : w0.heap.size ≤ B) (hg : w0.heap.size ≤ w.heap.size) : BW w0 Ds w B pb T rest s :=
  ⟨h, fun x hx hl => by
    have := h.le
    rcases If.1 hx with rfl | ⟨-, h2, -⟩ <;> omega, hg⟩
theorem BW.lt (h : BW w0 Ds w B pb T rest s) : pb < w.heap.size := h.bd.lt
theorem BW.wrote (h : BW w0 Ds w B pb T rest s) (hb : Bd w' B pb T rest t) (hs : Same (Wk w B pb) w w') : BW w0 Ds w' B pb T rest t :=
  ⟨hb, fun x hx hl => by
    rcases Wk.step hs hx with h1 | h1
    · exact h.sub x h1 hl
    · have := h.ge; omega, Nat.le_trans h.ge hs.size⟩
theorem FR.wrote (hF : FR w0 Ds bs_ w) (h : BW w0 Ds w B pb T rest s) (hs : Same (Wk w B pb) w w') (hb : ∀ p ∈ bs_, Zi p.2 = false ∧ p.1 ≠ pb) : FR w0 Ds bs_ w' :=
  hF.touch hs fun x hx => ⟨h.sub x hx, fun p hp e => by
    have h1 := hb p hp
    rcases If.1 hx with h2 | ⟨-, -, h3⟩
    · exact h1.2 (e.trans h2)
    · rw [← e, Sp (hF.memHeap hp), h1.1] at h3; cases h3⟩
theorem Bd.same (h : Bd w B pb T rest s) (hs : Same E w w') (hp : pb ∉ E) (he : ∀ x ∈ E, Lq w x = false) : Bd w' B pb T rest s := by
  obtain ⟨h1, h2, ap, v, h3, h4, h5⟩ := h
  refine ⟨h1, h2, ap, v, (hs.block pb (Fa h3) hp).trans h3, Lh h4 hs (fun g hg hm => ?_), h5⟩
  have := (Km h4 hg).2.2
  rw [he g hm] at this; cases this
theorem Bd.ext (h : Bd w B pb T rest s) (hs : Same [] w w') : Bd w' B pb T rest s := h.same hs Ga Ga
theorem BW.step (h : BW w0 Ds w B pb T rest s) (hs : Same E w w') (hp : pb ∉ E) (he : ∀ x ∈ E, Lq w x = false) (he' : ∀ x ∈ E, Lq w' x = false) : BW w0 Ds w' B pb T rest s :=
  ⟨h.bd.same hs hp he, fun x hx hl => by
    refine h.sub x (If.2 ?_) hl
    have hl2 := Nat.lt_of_lt_of_le hl h.ge
    rcases If.1 hx with rfl | ⟨-, h2, h3⟩
    · exact .inl rfl
    · refine .inr ⟨hl2, h2, ?_⟩
      have hn : x ∉ E := fun hm => by rw [he' x hm] at h3; cases h3
      rw [Lq, ← hs.block x hl2 hn]; exact h3, Nat.le_trans h.ge hs.size⟩
theorem BW.ext (h : BW w0 Ds w B pb T rest s) (hs : Same [] w w') : BW w0 Ds w' B pb T rest s := h.step hs Ga Ga Ga
theorem Rep.off {d : D} {cs : List Value} (h : Rep (fun x => x ∉ Wk w B pb) w d cs) (hs : Same (Wk w B pb) w w') : Rep (fun x => x ∉ Wk w' B pb) w' d cs :=
  ((h.old).same hs (fun b hb hn => hn.1 hb)).weaken fun x hx _ hm => by
    rcases Wk.step hs hm with h1 | h1
    · exact hx.1 h1
    · have := hx.2; omega
theorem Rep.off_ext {d : D} {cs : List Value} (h : Rep (fun x => x ∉ Wk w B pb) w d cs) (hp : pb < w.heap.size) (hs : Same [] w w') : Rep (fun x => x ∉ Wk w' B pb) w' d cs := h.off (hs.mono Ga)
end
end Go.Scarf
namespace Go.Scarf
open Go.RowKit Go.Proofs Go.Proofs.Tryz
section
variable {P : Program} {w : World} {ρ : Operand → Value} {dst : Option Nat} {ty : TypeId} {pos : String} {aft : Array Edge} {g : Option (Nat × Bool)}
theorem AI {t t' : TypeId} {x y : Operand} {k : IntKind} {a b c : Int} (hx : ρ x = .int k a) (hy : ρ y = .int k b) (h : bits .and k a b = c) :
    (execOp ρ ⟨dst, .binOp .and t x y t', ty, pos, aft, g⟩).run P w = .ok (.value (.int k c)) w := by
  simp [execOp, hx, hy, Zd, binOp, intBits_and, h]
theorem DP {t t' : TypeId} {x y : Operand} {k k2 : IntKind} {a c : Int} (m : Nat) (hx : ρ x = .int k a) (hy : ρ y = .int k2 m) (hm : m ≤ k.bits) (h : a.fdiv (2 ^ m) = c) :
    (execOp ρ ⟨dst, .binOp .shr t x y t', ty, pos, aft, g⟩).run P w = .ok (.value (.int k c)) w := by
  have hg : (eqGuard .shr t x y (.int k a) (.int k2 m)).run P w = .ok () w := by unfold eqGuard; simp
  have h0 : ¬ ((m : Int) < 0) := by omega
  simp [execOp, hx, hy, hg, binOp, Op.shift, h0, Nat.min_eq_left hm, h]
theorem Ps {t e N : Nat} {x y : Operand} {kk : IntKind} {b : Nat} (i : Nat) (ht : P.underlying t = some (.array N e)) (hs : ∀ w, (sizeOf e).run P w = .ok 1 w) (hx : ρ x = .pointer (some ⟨b, 0, none⟩)) (hy : ρ y = .int kk (i : Int)) (h1 : i < N) :
    (execOp ρ ⟨dst, .indexAddr t x y, ty, pos, aft, g⟩).run P w = .ok (.value (.pointer (some ⟨b, i, none⟩))) w := by
  have h2 : (0 : Int) ≤ (i : Int) ∧ (i : Int) < (N : Int) := by omega
  have e1 : (⟨b, 0, none⟩ : Addr).add i = ⟨b, i, none⟩ := by rw [Li, Nat.zero_add]
  simp [execOp, hx, hy, Instr.indexAt, run_underlying ht, Instr.sureAddr, asIntOf, h2, hs, e1]
  intro hh; omega
theorem SB {t e N : Nat} {x y : Operand} {kk : IntKind} {b : Nat} (i : Nat) (ht : P.underlying t = some (.array N e)) (hs : ∀ w, (sizeOf e).run P w = .ok 1 w) (hx : ρ x = .pointer (some ⟨b, 0, none⟩)) (hy : ρ y = .int kk (i : Int)) (h1 : i < N) :
    (execOp ρ ⟨dst, .slice t x (some y) none none, ty, pos, aft, g⟩).run P w = .ok (.value (.slice (some ⟨b, i, none⟩) (N - i) (N - i))) w := by
  have h0 : ¬ N = i := by omega
  have e1 : (⟨b, 0, none⟩ : Addr).add i = ⟨b, i, none⟩ := by rw [Li, Nat.zero_add]
  have e2 : (0 : Int) ≤ (i : Int) ∧ (i : Int) ≤ (N : Int) := by omega
  simp [execOp, hx, hy, Instr.sliceAt, run_underlying ht, Instr.sureAddr, Instr.sliceBounds, run_sliceBound, hs, e1, h0, e2]
theorem MH {t t' e : Nat} {x : Operand} {a : Addr} {n c : Nat} (s : Str) (ht : P.underlying t = some (.slice e)) (he : P.underlying e = some (.int .u8)) (hd : P.underlying t' = some .string) (hx : ρ x = .slice (some a) n c) (hn : s.length = n)
    (h : ∀ j (hj : j < s.length), w.cell? (a.add j) = some (.int .u8 (s[j].toNat : Int))) :
    (execOp ρ ⟨dst, .convert t t' x, ty, pos, aft, g⟩).run P w = .ok (.value (.string (bs s))) w := by
  have hl := Bo (P := P) a w ((s.map fun u => (u.toNat : Int)).map (Value.int .u8)) (m := n) (by simp [hn]) (fun j hj => by simp at hj ⊢; exact h j hj)
  have hb := run_bytesToString w a n c (s.map fun u => (u.toNat : Int)) hl
  have e1 : ∀ (l : Str) (acc : ByteArray), (l.map fun u => (u.toNat : Int)).foldl (fun r n => r.push (UInt8.ofNat n.toNat)) acc = ⟨acc.data ++ l.toArray⟩ := by
    intro l
    induction l with
    | nil => intro acc; simp
    | cons u l ih => intro acc; rw [List.map_cons, List.foldl_cons, ih]; simp [ByteArray.push]
  rw [e1] at hb
  simp [execOp, hx, run_convert_bytes_string w t t' e _ _ _ ht he hd, hb]
end
def OB : List Value := List.replicate 65 (.int .u8 0)
def Eu : Str := [48, 49, 50, 51, 52, 53, 54, 55, 56, 57, 97, 98, 99, 100, 101, 102, 103, 104, 105, 106, 107, 108, 109, 110, 111, 112, 113, 114, 115, 116, 117, 118, 119, 120, 121, 122]
def dg (k : Nat) : UInt8 := Eu.getD k 0
def Uk (r : Nat) : Str := if r < 16 then [dg r] else [dg (r / 16), dg (r % 16)]
theorem Kw {k : Nat} (h : k < Eu.length) : Eu[k] = dg k := by simp [dg, h]
theorem IR : ∀ r < 32, IntKind.u64.wrap ((r : Nat) : Int) = r := by decide
theorem GS : ∀ u < 32, bits .and .u64 ((u : Nat) : Int) 15 = ((u % 16 : Nat) : Int) := by decide
theorem QP (w0 : World) (hG : Gl w0) : Calls prog 213 #[.int .u64 16] w0 (Rd fun v w' => v = .int .i64 4 ∧ Same [] w0 w') := by
 obtain ⟨e, fz, hbr⟩ := hG.bru
 refine Ma func213 rfl ntmps213 Jb (Ed _) ?_
 have hF := FR.start w0 []
 refine Ka (Ca (Gc rfl) (Ea (Ia (Ka (Ca (Hb rfl) (Ja (v := .bool false) (Sd (Rg rfl rfl) Ra) (Ea (Bg rfl (Wa ?_)))))))))
 refine Ha (Ka (Ca (Hb rfl) (Ca (Hb rfl) (Ja (v := .int .u64 18446744073709551600) (SO rfl Ra) (Ja (v := .int .u64 16) (AI rfl rfl Ra) (Ja (v := .int .u64 4573923408821661840) (Z7 rfl rfl Ra) (Ja (v := .int .u64 15) (DP 58 rfl rfl Ra Ra) (Ja (v := .pointer (some (⟨6, 15, none⟩))) (Ps 15 underlying257 sizeOf5 rfl rfl Ra) ?_))))))))
 refine Ja (v := .int .u8 4) (Cb isAgg5 rfl (by rw [Ob (hF.heap0 hbr)]; rfl)) ?_
 refine Ja (v := .int .i64 4) (Mg underlying5 underlying3 rfl Ra) (Ca (Gc rfl) (Ea ?_))
 refine Xd (v := .int .i64 4) rfl rfl ?_
 exact ⟨rfl, hF.same⟩
theorem PU (w0 : World) (hG : Gl w0) : Calls prog 170 #[.int .u64 16] w0 (Rd fun v w' => v = .int .i64 4 ∧ Same [] w0 w') := by
 refine Ma func170 rfl ntmps170 Jb (Ed _) ?_
 have hF := FR.start w0 []
 refine Ka (Ca (Gc rfl) (Ea (Ia (Wq rfl (Ka (Ca (Hb rfl) ?_))))))
 refine Pb hF (QP _ (hG.ext hF.same)) (Eb GQ rfl rfl) ?_
 clear hF; intro w hF
 refine Ca (Gc rfl) (Ea ?_)
 refine Xd (v := .int .i64 4) rfl rfl ?_
 exact ⟨rfl, hF.same⟩
theorem GR (w0 : World) : Calls prog 169 #[.int .i64 16] w0 (Rd fun v w' => v = .bool true ∧ Same [] w0 w') := by
 refine Ma func169 rfl ntmps169 Jb (Ed _) ?_
 have hF := FR.start w0 []
 refine Ka (Ca (Ec rfl) (Cc (Ca (Hb rfl) (Ca (Hb rfl) (Ja (v := .int .i64 15) (Uw rfl rfl Ra) (Ja (v := .int .i64 0) (AI rfl rfl Ra) (Ja (v := .bool true) (Ld (Rg rfl rfl) Ra) (Ca (Ec rfl) (Ya ?_)))))))))
 refine Ha ?_
 refine Xd (v := .bool true) rfl rfl ?_
 exact ⟨rfl, hF.same⟩
theorem I6 (w0 : World) (hG : Gl w0) (r : Nat) (hr : r < 32) : Calls prog 136 #[.slice none 0 0, .int .u64 (r : Int), .int .i64 16, .bool false, .bool false] w0 (Rd fun v w' => v = .tuple #[.slice none 0 0, .string (bs (Uk r))] ∧ Same [] w0 w') := by
  refine Ma func136 rfl ntmps136 Jb (MB _ _ _ _ _) ?_
  have hF := FR.start w0 []
  refine Ia ?_
  refine Da ?_
  refine Ca (Il rfl) ?_
  refine Ca (Qj rfl) ?_
  refine Ya ?_
  refine Ha ?_
  refine Ia ?_
  refine Ia ?_
  refine Da ?_
  refine Ca (Hb rfl) ?_
  refine Ja (v := .bool false) (Sd (QC rfl rfl) Ra) ?_
  refine Ca (Fd rfl) ?_
  refine Ca (Hb rfl) ?_
  refine Ja (v := .bool false) (Sd (Rg rfl rfl) Ra) ?_
  refine Ca (Jd rfl rfl) ?_
  refine Ca (Fd rfl) ?_
  refine Ca (Hb rfl) ?_
  refine Ja (v := .bool false) (Sd (DE rfl rfl) Ra) ?_
  refine Ca (Jd rfl rfl) ?_
  refine Ya ?_
  refine Ha ?_
  refine Bg rfl ?_
  refine Wa ?_
  refine Ha ?_
  refine Ia ?_
  refine Da ?_
  refine Ig (cs := (List.toArray OB)) hF zeroValue205 Ib ?_
  clear hF; intro b1 w hb1 hF hE
  clear hE
  refine Ya ?_
  refine Ha ?_
  refine Ia ?_
  refine Da ?_
  refine Ca (Gc rfl) ?_
  refine Ya ?_
  refine Ha ?_
  refine Ia ?_
  refine Ia ?_
  refine Da ?_
  refine Ca (Fd rfl) ?_
  refine Ya ?_
  refine Ha ?_
  refine Bg rfl ?_
  refine Wa ?_
  refine Ha ?_
  refine Ia ?_
  refine Ia ?_
  refine Da ?_
  refine Ca (Hb rfl) ?_
  refine Pb hF (GR _) (Eb VP rfl rfl) ?_
  clear hF; intro w hF
  refine Ya ?_
  refine Ha ?_
  refine Ae rfl ?_
  refine Ia ?_
  refine Da ?_
  refine Ca (Hb rfl) ?_
  refine Ja (v := .int .u64 16) (Mg underlying3 underlying183 rfl Ra) ?_
  refine Pb hF (PU _ (hG.ext hF.same)) (Eb XQ rfl rfl) ?_
  clear hF; intro w hF
  refine Ja (v := .int .u64 4) (Mg underlying3 underlying183 rfl Ra) ?_
  refine Ca (Gc rfl) ?_
  refine Ya ?_
  refine Ha ?_
  refine Ia ?_
  refine Da ?_
  refine Ca (Hb rfl) ?_
  refine Ja (v := .int .u64 16) (Mg underlying3 underlying169 rfl Ra) ?_
  refine Ca (Gc rfl) ?_
  refine Ya ?_
  refine Ha ?_
  refine Ia ?_
  refine Da ?_
  refine Ca (Hb rfl) ?_
  refine Ja (v := .int .u64 16) (Mg underlying3 underlying183 rfl Ra) ?_
  refine Ja (v := .int .u64 15) (Uw rfl rfl Ra) ?_
  refine Ca (Gc rfl) ?_
  refine Ya ?_
  refine Ha ?_
  refine Ia ?_
  refine Va ?_
  refine Uc (fun μ σ w => ∃ (u : Nat), ∃ (i : Nat), ∃ (cs : List Value), μ = 2 * u ∧ ((u = r ∧ i = 65 ∧ cs = OB) ∨ (16 ≤ r ∧ u = r / 16 ∧ i = 64 ∧ cs = OB.set 64 (.int .u8 ((dg (r % 16)).toNat : Int)))) ∧ AllEq σ [(0, .slice none 0 0), (1, .int .u64 ((u : Int))), (3, .bool false), (4, .bool false), (10, .slice none 0 0), (11, .string (bs [])), (12, .pointer (some ⟨b1, 0, none⟩)), (13, .int .i64 ((i : Int))), (14, .int .u64 4), (15, .int .u64 16), (16, .int .u64 15)] ∧ FR w0 [] [(b1, .cells (List.toArray cs) 205)] w) _ ⟨r, 65, OB, rfl, (.inl ⟨rfl, rfl, rfl⟩), ⟨rfl, rfl, rfl, rfl, rfl, rfl, rfl, rfl, rfl, rfl, rfl, trivial⟩, hF⟩ ?_
  clear hF; rintro μ σ w ⟨u, i, cs, rfl, hI, hs, hF⟩
  refine Cg.slots hs ?_
  clear hs; intro σ
  have hcl : cs.length = 65 := by rcases hI with ⟨-, -, rfl⟩ | ⟨-, -, -, rfl⟩ <;> simp [OB]
  have hu32 : u < 32 := by omega
  refine Ia ?_
  refine Ia ?_
  refine Da ?_
  refine Ca (Hb rfl) ?_
  refine Ca (Hb rfl) ?_
  refine Ca (CD rfl rfl) ?_
  refine Ya ?_
  refine Ha ?_
  refine Pc rfl rfl (fun hc3 => ?_) (fun hc3 => ?_)
  ·
    refine Wa ?_
    refine Ha ?_
    refine Va ?_
    refine Ia ?_
    refine Da ?_
    refine Ca (Hb rfl) ?_
    refine Ca (Zu (((64 : Nat) : Int)) rfl rfl) ?_
    refine Ca (Gc rfl) ?_
    refine Ya ?_
    refine Ha ?_
    refine Ia ?_
    refine Da ?_
    refine Ca (Hb rfl) ?_
    refine Ca (Hb rfl) ?_
    refine Ca (Hb rfl) ?_
    refine Ja (v := .int .u64 (((u % 16 : Nat) : Int))) (AI rfl rfl (GS u by_Om)) ?_
    refine Ja (v := .int .u8 (((dg (u % 16)).toNat : Int))) (by rw [← Kw (show u % 16 < Eu.length by show u % 16 < 36; omega)]; exact Xh (u % 16) underlying9 rfl rfl _) ?_
    refine Ja (v := .pointer (some ⟨b1, 64, none⟩)) (Ps 64 underlying205 sizeOf5 rfl rfl Ra) ?_
    refine Bf 0 (l := [.int .u8 (((dg (u % 16)).toNat : Nat) : Int)]) (cs' := (List.toArray (cs.set 64 (.int .u8 (((dg (u % 16)).toNat : Nat) : Int))))) hF sizeOf5 rfl (v := .int .u8 (((dg (u % 16)).toNat : Nat) : Int)) rfl rfl Od rfl (by simp [hcl] <;> omega) (by simp [Hj]) ?_
    clear hF; intro w hF hE
    clear hE
    replace hF : FR w0 [] [(b1, .cells (List.toArray (cs.set 64 (.int .u8 (((dg (u % 16)).toNat : Nat) : Int)))) 205)] w := hF
    refine Ya ?_
    refine Ha ?_
    refine Da ?_
    refine Ca (Hb rfl) ?_
    refine Ca (Hb rfl) ?_
    refine Ja (v := .int .u64 (((u / 16 : Nat) : Int))) (DP 4 rfl rfl Ra (by rw [Int.fdiv_eq_ediv_of_nonneg _ Ra]; omega)) ?_
    refine Ca (Gc rfl) ?_
    refine Ya ?_
    refine Mb ?_
    refine Ic ⟨_, ?_, u / 16, 64, cs.set 64 (.int .u8 (((dg (u % 16)).toNat : Nat) : Int)), rfl, (.inr (by rcases hI with ⟨rfl, rfl, rfl⟩ | ⟨h16, rfl, rfl, rfl⟩ <;> first | omega | exact ⟨by omega, rfl, rfl, rfl⟩)), ⟨rfl, rfl, rfl, rfl, rfl, rfl, rfl, rfl, rfl, rfl, rfl, trivial⟩, hF⟩
    omega
  ·
    refine Nc (Lc rfl ?_)
    refine Ha ?_
    refine Ia ?_
    refine Da ?_
    refine Ca (Hb rfl) ?_
    refine Ca (Zu (((i - 1 : Nat) : Int)) rfl rfl) ?_
    refine Ca (Gc rfl) ?_
    refine Ya ?_
    refine Ha ?_
    refine Da ?_
    refine Ca (Hb rfl) ?_
    refine Ca (Hb rfl) ?_
    refine Ja (v := .int .u8 (((dg u).toNat : Int))) (by rw [← Kw (show u < Eu.length by show u < 36; omega)]; exact Xh u underlying9 rfl rfl _) ?_
    refine Ja (v := .pointer (some ⟨b1, (i - 1), none⟩)) (Ps (i - 1) underlying205 sizeOf5 rfl rfl by_Om) ?_
    refine Bf 0 (l := [.int .u8 (((dg (u)).toNat : Nat) : Int)]) (cs' := (List.toArray (cs.set (i - 1) (.int .u8 (((dg (u)).toNat : Nat) : Int))))) hF sizeOf5 rfl (v := .int .u8 (((dg (u)).toNat : Nat) : Int)) rfl rfl Od rfl (by simp [hcl] <;> omega) (by simp [Hj]) ?_
    clear hF; intro w hF hE
    clear hE
    replace hF : FR w0 [] [(b1, .cells (List.toArray (cs.set (i - 1) (.int .u8 (((dg (u)).toNat : Nat) : Int)))) 205)] w := hF
    refine Ya ?_
    refine Ha ?_
    refine Ia ?_
    refine Ia ?_
    refine Da ?_
    refine Ca (Fd rfl) ?_
    refine Ya ?_
    refine Ha ?_
    refine Bg rfl ?_
    refine Wa ?_
    refine Ha ?_
    refine Ia ?_
    refine Ia ?_
    refine Da ?_
    refine Ca (Fd rfl) ?_
    refine Ya ?_
    refine Ha ?_
    refine Bg rfl ?_
    refine Wa ?_
    refine Ha ?_
    refine Ia ?_
    refine Da ?_
    refine Ca (Hb rfl) ?_
    refine Ja (v := .slice (some ⟨b1, i - 1, none⟩) (65 - (i - 1)) (65 - (i - 1))) (SB (i - 1) underlying205 sizeOf5 rfl rfl by_Om) ?_
    have hfin : (Uk r).length = 65 - (i - 1) ∧ ∀ j (hj : j < (Uk r).length), w.cell? ((⟨b1, i - 1, none⟩ : Addr).add j) = some (.int .u8 ((Uk r)[j].toNat : Int)) := by
      have hh := hF.heap (i := 0) rfl
      rcases hI with ⟨rfl, rfl, rfl⟩ | ⟨h16, rfl, rfl, rfl⟩
      · have h1 : Uk u = [dg u] := by rw [Uk, if_pos by_Om]
        refine ⟨by rw [h1]; rfl, fun j hj => ?_⟩
        have hj0 : j = 0 := by rw [h1] at hj; simpa using hj
        subst hj0
        rw [Li, Ob hh]; simp [h1, OB]
      · have h1 : Uk r = [dg (r / 16), dg (r % 16)] := by rw [Uk, if_neg by_Om]
        refine ⟨by rw [h1]; rfl, fun j hj => ?_⟩
        have hj2 : j = 0 ∨ j = 1 := by rw [h1] at hj; simp at hj; omega
        rw [Li, Ob hh]
        rcases hj2 with rfl | rfl <;> simp [h1, OB]
    refine Ja (v := .string (bs (Uk r))) (MH (Uk r) underlying157 underlying5 underlying9 rfl hfin.1 hfin.2) ?_
    refine Ca (Qj rfl) ?_
    refine Ya ?_
    refine Ha ?_
    refine Fc (Bc (Za (Ye (v := .slice _ _ _) (x := .string (bs (Uk r))) rfl rfl rfl) ?_))
    exact ⟨rfl, hF.same⟩
theorem YJ (w0 : World) (hG : Gl w0) (r : Nat) (hr : r < 32) : Calls prog 106 #[.int .i64 (r : Int), .int .i64 16] w0 (Rd fun v w' => v = .string (bs (Uk r)) ∧ Same [] w0 w') := by
 refine Ma func106 rfl ntmps106 Jb (Vd _ _) ?_
 have hF := FR.start w0 []
 refine Ka (Ca (Qj rfl) (Ea (Ia (Ka (Ca (Hb rfl) (Ja (v := .bool false) (Sd (Rg rfl rfl) Ra) (Ea (Bg rfl (Wa ?_)))))))))
 refine Ha (Ka (Ca (Hb rfl) (Ja (v := .int .u64 ((r : Int))) (Mg underlying2 underlying169 rfl (IR r hr)) (Ca (Hb rfl) (Ca (Hb rfl) (Ja (v := .bool false) (Sd (QC rfl rfl) by_Om) ?_))))))
 refine Pb hF (I6 _ (hG.ext hF.same) r hr) (Ou TR rfl rfl rfl rfl rfl rfl) ?_
 clear hF; intro w hF
 refine Ca (Xm rfl) (Ca (TA rfl rfl) (Ca (TC rfl rfl) (Ca (Il rfl) (Ca (Qj rfl) (Cc (Ca (Lf rfl) (Ca (Qj rfl) (Ea ?_))))))))
 refine Xd (v := .string (bs (Uk r))) rfl rfl ?_
 exact ⟨rfl, hF.same⟩
theorem OT (w0 : World) (hG : Gl w0) (r : Nat) (hr : r < 32) : Calls prog 227 #[.int .i64 (r : Int), .int .i64 16] w0 (Rd fun v w' => v = .string (bs (Uk r)) ∧ Same [] w0 w') := by
 refine Ma func227 rfl ntmps227 Jb (Vd _ _) ?_
 have hF := FR.start w0 []
 refine Ka (Ca (Qj rfl) (Cc (Ca (Hb rfl) (Ca (Hb rfl) ?_))))
 refine Pb hF (YJ _ (hG.ext hF.same) r hr) (Qb ER rfl rfl rfl) ?_
 clear hF; intro w hF
 refine Ca (Qj rfl) (Ea ?_)
 refine Xd (v := .string (bs (Uk r))) rfl rfl ?_
 exact ⟨rfl, hF.same⟩
def Se (r : Int) : Int := if r = 34 then 34 else if r = 92 then 92 else if r = 8 then 98 else if r = 12 then 102 else if r = 10 then 110 else if r = 13 then 114 else if r = 9 then 116 else 0
theorem DH (w0 : World) (r : Int) : Calls prog 225 #[.int .i32 r] w0 (Rd fun v w' => v = .int .u8 (Se r) ∧ Same [] w0 w') := by
 refine Ma func225 rfl ntmps225 Jb (Ed _) ?_
 have hF := FR.start w0 []
 refine Ka (Ca (Gc rfl) (Ea (Ia (Ka (Ca (Hb rfl) (Ea (Va (Ia (Ia ?_)))))))))
 refine Da (Ca (Fo rfl rfl) (Ca (Ec rfl) (Ea ?_)))
 refine Pc rfl rfl (fun hc0 => ?_) (fun hc0 => ?_)
 refine Wa (Ha (Ae rfl (Ka (Ca (Hb rfl) ?_))))
 refine Ja (v := .int .u8 (Se r)) (Mg underlying21 underlying5 rfl (by rcases (by first | exact .inl (by assumption) | exact .inr (by assumption) : r = 34 ∨ r = 92) with rfl | rfl <;> decide)) ?_
 refine Ca (Gc rfl) (Ea ?_)
 refine Xd (v := .int .u8 (Se r)) rfl rfl ?_
 refine ⟨?_, hF.same⟩; simp_all [Se]
 refine Da (Ca (Fo rfl rfl) (Ca (Ec rfl) (Ea ?_)))
 refine Pc rfl rfl (fun hc1 => ?_) (fun hc1 => ?_)
 refine Ka (Ca (Hb rfl) ?_)
 refine Ja (v := .int .u8 (Se r)) (Mg underlying21 underlying5 rfl (by rcases (by first | exact .inl (by assumption) | exact .inr (by assumption) : r = 34 ∨ r = 92) with rfl | rfl <;> decide)) ?_
 refine Ca (Gc rfl) (Ea ?_)
 refine Xd (v := .int .u8 (Se r)) rfl rfl ?_
 refine ⟨?_, hF.same⟩; simp_all [Se]
 refine Ka (Ca (Fo rfl rfl) (Ca (Ec rfl) (Ea ?_)))
 refine Pc rfl rfl (fun hc2 => ?_) (fun hc2 => ?_)
 refine Ka (Ca (Gc rfl) (Ea ?_))
 refine Xd (v := .int .u8 98) rfl rfl ?_
 refine ⟨?_, hF.same⟩; simp_all [Se]
 refine Ka (Ca (Fo rfl rfl) (Ca (Ec rfl) (Ea ?_)))
 refine Pc rfl rfl (fun hc3 => ?_) (fun hc3 => ?_)
 refine Ka (Ca (Gc rfl) (Ea ?_))
 refine Xd (v := .int .u8 102) rfl rfl ?_
 refine ⟨?_, hF.same⟩; simp_all [Se]
 refine Ka (Ca (Fo rfl rfl) (Ca (Ec rfl) (Ea ?_)))
 refine Pc rfl rfl (fun hc4 => ?_) (fun hc4 => ?_)
 refine Ka (Ca (Gc rfl) (Ea ?_))
 refine Xd (v := .int .u8 110) rfl rfl ?_
 refine ⟨?_, hF.same⟩; simp_all [Se]
 refine Ka (Ca (Fo rfl rfl) (Ca (Ec rfl) (Ea ?_)))
 refine Pc rfl rfl (fun hc5 => ?_) (fun hc5 => ?_)
 refine Ka (Ca (Gc rfl) (Ea ?_))
 refine Xd (v := .int .u8 114) rfl rfl ?_
 refine ⟨?_, hF.same⟩; simp_all [Se]
 refine Ka (Ca (Fo rfl rfl) (Ca (Ec rfl) (Ea ?_)))
 refine Pc rfl rfl (fun hc6 => ?_) (fun hc6 => ?_)
 refine Ka (Ca (Gc rfl) (Ea ?_))
 refine Xd (v := .int .u8 116) rfl rfl ?_
 refine ⟨?_, hF.same⟩; simp_all [Se]
 refine Wa (Mb (Ha (Ka (Ca (Gc rfl) (Ea ?_)))))
 refine Xd (v := .int .u8 0) rfl rfl ?_
 refine ⟨?_, hF.same⟩; simp_all [Se]
end Go.Scarf
namespace Go.Scarf
open Go.RowKit Go.Proofs Go.Proofs.Tryz
def Rp (r : Nat) : Str := if Se r ≠ 0 then [92, UInt8.ofNat (Se r).toNat] else if 32 ≤ r then Gh r else [92, 117] ++ Lib.repeatL [48] (4 - (Uk r).length) ++ Uk r
def Nx : Nat → Str → Nat → Str
  | 0, _, _ => []
  | f + 1, s, p => if p < s.length then Rp (Utf8.decode (bs s) p).1 ++ Nx f s (p + (Utf8.decode (bs s) p).2) else []
theorem VC : ∀ (f g : Nat) (s : Str) (p : Nat), s.length - p ≤ f → s.length - p ≤ g → Nx f s p = Nx g s p
  | 0, 0, _, _, _, _ => rfl
  | 0, g + 1, s, p, h, _ => by rw [Nx, Nx, if_neg by_Om]
  | f + 1, 0, s, p, _, h => by rw [Nx, Nx, if_neg by_Om]
  | f + 1, g + 1, s, p, h1, h2 => by
    rw [Nx, Nx]
    split
    · have h3 := Cf s p
      rw [VC f g s _ by_Om by_Om]
    · rfl
def Oq (s : Str) (p : Nat) : Str := Nx (s.length - p) s p
theorem Bn {s : Str} {p : Nat} (h : p < s.length) : Oq s p = Rp (Utf8.decode (bs s) p).1 ++ Oq s (p + (Utf8.decode (bs s) p).2) := by
  have h3 := Cf s p
  obtain ⟨f, hf⟩ : ∃ f, s.length - p = f + 1 := ⟨s.length - p - 1, by omega⟩
  rw [Oq, hf, Nx, if_pos h, Oq, VC f (s.length - (p + (Utf8.decode (bs s) p).2)) s _ by_Om by_Om]
theorem Cw {s : Str} {p : Nat} (h : ¬ p < s.length) : Oq s p = [] := by
  have e : s.length - p = 0 := by omega
  rw [Oq, e, Nx]
def Cs (s : Str) : Str := [34] ++ Oq s 0 ++ [34]
theorem Wr (r : Int) : 0 ≤ Se r ∧ Se r < 256 := by
  unfold Se
  repeat' split
  all_goals omega
theorem Yl (r : Nat) : 1 ≤ (Uk r).length ∧ (Uk r).length ≤ 2 := by unfold Uk; split <;> simp
theorem Yo (n : Nat) : (Lib.repeatL [48] n).length = n := by
  induction n with
  | zero => rfl
  | succ n ih => simp [Lib.repeatL, ih]; try omega
theorem Nn (r : Nat) : (Rp r).length ≤ 6 := by
  unfold Rp
  have h1 := So r
  have h2 := Yl r
  repeat' split
  · simp
  · omega
  · simp [Yo]; omega
theorem Gg {w0 : World} {B pb T : Nat} {rest : List Value} {s : Str} (hB : Bd w0 B pb T rest s) (z : Int) (h0 : 0 ≤ z) (h1 : z < 256) (hl : s.length + 1 ≤ 140737488355328) : Ys 191 #[.pointer (some ⟨pb, 0, none⟩), .int .u8 z] .nilIface w0 B pb T rest (s ++ [UInt8.ofNat z.toNat]) := by
  have h := On hB (UInt8.ofNat z.toNat) hl
  have e : (((UInt8.ofNat z.toNat).toNat : Nat) : Int) = z := by simp only [UInt8.toNat_ofNat']; omega
  rwa [e] at h
theorem YN (w0 : World) (hG : Gl w0) (s : Str) (hl : s.length ≤ 17592186044416) : Calls prog 190 #[.string (bs s)] w0 (Rd fun v w' => v = (if Lib.validD s = true then .tuple #[.string (bs (Cs s)), .int .i64 0] else .tuple #[.string (bs []), .int .i64 2]) ∧ Same [] w0 w') := by
 refine Ma func190 rfl ntmps190 Jb (Ed _) ?_
 have hF := FR.start w0 []
 refine Ka (Ca (Qj rfl) (Ca (Gc rfl) (Ea (Ia (Ka (Ca (Lf rfl) ?_))))))
 refine Db (GD s by_Om _ (hG.ext hF.same)) (Eb FP rfl rfl) ?_
 rintro _ w ⟨n0, rfl, hE⟩
 replace hF := hF.ext hE
 clear hE
 refine Ca (Xm rfl) (Ca (Zn rfl rfl) (Ca (Ar rfl rfl) (Ca (Gc rfl) (Ca (Ec rfl) (Cc (Ca (Fd rfl) (Ca (Oo rfl) (Ea ?_))))))))
 refine Pj rfl rfl (fun hc0 => ?_) (fun hc0 => ?_)
 refine Ka (Ca (Qj rfl) (Ca (Gc rfl) (Ea ?_)))
 refine Fc (Bc (Za (Ye (v := .string (bs [])) (x := .int .i64 2) rfl rfl rfl) ?_))
 exact ⟨by rw [if_neg (by simpa using hc0)], hF.same⟩
 refine Wa (Ha (Ka ?_))
 refine Ig (cs := #[.pointer none, .slice none 0 0]) hF zeroValue159 rfl ?_
 clear hF; rintro b1 w hb1 hF -
 refine Cc ?_
 have hBn : BW w0 [] w b1 b1 159 [] [] := BW.own ⟨.inl ⟨rfl, rfl⟩, Nat.le_refl _, _, _, hF.heap (i := 0) rfl, World.ownsRow_nil _ _ _ _, .inl rfl⟩ (hF.ge (i := 0) rfl) hF.same.size
 have hB := hBn
 replace hF := hF.drop 1
 replace hF : FR w0 [] [] w := hF
 have ho : (0 : Nat) ≤ 0 ∧ ([] : Str).length ≤ 0 := by simp
 refine Db (Gg hB.bd (34) by_Om by_Om Ga) (Qb Ym rfl rfl rfl) ?_
 rintro _ w ⟨rfl, hBd, hE⟩
 replace hF := hF.wrote hB hE Ga
 replace hB := hB.wrote hBd hE
 clear hBd hE
 refine Ea (Ia (Ka (Ca (Lf rfl) ?_)))
 refine Qt (str := s) hF underlying9 rfl ?_
 clear hF; intro b2 w hb2 hF hE
 have nb2 : b2 ≠ b1 := by have := hB.lt; omega
 replace hB := hB.ext hE
 clear hE
 refine Ea (Va ?_)
 refine Uc (fun μ σ w => ∃ (q : Nat), ∃ (o : Str), μ = s.length - q ∧ (o ++ Oq s q = [34] ++ Oq s 0) ∧ (o.length ≤ 1 + 6 * q ∧ o.length ≤ 1 + 6 * s.length) ∧ (BW w0 [] w b1 b1 159 [] o) ∧ AllEq σ [(6, .pointer (some ⟨b1, 0, none⟩)), (20, .pointer (some ⟨b2, 0, none⟩))] ∧ FR w0 [] [(b2, .stringIter (bs s) (q))] w) _ ⟨0, [34], rfl, (rfl), Ga, (hB), O7, hF⟩ ?_
 clear hF; rintro μ σ w ⟨q, o, rfl, hq, ho, hB, hs, hF⟩
 refine Cg.slots hs ?_
 clear hs; intro σ
 have hr2 : Lq w b2 = false := by rw [Sp (hF.heap (i := 0) rfl)]; rfl
 refine Ka ?_
 by_cases hn0 : (q) < (s : Str).length
 refine Vx 0 (p := q) (str := s) hF rfl rfl hn0 ?_
 clear hF; intro w hF hE
 replace hB := hB.step hE (by simpa using nb2.symm) (by simpa using hr2) (by simp [Sp (hF.heap (i := 0) rfl), Zi])
 clear hE
 replace hF : FR w0 [] [(b2, .stringIter (bs s) (q + (Utf8.decode (bs s) (q)).2))] w := hF
 refine Ca (Ar rfl rfl) (Ea (Ia (Ae rfl (Wa (Ha (Va (Ka (Ca (Zn rfl rfl) (Ca (Gc rfl) (Ea ?_))))))))))
 refine Ia (Ka (Ca (Hb rfl) ?_))
 refine Db (DH _ (((Utf8.decode (bs s) q).1 : Nat) : Int)) (Eb VQ rfl rfl) ?_
 rintro _ w ⟨rfl, hE⟩
 replace hF := hF.ext hE
 replace hB := hB.ext hE
 clear hE
 refine Ca (Gc rfl) (Cc (Ca (Hb rfl) (Ca (Ux rfl rfl) (Ea ?_))))
 refine Pc rfl rfl (fun hc2 => ?_) (fun hc2 => ?_)
 refine Ka ?_
 refine Db (Gg hB.bd (92) by_Om by_Om (by have h1 := ho.1; have h2 := ho.2; simp; omega)) (Qb Ym rfl rfl rfl) ?_
 rintro _ w ⟨rfl, hBd, hE⟩
 replace hF := hF.wrote hB hE (by simp [Zi, nb2])
 replace hB := hB.wrote hBd hE
 clear hBd hE
 refine Cc (Ca (Hb rfl) ?_)
 refine Db (Gg hB.bd (Se (((Utf8.decode (bs s) q).1 : Nat) : Int)) (Wr _).1 (Wr _).2 (by have h1 := ho.1; have h2 := ho.2; simp; omega)) (Qb Ym rfl rfl rfl) ?_
 rintro _ w ⟨rfl, hBd, hE⟩
 replace hF := hF.wrote hB hE (by simp [Zi, nb2])
 replace hB := hB.wrote hBd hE
 have e1 : o ++ [UInt8.ofNat (92 : Int).toNat] ++ [UInt8.ofNat (Se (((Utf8.decode (bs s) q).1 : Nat) : Int)).toNat] = o ++ Rp (Utf8.decode (bs s) q).1 := by rw [Rp, if_pos (by simpa using hc2)]; simp
 rw [e1] at hB
 clear hBd hE
 refine Ea ?_
 refine Nc (Lc rfl ?_)
 have h1 := Cf s q
 refine Ic ⟨_, ?_, q + (Utf8.decode (bs s) q).2, o ++ Rp (Utf8.decode (bs s) q).1, rfl, (by rw [List.append_assoc, ← Bn by_Om]; exact hq), (by have h1 := Cf s q; have h2 := Nn (Utf8.decode (bs s) q).1; rw [List.length_append]; omega), (hB), O7, hF⟩
 omega
 refine Wa (Ha (Ia (Ka (Ca (Hb rfl) (Ca (CD rfl rfl) (Ea ?_))))))
 refine Pc rfl rfl (fun hc3 => ?_) (fun hc3 => ?_)
 refine Ka (Ca (Hb rfl) ?_)
 refine Db (D7 hB.bd (((Utf8.decode (bs s) q).1 : Nat) : Int) by_Om (by have := Lib.rune_le (bs s) q; omega) (by have h1 := ho.1; have h2 := ho.2; simp; omega)) (Qb JR rfl rfl rfl) ?_
 rintro _ w ⟨rfl, hBd, hE⟩
 replace hF := hF.wrote hB hE (by simp [Zi, nb2])
 replace hB := hB.wrote hBd hE
 have e1 : o ++ Gh (((Utf8.decode (bs s) q).1 : Nat) : Int) = o ++ Rp (Utf8.decode (bs s) q).1 := by rw [Rp, if_neg (by simpa using hc2), if_pos by_Om]
 rw [e1] at hB
 clear hBd hE
 refine Ea ?_
 refine Nc (Lc rfl ?_)
 have h1 := Cf s q
 refine Ic ⟨_, ?_, q + (Utf8.decode (bs s) q).2, o ++ Rp (Utf8.decode (bs s) q).1, rfl, (by rw [List.append_assoc, ← Bn by_Om]; exact hq), (by have h1 := Cf s q; have h2 := Nn (Utf8.decode (bs s) q).1; rw [List.length_append]; omega), (hB), O7, hF⟩
 omega
 refine Wa (Ha (Ka (Ca (Hb rfl) (Ja (v := .int .i64 ((((Utf8.decode (bs s) q).1 : Nat) : Int))) (Mg underlying21 underlying2 rfl (Un by_Om by_Om)) ?_))))
 refine Db (OT _ (hG.ext hF.same) (Utf8.decode (bs s) q).1 by_Om) (Qb DQ rfl rfl rfl) ?_
 rintro _ w ⟨rfl, hE⟩
 replace hF := hF.ext hE
 replace hB := hB.ext hE
 clear hE
 refine Ca (Qj rfl) (Ea (Da (Ca (Lf rfl) (Ca (H9 underlying9 rfl) (Ja (v := .int .i64 (((4 - (Uk (Utf8.decode (bs s) q).1).length : Nat) : Int))) (Uw rfl rfl (have := Yl (Utf8.decode (bs s) q).1; Bi by_Om by_Om by_Om)) ?_)))))
 refine Db (S4 ((4 - (Uk (Utf8.decode (bs s) q).1).length : Nat) : Int) by_Om by_Om _) (Qb S_ rfl rfl rfl) ?_
 rintro _ w ⟨rfl, hE⟩
 replace hF := hF.ext hE
 replace hB := hB.ext hE
 clear hE
 refine Ja (v := .string (bs (([92, 117]) ++ (Lib.repeatL [48] (4 - (Uk (Utf8.decode (bs s) q).1).length))))) (Uq rfl rfl (by have := Yl (Utf8.decode (bs s) q).1; simp [Yo]; omega)) ?_
 refine Ca (Lf rfl) ?_
 refine Ja (v := .string (bs ((([92, 117]) ++ (Lib.repeatL [48] (4 - (Uk (Utf8.decode (bs s) q).1).length))) ++ (Uk (Utf8.decode (bs s) q).1)))) (Uq rfl rfl (by have := Yl (Utf8.decode (bs s) q).1; simp [Yo]; omega)) ?_
 refine Db (Dj hB.bd _ (by have := Yl (Utf8.decode (bs s) q).1; have h1 := ho.1; have h2 := ho.2; simp [Yo]; omega)) (Qb Py rfl rfl rfl) ?_
 rintro _ w ⟨rfl, hBd, hE⟩
 replace hF := hF.wrote hB hE (by simp [Zi, nb2])
 replace hB := hB.wrote hBd hE
 have e1 : o ++ ((([92, 117]) ++ (Lib.repeatL [48] (4 - (Uk (Utf8.decode (bs s) q).1).length))) ++ (Uk (Utf8.decode (bs s) q).1)) = o ++ Rp (Utf8.decode (bs s) q).1 := by rw [Rp, if_neg (by simpa using hc2), if_neg by_Om]
 rw [e1] at hB
 clear hBd hE
 refine Ya (Mb ?_)
 have h1 := Cf s q
 refine Ic ⟨_, ?_, q + (Utf8.decode (bs s) q).2, o ++ Rp (Utf8.decode (bs s) q).1, rfl, (by rw [List.append_assoc, ← Bn by_Om]; exact hq), (by have h1 := Cf s q; have h2 := Nn (Utf8.decode (bs s) q).1; rw [List.length_append]; omega), (hB), O7, hF⟩
 omega
 refine Wo 0 (p := q) (str := s) hF rfl rfl hn0 ?_
 refine Ca (Ar rfl rfl) (Ea (Ia (Bg rfl ?_)))
 refine Nc (Lc rfl ?_)
 refine Ha (Ka ?_)
 refine Db (Gg hB.bd (34) by_Om by_Om (by have h1 := ho.1; have h2 := ho.2; simp; omega)) (Qb Ym rfl rfl rfl) ?_
 rintro _ w ⟨rfl, hBd, hE⟩
 replace hF := hF.wrote hB hE (by simp [Zi, nb2])
 replace hB := hB.wrote hBd hE
 clear hBd hE
 refine Cc ?_
 refine Db (J8 hB.bd Ga) (Eb OI rfl rfl) ?_
 rintro _ w ⟨rfl, hE⟩
 replace hF := hF.wrote hB hE (by simp [Zi, nb2])
 clear hE
 refine Ca (Qj rfl) (Ca (Gc rfl) (Ea ?_))
 refine Fc (Bc (Za (Ye (v := .string (bs (o ++ [34]))) (x := .int .i64 0) rfl rfl rfl) ?_))
 refine ⟨?_, hF.same⟩
 rw [if_pos (by simpa using hc0), Cs, ← hq, Cw by_Om, List.append_nil]
end Go.Scarf
namespace Go.Scarf
open Go.RowKit Go.Proofs Go.Proofs.Tryz
def Ji (m : Bool) (ind d : Nat) : Str := if m then [10] ++ Lib.repeatL [32] (ind * d) else []
def qS (t : Str) : Str := if Lib.validD t = true then Cs t else []
theorem Aq (c : UInt8) (n : Nat) : (Lib.repeatL [c] n).length = n := by
  induction n with
  | zero => rfl
  | succ n ih => simp [Lib.repeatL, ih]; try omega
theorem Lu (m : Bool) (ind d : Nat) : (Ji m ind d).length ≤ 1 + ind * d := by unfold Ji; split <;> simp [Aq] <;> omega
theorem Y4 (s : Str) (p : Nat) : (Oq s p).length ≤ 6 * (s.length - p) := by
  induction h : s.length - p using Nat.strongRecOn generalizing p with
  | ind n ih =>
    by_cases hp : p < s.length
    · rw [Bn hp, List.length_append]
      have h1 := Nn (Utf8.decode (bs s) p).1
      have h2 := Cf s p
      have h3 := ih (s.length - (p + (Utf8.decode (bs s) p).2)) by_Om (p + (Utf8.decode (bs s) p).2) rfl
      omega
    · rw [Cw hp]; simp
theorem G4 (s : Str) : (qS s).length ≤ 6 * s.length + 2 := by
  unfold qS
  split
  · have := Y4 s 0
    simp [Cs]; omega
  · simp
theorem IH (t : Str) (c : Nat) (h1 : c ≤ 9223372036854775807) (h2 : t.length * c ≤ 140737488355328) (w : World) : Calls prog 124 #[.string (bs t), .int .i64 (c : Int)] w (Rd fun v w' => v = .string (bs (Lib.repeatL t c)) ∧ Same [] w w') := by
  have h := strings_Repeat (bs t) c w h1 (by rw [Yn]; exact h2)
  exact Br h
theorem JH (t : Str) (hl : t.length ≤ 17592186044416) (w0 : World) (hG : Gl w0) : Calls prog 190 #[.string (bs t)] w0 (Rd fun v w' => v = .tuple #[.string (bs (qS t)), .int .i64 (if Lib.validD t = true then 0 else 2)] ∧ Same [] w0 w') := by
  refine Zg (YN w0 hG t hl) fun v w' ⟨h1, h2⟩ => ⟨?_, h2⟩
  rw [h1, qS]
  split <;> rfl
theorem Bd.mul {w : World} {B pb T : Nat} {m : Bool} {ind : Int} {s : Str} (h : Bd w B pb T [.bool m, .int .i64 ind] s) : w.cell? ⟨pb, 2, none⟩ = some (.bool m) := by
  obtain ⟨ap, v, hh, -⟩ := h.ex
  rw [Ob hh]; rfl
theorem Bd.ind {w : World} {B pb T : Nat} {m : Bool} {ind : Int} {s : Str} (h : Bd w B pb T [.bool m, .int .i64 ind] s) : w.cell? ⟨pb, 3, none⟩ = some (.int .i64 ind) := by
  obtain ⟨ap, v, hh, -⟩ := h.ex
  rw [Ob hh]; rfl
theorem Gl.wrote {w0 w : World} {B pb : Nat} (h : Gl w0) (hs : Same (Wk w0 B pb) w0 w) (hb : 7 ≤ B) (hp : B ≤ pb) : Gl w := h.same hs fun x hx => by
  rcases If.1 hx with rfl | ⟨-, h1, -⟩ <;> omega
theorem X_ (w0 : World) (B pb : Nat) (m : Bool) (ind : Nat) (s : Str) (hBd : Bd w0 B pb 161 [.bool m, .int .i64 (ind : Int)] s) (d : Nat) (hd : ind * d ≤ 1000000000) (hl : s.length + (Ji m ind d).length ≤ 140737488355328) : Ys 192 #[.pointer (some ⟨pb, 0, none⟩), .int .i64 (d : Int)] (.tuple #[]) w0 B pb 161 [.bool m, .int .i64 (ind : Int)] (s ++ Ji m ind d) := by
 unfold Ys
 refine Ma func192 rfl ntmps192 Jb (Vd _ _) ?_
 have hB := BW.start hBd
 have hF := FR.start w0 (Wk w0 B pb)
 refine Ka (Ca (De rfl) (Ca (Of rfl) (Ca (Kc I7 rfl) (Ja (v := .bool (m)) (Cb isAgg4 rfl hB.bd.mul) (Ea ?_)))))
 refine Pj rfl rfl (fun hc0 => ?_) (fun hc0 => ?_)
 rw [Ji, if_pos hc0] at hl
 simp only [List.length_append, List.length_cons, List.length_nil, Aq] at hl
 refine Ka (Ca (De rfl) (Ca (Of rfl) (Ca (Kc Mh rfl) ?_)))
 refine Db (Gg hB.bd 10 Ra Ra by_Om) (Qb Ym rfl rfl rfl) ?_
 rintro _ w ⟨rfl, hBd, hE⟩
 replace hF := hF.wrote hB hE Ga
 replace hB := hB.wrote hBd hE
 clear hBd hE
 refine Ea ?_
 refine Id [] (.free 0 (.free 1 (.free 2 (.free 3 (.free 4 (.free 5 (.free 6 (.free 7 (.free 8 (.act 9 (.act 10 .nil))))))))))) hF ?_
 clear hF; intro w hF hE
 replace hB := hB.ext hE
 clear hE
 refine ⟨fun wq => FR w0 (Wk w0 B pb) _ wq ∧ ∃ s', Bd wq B pb 161 [.bool m, .int .i64 (ind : Int)] s', ⟨hF, ⟨_, hB.bd⟩⟩, ?_⟩
 refine Xa rfl (De rfl) (Xa rfl (Of rfl) (Xa rfl (Kc Mh rfl) (Xa rfl (De rfl) (Xa rfl (Of rfl) (Xa rfl (Kc QI rfl) ?_)))))
 refine Qa rfl (v := .int .i64 ((ind : Int))) (fun w hC => Cb isAgg3 rfl (by obtain ⟨-, s_, hs_⟩ := hC; exact hs_.ind)) ?_
 refine Xa rfl (Hb rfl) ?_
 refine Qa rfl (v := .int .i64 (((ind * d : Nat) : Int))) (fun w hC => Z7 rfl rfl (Bi (by rw [Int.natCast_mul]) by_Om by_Om)) ?_
 refine Ke rfl (IH [32] (ind * d) by_Om (by simp; omega) _) (Qb S_ rfl rfl rfl) ?_
 rintro _ w ⟨rfl, hE⟩
 replace hF := hF.ext hE
 replace hB := hB.ext hE
 clear hE
 refine ⟨⟨hF, ⟨_, hB.bd⟩⟩, ?_⟩
 refine Ke rfl (Dj hB.bd (Lib.repeatL [32] (ind * d)) (by simp [Aq]; omega)) (Qb Py rfl rfl rfl) ?_
 rintro _ w ⟨rfl, hBd, hE⟩
 replace hF := hF.wrote hB hE Ga
 replace hB := hB.wrote hBd hE
 clear hBd hE
 refine ⟨⟨hF, ⟨_, hB.bd⟩⟩, ?_⟩
 refine Jc ?_
 refine Fe (Yc (Ef rfl) ?_)
 exact ⟨rfl, by simpa [Ji, hc0] using hB.bd, hF.same⟩
 refine Wa ?_
 refine Fe (Yc (Ef rfl) ?_)
 exact ⟨rfl, by simpa [Ji, hc0] using hB.bd, hF.same⟩
theorem Z3 (w0 : World) (B pb : Nat) (m : Bool) (ind : Nat) (s : Str) (hBd : Bd w0 B pb 161 [.bool m, .int .i64 (ind : Int)] s) (hG : Gl w0) (h8 : 7 ≤ B) (t : Str) (ht : t.length ≤ 17592186044416) (hl : s.length + (qS t).length ≤ 140737488355328) : Ys 158 #[.pointer (some ⟨pb, 0, none⟩), .string (bs t)] (.tuple #[]) w0 B pb 161 [.bool m, .int .i64 (ind : Int)] (s ++ qS t) := by
 unfold Ys
 refine Ma func158 rfl ntmps158 Jb (Vd _ _) ?_
 have hB := BW.start hBd
 have hF := FR.start w0 (Wk w0 B pb)
 refine Ka (Ca (Lf rfl) ?_)
 refine Db (JH t ht _ ((hG.wrote hF.same h8 hBd.le))) (Eb NQ rfl rfl) ?_
 rintro _ w ⟨rfl, hE⟩
 replace hF := hF.ext hE
 replace hB := hB.ext hE
 clear hE
 refine Ca (Xm rfl) (Ca (TC rfl rfl) (Ca (Zn rfl rfl) (Ca (Qj rfl) (Ca (Gc rfl) (Ea (Da (Ca (De rfl) (Ca (Of rfl) (Ca (Kc Mh rfl) (Ca (Lf rfl) ?_))))))))))
 refine Db (Dj hB.bd (qS t) by_Om) (Qb Py rfl rfl rfl) ?_
 rintro _ w ⟨rfl, hBd, hE⟩
 replace hF := hF.wrote hB hE Ga
 replace hB := hB.wrote hBd hE
 clear hBd hE
 refine Ya ?_
 refine Fe (Yc (Ef rfl) ?_)
 exact ⟨rfl, hB.bd, hF.same⟩
end Go.Scarf
namespace Go.Scarf
open Go.RowKit Go.Proofs Go.Proofs.Tryz
def Ue (m : Bool) (ind d : Nat) : Bool → List Str → Str
  | _, [] => []
  | first, p :: ps => (if first then [] else [44]) ++ (Ji m ind (d + 1) ++ (p ++ Ue m ind d false ps))
def Cl (m : Bool) (ind d : Nat) (o c : UInt8) (ps : List Str) : Str := [o] ++ (Ue m ind d true ps ++ ((if ps = [] then [] else Ji m ind d) ++ [c]))
mutual
def Xe (m : Bool) (ind : Nat) : Tree → Nat → Str
  | .node k t ks xs, d => if k = 1 then [110, 117, 108, 108] else if k = 4 then qS t else if k = 5 then Cl m ind d 91 93 (Fj m ind xs (d + 1)) else if k = 6 then Cl m ind d 123 125 (Rh m ind xs ks (d + 1)) else t
def Fj (m : Bool) (ind : Nat) : List Tree → Nat → List Str
  | [], _ => []
  | x :: xs, d => Xe m ind x d :: Fj m ind xs d
def Rh (m : Bool) (ind : Nat) : List Tree → List Str → Nat → List Str
  | [], _, _ => []
  | x :: xs, ks, d => (qS (ks.headD []) ++ ([58] ++ ((if m then [32] else []) ++ Xe m ind x d))) :: Rh m ind xs ks.tail d
end
theorem Fg : ∀ {xs : List Tree} {x : Tree}, x ∈ xs → Gd x ≤ Zc xs
  | y :: ys, x, h => by
    rw [Zc]
    rcases List.mem_cons.1 h with rfl | h
    · omega
    · have := Fg h; omega
theorem Pu (m : Bool) (ind d : Nat) : ∀ xs, Fj m ind xs d = xs.map (fun x => Xe m ind x d)
  | [] => by simp [Fj]
  | x :: xs => by simp [Fj, Pu m ind d xs]
def DA (m : Bool) (ind d : Nat) (k : Str) (x : Tree) : Str := qS k ++ ([58] ++ ((if m then [32] else []) ++ Xe m ind x d))
theorem Vo (m : Bool) (ind d : Nat) : ∀ xs ks, (Rh m ind xs ks d).length = xs.length
  | [], ks => by simp [Rh]
  | x :: xs, ks => by simp [Rh, Vo m ind d xs ks.tail]
theorem O2 (m : Bool) (ind d : Nat) : ∀ (xs : List Tree) (ks : List Str) (j : Nat) (h : j < xs.length) (hk : j < ks.length) (h' : j < (Rh m ind xs ks d).length), (Rh m ind xs ks d)[j] = DA m ind d ks[j] xs[j]
  | x :: xs, k :: ks, 0, _, _, _ => by simp [Rh, DA]
  | x :: xs, k :: ks, j + 1, h, hk, h' => by
    simp only [Rh, List.tail_cons, List.getElem_cons_succ]
    exact O2 m ind d xs ks j (by simpa using h) (by simpa using hk) (by simpa [Rh] using h')
theorem WF (m : Bool) (ind d : Nat) {ps : List Str} {j : Nat} (h : j < ps.length) : Ue m ind d (decide (j = 0)) (ps.drop j) = (if j = 0 then [] else [44]) ++ (Ji m ind (d + 1) ++ (ps[j] ++ Ue m ind d (decide (j + 1 = 0)) (ps.drop (j + 1)))) := by
  rw [List.drop_eq_getElem_cons h, Ue]
  simp
mutual
def OC : Tree → Prop | .node _ t ks xs => t.length ≤ 17592186044416 ∧ (∀ k ∈ ks, k.length ≤ 17592186044416) ∧ Y_ xs
def Y_ : List Tree → Prop | [] => True | x :: xs => OC x ∧ Y_ xs
end
theorem Fu : ∀ {xs : List Tree}, Y_ xs → ∀ x ∈ xs, OC x
  | [], _, _, h => absurd h Ga
  | y :: ys, h, x, hx => by
    rw [Y_] at h
    rcases List.mem_cons.1 hx with rfl | hx
    · exact h.1
    · exact Fu h.2 x hx
def SK (x : Tree) : Prop := ∀ (m : Bool) (ind d : Nat) (w0 : World) (B pb : Nat) (s : Str) (cs : List Value), Bd w0 B pb 161 [.bool m, .int .i64 (ind : Int)] s → Gl w0 → 7 ≤ B → Rep (fun b => b ∉ Wk w0 B pb) w0 (Sc x) cs → OC x → Vc nodeB x = true →
  ind * (d + Gd x) ≤ 1000000000 → d + Gd x ≤ 1000000000 → s.length + (Xe m ind x d).length ≤ 140737488355328 → Ys 126 #[.pointer (some ⟨pb, 0, none⟩), .agg cs.toArray, .int .i64 (d : Int)] (.tuple #[]) w0 B pb 161 [.bool m, .int .i64 (ind : Int)] (s ++ Xe m ind x d)
def ST (f : Nat) (k : Int) (t : Str) (ks : List Str) (xs : List Tree) (m : Bool) (ind d : Nat) (ps : List Str) : Prop := ∀ (j : Nat) (hj : j < ps.length) (w0 : World) (B pb : Nat) (s : Str) (A B' : Option Addr) (c e : Nat), Bd w0 B pb 161 [.bool m, .int .i64 (ind : Int)] s → Gl w0 → 7 ≤ B →
  Rep (fun b => b ∉ Wk w0 B pb) w0 (Sc (.node k t ks xs)) [.int .i64 k, .string (bs t), .slice A ks.length c, .slice B' xs.length e] → s.length + ps[j].length ≤ 140737488355328 →
  Ys f #[.pointer (some ⟨pb, 0, none⟩), .agg #[.int .i64 k, .string (bs t), .slice A ks.length c, .slice B' xs.length e], .int .i64 (j : Int), .int .i64 (d : Int)] (.tuple #[]) w0 B pb 161 [.bool m, .int .i64 (ind : Int)] (s ++ ps[j])
theorem SP (k : Int) (t : Str) (ks : List Str) (xs : List Tree) (m : Bool) (ind d : Nat) (j : Nat) (hj : j < xs.length) (w0 : World) (B pb : Nat) (s : Str) (A B_ : Option Addr) (c e : Nat) (hBd : Bd w0 B pb 161 [.bool m, .int .i64 (ind : Int)] s) (hG : Gl w0) (h8 : 7 ≤ B) (hX : Rep (fun b => b ∉ Wk w0 B pb) w0 (Sc (.node k t ks xs)) [.int .i64 k, .string (bs t), .slice A ks.length c, .slice B_ xs.length e]) (hv : ∀ x ∈ xs, SK x) (hok : OC (.node k t ks xs)) (hn : Vc nodeB (.node k t ks xs) = true) (hd : ind * (d + Zc xs) ≤ 1000000000) (hd2 : d + Zc xs ≤ 1000000000) (hl : s.length + (Xe m ind xs[j] d).length ≤ 140737488355328) : Ys 160 #[.pointer (some ⟨pb, 0, none⟩), .agg #[.int .i64 k, .string (bs t), .slice A ks.length c, .slice B_ xs.length e], .int .i64 (j : Int), .int .i64 (d : Int)] (.tuple #[]) w0 B pb 161 [.bool m, .int .i64 (ind : Int)] (s ++ Xe m ind xs[j] d) := by
 unfold Ys
 rw [OC] at hok
 refine Ma func160 rfl ntmps160 Jb (NA _ _ _ _) ?_
 have hB := BW.start hBd
 have hF := FR.start w0 (Wk w0 B pb)
 refine Ka ?_
 refine Sj hF rfl ?_
 clear hF; intro b1 w hb1 hF hE
 have nb1 : b1 ≠ pb := by have := hB.lt; omega
 replace hX := hX.off_ext hB.lt hE
 replace hB := hB.ext hE
 clear hE
 refine Ea (Da (Ca (De rfl) (Ca (Kc Ce rfl) (Qd (Vi isAgg22 rfl hF.F 0 rfl rfl) (Ca (Hb rfl) ?_)))))
 obtain ⟨A_, c_, B__, e_, heq_, -, -, hK_, hXs_⟩ := hX.tree_inv
 simp only [List.cons.injEq, Value.slice.injEq, true_and, and_true] at heq_
 obtain ⟨⟨rfl, rfl⟩, rfl, rfl⟩ := heq_
 obtain ⟨ad0, cs0, hA0, hl0, hk0, hx0⟩ := hXs_.tree_elem (i := j) by_Om
 have ho0 := hx0.one_
 refine Ja (v := .pointer (some (ad0.add (j * 4)))) (Oa (i := (j : Int)) Hi rfl hA0 rfl by_Om by_Om) (Ja (v := .agg (List.toArray cs0)) (Sb (l := cs0) isAgg27 sizeOf27 rfl hl0 hk0) (Ca (Hb rfl) ?_))
 refine Db (hv xs[j] (List.getElem_mem hj) m ind d _ B pb s _ hB.bd (hG.wrote hF.same h8 hBd.le) h8 hx0 (Fu hok.2.2 _ (List.getElem_mem hj)) ((Td hn).2 _ (List.getElem_mem hj)) (by have h1 := Fg (List.getElem_mem hj); exact Nat.le_trans (Nat.mul_le_mul_left ind by_Om) hd) (by have h1 := Fg (List.getElem_mem hj); omega) hl) (Dc Y5 rfl rfl rfl rfl) ?_
 rintro _ w ⟨rfl, hBd2, hE⟩
 replace hF := hF.wrote hB hE (by simp [Zi, nb1])
 replace hX := hX.off hE
 replace hB := hB.wrote hBd2 hE
 clear hBd2 hE
 refine Ya ?_
 refine Fe (Yc (Ef rfl) ?_)
 exact ⟨rfl, hB.bd, hF.same⟩
theorem IK (k : Int) (t : Str) (ks : List Str) (xs : List Tree) (m : Bool) (ind d : Nat) (j : Nat) (hj : j < xs.length) (hjk : j < ks.length) (w0 : World) (B pb : Nat) (s : Str) (A B_ : Option Addr) (c e : Nat) (hBd : Bd w0 B pb 161 [.bool m, .int .i64 (ind : Int)] s) (hG : Gl w0) (h8 : 7 ≤ B) (hX : Rep (fun b => b ∉ Wk w0 B pb) w0 (Sc (.node k t ks xs)) [.int .i64 k, .string (bs t), .slice A ks.length c, .slice B_ xs.length e]) (hv : ∀ x ∈ xs, SK x) (hok : OC (.node k t ks xs)) (hn : Vc nodeB (.node k t ks xs) = true) (hd : ind * (d + Zc xs) ≤ 1000000000) (hd2 : d + Zc xs ≤ 1000000000) (hl : s.length + (DA m ind d ks[j] xs[j]).length ≤ 140737488355328) : Ys 161 #[.pointer (some ⟨pb, 0, none⟩), .agg #[.int .i64 k, .string (bs t), .slice A ks.length c, .slice B_ xs.length e], .int .i64 (j : Int), .int .i64 (d : Int)] (.tuple #[]) w0 B pb 161 [.bool m, .int .i64 (ind : Int)] (s ++ DA m ind d ks[j] xs[j]) := by
 unfold Ys
 rw [OC] at hok
 rw [DA] at hl
 simp only [List.length_append, List.length_cons, List.length_nil] at hl
 refine Ma func161 rfl ntmps161 Jb (NA _ _ _ _) ?_
 have hB := BW.start hBd
 have hF := FR.start w0 (Wk w0 B pb)
 refine Ka ?_
 refine Sj hF rfl ?_
 clear hF; intro b1 w hb1 hF hE
 have nb1 : b1 ≠ pb := by have := hB.lt; omega
 replace hX := hX.off_ext hB.lt hE
 replace hB := hB.ext hE
 clear hE
 refine Cc (Ca (De rfl) (Ca (Kc Zj rfl) (Qd (Vi isAgg25 rfl hF.F 0 rfl rfl) (Ca (Hb rfl) ?_))))
 obtain ⟨A_, c_, B__, e_, heq_, -, -, hK_, hXs_⟩ := hX.tree_inv
 simp only [List.cons.injEq, Value.slice.injEq, true_and, and_true] at heq_
 obtain ⟨⟨rfl, rfl⟩, rfl, rfl⟩ := heq_
 obtain ⟨ad0, hA0, hk0, hx0⟩ := hK_.str_elem (i := j) by_Om
 refine Ja (v := .pointer (some (ad0.add (j * 1)))) (Oa (i := (j : Int)) Lw rfl hA0 rfl by_Om by_Om) (Ja (v := .string (bs (ks[j]))) (Cb isAgg9 rfl hk0) ?_)
 refine Db (Z3 _ B pb m ind s hB.bd (hG.wrote hF.same h8 hBd.le) h8 ks[j] (hok.2.1 _ (List.getElem_mem hjk)) by_Om) (Qb IL rfl rfl rfl) ?_
 rintro _ w ⟨rfl, hBd2, hE⟩
 replace hF := hF.wrote hB hE (by simp [Zi, nb1])
 replace hX := hX.off hE
 replace hB := hB.wrote hBd2 hE
 clear hBd2 hE
 refine Cc (Ca (De rfl) (Ca (Of rfl) (Ca (Kc Mh rfl) ?_)))
 refine Db (Gg hB.bd 58 Ra Ra (by rw [List.length_append]; omega)) (Qb Ym rfl rfl rfl) ?_
 rintro _ w ⟨rfl, hBd2, hE⟩
 replace hF := hF.wrote hB hE (by simp [Zi, nb1])
 replace hX := hX.off hE
 replace hB := hB.wrote hBd2 hE
 clear hBd2 hE
 refine Ea (Ia (Ka (Ca (De rfl) (Ca (Of rfl) (Ca (Kc I7 rfl) (Ja (v := .bool (m)) (Cb isAgg4 rfl hB.bd.mul) (Ea ?_)))))))
 refine Pj rfl rfl (fun hc0 => ?_) (fun hc0 => ?_)
 refine Da (Ca (De rfl) (Ca (Of rfl) (Ca (Kc Mh rfl) ?_)))
 refine Db (Gg hB.bd 32 Ra Ra (by simp only [List.length_append, List.length_cons, List.length_nil]; (first | rw [if_pos hc0] at hl | rw [if_neg (by simp [hc0])] at hl); simp only [List.length_cons, List.length_nil] at hl; omega)) (Qb Ym rfl rfl rfl) ?_
 rintro _ w ⟨rfl, hBd2, hE⟩
 replace hF := hF.wrote hB hE (by simp [Zi, nb1])
 replace hX := hX.off hE
 replace hB := hB.wrote hBd2 hE
 clear hBd2 hE
 refine Ea (Da (Ca (De rfl) (Ca (Kc Ce rfl) (Qd (Vi isAgg22 rfl hF.F 0 rfl rfl) (Ca (Hb rfl) ?_)))))
 obtain ⟨A_, c_, B__, e_, heq_, -, -, hK_, hXs_⟩ := hX.tree_inv
 simp only [List.cons.injEq, Value.slice.injEq, true_and, and_true] at heq_
 obtain ⟨⟨rfl, rfl⟩, rfl, rfl⟩ := heq_
 obtain ⟨ad1, cs1, hA1, hl1, hk1, hx1⟩ := hXs_.tree_elem (i := j) by_Om
 have ho1 := hx1.one_
 refine Ja (v := .pointer (some (ad1.add (j * 4)))) (Oa (i := (j : Int)) Hi rfl hA1 rfl by_Om by_Om) (Ja (v := .agg (List.toArray cs1)) (Sb (l := cs1) isAgg27 sizeOf27 rfl hl1 hk1) (Ca (Hb rfl) ?_))
 refine Db (hv xs[j] (List.getElem_mem hj) m ind d _ B pb _ _ hB.bd (hG.wrote hF.same h8 hBd.le) h8 hx1 (Fu hok.2.2 _ (List.getElem_mem hj)) ((Td hn).2 _ (List.getElem_mem hj)) (by have h1 := Fg (List.getElem_mem hj); exact Nat.le_trans (Nat.mul_le_mul_left ind by_Om) hd) (by have h1 := Fg (List.getElem_mem hj); omega) (by simp only [List.length_append, List.length_cons, List.length_nil]; (first | rw [if_pos hc0] at hl | rw [if_neg (by simp [hc0])] at hl); simp only [List.length_cons, List.length_nil] at hl; omega)) (Dc Y5 rfl rfl rfl rfl) ?_
 rintro _ w ⟨rfl, hBd2, hE⟩
 replace hF := hF.wrote hB hE (by simp [Zi, nb1])
 replace hX := hX.off hE
 replace hB := hB.wrote hBd2 hE
 clear hBd2 hE
 refine Ya ?_
 refine Fe (Yc (Ef rfl) ?_)
 exact ⟨rfl, by simpa [DA, hc0] using hB.bd, hF.same⟩
 refine Wa (Ha (Da (Ca (De rfl) (Ca (Kc Ce rfl) (Qd (Vi isAgg22 rfl hF.F 0 rfl rfl) (Ca (Hb rfl) ?_))))))
 obtain ⟨A_, c_, B__, e_, heq_, -, -, hK_, hXs_⟩ := hX.tree_inv
 simp only [List.cons.injEq, Value.slice.injEq, true_and, and_true] at heq_
 obtain ⟨⟨rfl, rfl⟩, rfl, rfl⟩ := heq_
 obtain ⟨ad2, cs2, hA2, hl2, hk2, hx2⟩ := hXs_.tree_elem (i := j) by_Om
 have ho2 := hx2.one_
 refine Ja (v := .pointer (some (ad2.add (j * 4)))) (Oa (i := (j : Int)) Hi rfl hA2 rfl by_Om by_Om) (Ja (v := .agg (List.toArray cs2)) (Sb (l := cs2) isAgg27 sizeOf27 rfl hl2 hk2) (Ca (Hb rfl) ?_))
 refine Db (hv xs[j] (List.getElem_mem hj) m ind d _ B pb _ _ hB.bd (hG.wrote hF.same h8 hBd.le) h8 hx2 (Fu hok.2.2 _ (List.getElem_mem hj)) ((Td hn).2 _ (List.getElem_mem hj)) (by have h1 := Fg (List.getElem_mem hj); exact Nat.le_trans (Nat.mul_le_mul_left ind by_Om) hd) (by have h1 := Fg (List.getElem_mem hj); omega) (by simp only [List.length_append, List.length_cons, List.length_nil]; (first | rw [if_pos hc0] at hl | rw [if_neg (by simp [hc0])] at hl); simp only [List.length_cons, List.length_nil] at hl; omega)) (Dc Y5 rfl rfl rfl rfl) ?_
 rintro _ w ⟨rfl, hBd2, hE⟩
 replace hF := hF.wrote hB hE (by simp [Zi, nb1])
 replace hX := hX.off hE
 replace hB := hB.wrote hBd2 hE
 clear hBd2 hE
 refine Ya ?_
 refine Fe (Yc (Ef rfl) ?_)
 exact ⟨rfl, by simpa [DA, hc0] using hB.bd, hF.same⟩
end Go.Scarf
namespace Go.Scarf
open Go.RowKit Go.Proofs Go.Proofs.Tryz
theorem WG (m : Bool) (ind d : Nat) (b : Bool) : Ue m ind d b [] = [] := by cases b <;> rfl
theorem WD (f : Nat) (hen : Kb prog f) (k : Int) (t : Str) (ks : List Str) (xs : List Tree) (m : Bool) (ind d : Nat) (bo bc : UInt8) (ps : List Str) (hps : ps.length = xs.length) (hI : ST f k t ks xs m ind (d + 1) ps) (w0 : World) (B pb : Nat) (s : Str) (A B_ : Option Addr) (c e : Nat) (hBd : Bd w0 B pb 161 [.bool m, .int .i64 (ind : Int)] s) (hG : Gl w0) (h8 : 7 ≤ B) (hX : Rep (fun b => b ∉ Wk w0 B pb) w0 (Sc (.node k t ks xs)) [.int .i64 k, .string (bs t), .slice A ks.length c, .slice B_ xs.length e]) (hd1 : ind * (d + 1) ≤ 1000000000) (hd2 : d + 1 ≤ 1000000000) (hxl : xs.length ≤ 9223372036854775807) (hlim : s.length + (Cl m ind d bo bc ps).length ≤ 140737488355328) : Ys 159 #[.pointer (some ⟨pb, 0, none⟩), .agg #[.int .i64 k, .string (bs t), .slice A ks.length c, .slice B_ xs.length e], .int .i64 (d : Int), .string (bs [bo, bc]), .func (.func f) #[.pointer (some ⟨pb, 0, none⟩)] #[]] (.tuple #[]) w0 B pb 161 [.bool m, .int .i64 (ind : Int)] (s ++ Cl m ind d bo bc ps) := by
 unfold Ys
 rw [Cl] at hlim
 simp only [List.length_append, List.length_cons, List.length_nil] at hlim
 refine Ma func159 rfl ntmps159 Jb (MB _ _ _ _ _) ?_
 have hB := BW.start hBd
 have hF := FR.start w0 (Wk w0 B pb)
 refine Ka ?_
 refine Sj hF rfl ?_
 clear hF; intro b1 w hb1 hF hE
 have nb1 : b1 ≠ pb := by have := hB.lt; omega
 replace hX := hX.off_ext hB.lt hE
 replace hB := hB.ext hE
 clear hE
 refine Ea (Ia ?_)
 refine Id [] (.free 0 (.free 1 (.free 2 (.free 3 (.free 4 (.act 5 .nil)))))) hF ?_
 clear hF; intro w hF hE
 replace hX := hX.off_ext hB.lt hE
 replace hB := hB.ext hE
 clear hE
 refine ⟨fun wq => FR w0 (Wk w0 B pb) _ wq, hF, ?_⟩
 refine Xa rfl (De rfl) (Xa rfl (Of rfl) (Xa rfl (Kc Mh rfl) (Xa rfl (Lf rfl) ?_)))
 refine Qa rfl (v := .int .u8 (((bo.toNat : Nat) : Int))) (fun w hC => Xh (s := [bo, bc]) 0 underlying9 rfl rfl Ga) ?_
 refine Ke rfl (On hB.bd bo by_Om) (Qb Ym rfl rfl rfl) ?_
 rintro _ w ⟨rfl, hBd2, hE⟩
 replace hF := hF.wrote hB hE (by simp [Zi, nb1])
 replace hX := hX.off hE
 replace hB := hB.wrote hBd2 hE
 clear hBd2 hE
 refine ⟨hF, ?_⟩
 refine Jc (Ha (Ia (Ka (Ca (Kc Ce rfl) (Qd (Vi isAgg22 rfl hF.F 0 rfl rfl) (Ca (Qe underlying22 rfl) (Ca (Hb rfl) (Ea (Va ?_)))))))))
 refine Uc (fun μ σ w => ∃ (j : Nat), ∃ (o : Str), μ = xs.length - j ∧ (j ≤ xs.length) ∧ (o ++ Ue m ind d (decide (j = 0)) (ps.drop j) = s ++ ([bo] ++ Ue m ind d true ps)) ∧ (BW w0 (Wk w0 B pb) w B pb 161 [.bool m, .int .i64 (ind : Int)] (o)) ∧ (Rep (fun b => b ∉ Wk w B pb) w (Sc (.node k t ks xs)) [.int .i64 k, .string (bs t), .slice A ks.length c, .slice B_ xs.length e]) ∧ AllEq σ [(0, .pointer (some ⟨pb, 0, none⟩)), (2, .int .i64 ((d : Int))), (3, .string (bs ([bo, bc]))), (4, .func (.func f) #[.pointer (some ⟨pb, 0, none⟩)] #[]), (6, .pointer (some ⟨b1, 0, none⟩)), (19, .int .i64 ((xs.length : Nat))), (20, .int .i64 ((j : Int)))] ∧ FR w0 (Wk w0 B pb) [(b1, .cells #[.int .i64 k, .string (bs t), .slice A ks.length c, .slice B_ xs.length e] 27)] w) _ ⟨0, s ++ [bo], rfl, (Nat.zero_le _), Ga, (hB), (hX), HK, hF⟩ ?_
 clear hF; rintro μ σ w ⟨j, o, rfl, hj, hq, hB, hX, hs, hF⟩
 refine Cg.slots hs ?_
 clear hs; intro σ
 refine Ka (Ca (Nk rfl rfl) (Ea (Ia ?_)))
 refine Pc rfl rfl (fun hc0 => ?_) (fun hc0 => ?_)
 have hjp : j < ps.length := by omega
 have hjd := WF m ind d hjp
 have hL := congrArg List.length hq
 rw [hjd] at hL
 have hif : (if j = 0 then ([] : Str) else [44]).length = if j = 0 then 0 else 1 := by split <;> rfl
 simp only [List.length_append, List.length_cons, List.length_nil, hif] at hL
 refine Wa (Ha (Ia (Va (Ka (Ca (Hb rfl) (Ca (Gc rfl) (Ea (Ia (Ka (Ca (Hb rfl) ?_))))))))))
 refine Ca (X0 rfl rfl) (Ea ?_)
 refine Pc rfl rfl (fun hc1 => ?_) (fun hc1 => ?_)
 refine Da (Ca (De rfl) (Ca (Of rfl) (Ca (Kc Mh rfl) ?_)))
 refine Db (Gg hB.bd 44 Ra Ra (by rw [if_neg by_Om] at hL; omega)) (Qb Ym rfl rfl rfl) ?_
 rintro _ w ⟨rfl, hBd2, hE⟩
 replace hF := hF.wrote hB hE (by simp [Zi, nb1])
 replace hX := hX.off hE
 replace hB := hB.wrote hBd2 hE
 clear hBd2 hE
 refine Cc (Ca (De rfl) (Ca (Hb rfl) (Ca (Qi (((d + 1 : Nat) : Int)) rfl rfl) ?_)))
 refine Db (X_ _ B pb m ind _ hB.bd (d + 1) hd1 (by (try simp only [List.length_append, List.length_cons, List.length_nil]); first | (rw [if_neg by_Om] at hL; omega) | (rw [if_pos by_Om] at hL; omega))) (Qb YA rfl rfl rfl) ?_
 rintro _ w ⟨rfl, hBd2, hE⟩
 replace hF := hF.wrote hB hE (by simp [Zi, nb1])
 replace hX := hX.off hE
 replace hB := hB.wrote hBd2 hE
 clear hBd2 hE
 refine Ea (Da (Ca (Z0) (Qd (Bm isAgg27 sizeOf27 rfl hF.F 0 rfl rfl) (Ca (Hb rfl) (Ca (Hb rfl) (Ca (Qi (((d + 1 : Nat) : Int)) rfl rfl) ?_))))))
 refine Db (hI j hjp _ B pb _ A B_ c e hB.bd (hG.wrote hF.same h8 hBd.le) h8 hX (by (try simp only [List.length_append, List.length_cons, List.length_nil]); first | (rw [if_neg by_Om] at hL; omega) | (rw [if_pos by_Om] at hL; omega))) (Y9 rfl hen rfl rfl rfl rfl) ?_
 rintro _ w ⟨rfl, hBd2, hE⟩
 replace hF := hF.wrote hB hE (by simp [Zi, nb1])
 replace hX := hX.off hE
 replace hB := hB.wrote hBd2 hE
 clear hBd2 hE
 replace hB : BW w0 (Wk w0 B pb) w B pb 161 [.bool m, .int .i64 (ind : Int)] (o ++ ((if j = 0 then [] else [44]) ++ (Ji m ind (d + 1) ++ ps[j]))) := by first | (have h0 : ¬ j = 0 := by_Om; rw [if_neg h0]; simpa using hB) | (have h0 : j = 0 := by_Om; rw [if_pos h0]; simpa using hB)
 refine Ya (Mb (Ha (Da (Ca (Jn rfl rfl) (Ca (Hb rfl) (Ya ?_))))))
 refine Ic ⟨_, ?_, j + 1, o ++ ((if j = 0 then [] else [44]) ++ (Ji m ind (d + 1) ++ ps[j])), rfl, by_Om, (by have h := hq; rw [hjd] at h; simpa [List.append_assoc] using h), (hB), (hX), HK, hF⟩
 omega
 refine Wa (Ha (Ka (Ca (De rfl) (Ca (Hb rfl) (Ca (Qi (((d + 1 : Nat) : Int)) rfl rfl) ?_)))))
 refine Db (X_ _ B pb m ind _ hB.bd (d + 1) hd1 (by (try simp only [List.length_append, List.length_cons, List.length_nil]); first | (rw [if_neg by_Om] at hL; omega) | (rw [if_pos by_Om] at hL; omega))) (Qb YA rfl rfl rfl) ?_
 rintro _ w ⟨rfl, hBd2, hE⟩
 replace hF := hF.wrote hB hE (by simp [Zi, nb1])
 replace hX := hX.off hE
 replace hB := hB.wrote hBd2 hE
 clear hBd2 hE
 refine Ea (Da (Ca (Z0) (Qd (Bm isAgg27 sizeOf27 rfl hF.F 0 rfl rfl) (Ca (Hb rfl) (Ca (Hb rfl) (Ca (Qi (((d + 1 : Nat) : Int)) rfl rfl) ?_))))))
 refine Db (hI j hjp _ B pb _ A B_ c e hB.bd (hG.wrote hF.same h8 hBd.le) h8 hX (by (try simp only [List.length_append, List.length_cons, List.length_nil]); first | (rw [if_neg by_Om] at hL; omega) | (rw [if_pos by_Om] at hL; omega))) (Y9 rfl hen rfl rfl rfl rfl) ?_
 rintro _ w ⟨rfl, hBd2, hE⟩
 replace hF := hF.wrote hB hE (by simp [Zi, nb1])
 replace hX := hX.off hE
 replace hB := hB.wrote hBd2 hE
 clear hBd2 hE
 replace hB : BW w0 (Wk w0 B pb) w B pb 161 [.bool m, .int .i64 (ind : Int)] (o ++ ((if j = 0 then [] else [44]) ++ (Ji m ind (d + 1) ++ ps[j]))) := by first | (have h0 : ¬ j = 0 := by_Om; rw [if_neg h0]; simpa using hB) | (have h0 : j = 0 := by_Om; rw [if_pos h0]; simpa using hB)
 refine Ya (Mb (Ha (Da (Ca (Jn rfl rfl) (Ca (Hb rfl) (Ya ?_))))))
 refine Ic ⟨_, ?_, j + 1, o ++ ((if j = 0 then [] else [44]) ++ (Ji m ind (d + 1) ++ ps[j])), rfl, by_Om, (by have h := hq; rw [hjd] at h; simpa [List.append_assoc] using h), (hB), (hX), HK, hF⟩
 omega
 have hq2 : o = s ++ ([bo] ++ Ue m ind d true ps) := by have h := hq; rw [List.drop_eq_nil_of_le by_Om, WG, List.append_nil] at h; exact h
 refine Nc (Lc rfl ?_)
 refine Ha (Ia (Ka (Ca (Kc Ce rfl) (Qd (Vi isAgg22 rfl hF.F 0 rfl rfl) (Ca (Qe underlying22 rfl) (Ca (X0 rfl rfl) (Ea ?_)))))))
 refine Pc rfl rfl (fun hc2 => ?_) (fun hc2 => ?_)
 have hpn : ps ≠ [] := by intro hp; rw [hp] at hps; simp at hps; omega
 refine Da (Ca (De rfl) (Ca (Hb rfl) ?_))
 refine Db (X_ _ B pb m ind _ hB.bd d (Nat.le_trans (Nat.mul_le_mul_left ind by_Om) hd1) (by have hp : ps ≠ [] := (by intro hp; rw [hp] at hps; simp at hps; omega); rw [if_neg hp] at hlim; rw [hq2]; (try simp only [List.length_append, List.length_cons, List.length_nil]); omega)) (Qb YA rfl rfl rfl) ?_
 rintro _ w ⟨rfl, hBd2, hE⟩
 replace hF := hF.wrote hB hE (by simp [Zi, nb1])
 replace hX := hX.off hE
 replace hB := hB.wrote hBd2 hE
 clear hBd2 hE
 refine Ea ?_
 refine Id [] (.free 0 (.free 1 (.free 2 (.free 3 (.free 4 (.act 5 .nil)))))) hF ?_
 clear hF; intro w hF hE
 replace hX := hX.off_ext hB.lt hE
 replace hB := hB.ext hE
 clear hE
 refine ⟨fun wq => FR w0 (Wk w0 B pb) _ wq, hF, ?_⟩
 refine Xa rfl (De rfl) (Xa rfl (Of rfl) (Xa rfl (Kc Mh rfl) (Xa rfl (Lf rfl) ?_)))
 refine Qa rfl (v := .int .u8 (((bc.toNat : Nat) : Int))) (fun w hC => Xh (s := [bo, bc]) 1 underlying9 rfl rfl Ga) ?_
 refine Ke rfl (On hB.bd bc (by rw [hq2]; (try simp only [List.length_append, List.length_cons, List.length_nil]); first | (rw [if_neg hpn] at hlim; omega) | omega)) (Qb Ym rfl rfl rfl) ?_
 rintro _ w ⟨rfl, hBd2, hE⟩
 replace hF := hF.wrote hB hE (by simp [Zi, nb1])
 replace hX := hX.off hE
 replace hB := hB.wrote hBd2 hE
 clear hBd2 hE
 refine ⟨hF, ?_⟩
 refine Jc ?_
 refine Fe (Yc (Ef rfl) ?_)
 refine ⟨rfl, ?_, hF.same⟩
 have hb := hB.bd
 rw [hq2] at hb
 rw [Cl, if_neg hpn]
 simpa [List.append_assoc] using hb
 have hpz : ps = [] := List.eq_nil_of_length_eq_zero by_Om
 refine Wa (Ha ?_)
 refine Id [] (.free 0 (.free 1 (.free 2 (.free 3 (.free 4 (.act 5 .nil)))))) hF ?_
 clear hF; intro w hF hE
 replace hX := hX.off_ext hB.lt hE
 replace hB := hB.ext hE
 clear hE
 refine ⟨fun wq => FR w0 (Wk w0 B pb) _ wq, hF, ?_⟩
 refine Xa rfl (De rfl) (Xa rfl (Of rfl) (Xa rfl (Kc Mh rfl) (Xa rfl (Lf rfl) ?_)))
 refine Qa rfl (v := .int .u8 (((bc.toNat : Nat) : Int))) (fun w hC => Xh (s := [bo, bc]) 1 underlying9 rfl rfl Ga) ?_
 refine Ke rfl (On hB.bd bc (by rw [hq2]; (try simp only [List.length_append, List.length_cons, List.length_nil]); first | (rw [if_neg hpn] at hlim; omega) | omega)) (Qb Ym rfl rfl rfl) ?_
 rintro _ w ⟨rfl, hBd2, hE⟩
 replace hF := hF.wrote hB hE (by simp [Zi, nb1])
 replace hX := hX.off hE
 replace hB := hB.wrote hBd2 hE
 clear hBd2 hE
 refine ⟨hF, ?_⟩
 refine Jc ?_
 refine Fe (Yc (Ef rfl) ?_)
 refine ⟨rfl, ?_, hF.same⟩
 have hb := hB.bd
 rw [hq2] at hb
 rw [Cl, if_pos hpz]
 simpa [List.append_assoc] using hb
theorem HB (k : Int) (t : Str) (ks : List Str) (xs : List Tree) (ih : ∀ x ∈ xs, SK x) (m : Bool) (ind d : Nat) (w0 : World) (B pb : Nat) (s : Str) (A B_ : Option Addr) (c e : Nat) (hBd : Bd w0 B pb 161 [.bool m, .int .i64 (ind : Int)] s) (hG : Gl w0) (h8 : 7 ≤ B) (hX : Rep (fun b => b ∉ Wk w0 B pb) w0 (Sc (.node k t ks xs)) [.int .i64 k, .string (bs t), .slice A ks.length c, .slice B_ xs.length e]) (hok : OC (.node k t ks xs)) (hn : Vc nodeB (.node k t ks xs) = true) (hd : ind * (d + Gd (.node k t ks xs)) ≤ 1000000000) (hd2 : d + Gd (.node k t ks xs) ≤ 1000000000) (hxl : xs.length ≤ 9223372036854775807) (hl : s.length + (Xe m ind (.node k t ks xs) d).length ≤ 140737488355328) : Ys 126 #[.pointer (some ⟨pb, 0, none⟩), .agg #[.int .i64 k, .string (bs t), .slice A ks.length c, .slice B_ xs.length e], .int .i64 (d : Int)] (.tuple #[]) w0 B pb 161 [.bool m, .int .i64 (ind : Int)] (s ++ Xe m ind (.node k t ks xs) d) := by
 unfold Ys
 refine Ma func126 rfl ntmps126 Jb (Yi _ _ _) ?_
 have hB := BW.start hBd
 have hF := FR.start w0 (Wk w0 B pb)
 refine Ka ?_
 refine Sj hF rfl ?_
 clear hF; intro b1 w hb1 hF hE
 have nb1 : b1 ≠ pb := by have := hB.lt; omega
 replace hX := hX.off_ext hB.lt hE
 replace hB := hB.ext hE
 clear hE
 refine Cc (Ca (Kc Hl rfl) (Qd (Zr isAgg3 rfl hF.F 0 rfl rfl) (Ea (Va (Ka (Ca (Fo rfl rfl) (Ca (Ec rfl) (Ya ?_))))))))
 refine Ha ?_
 refine Pc rfl rfl (fun hc0 => ?_) (fun hc0 => ?_)
 refine Da (Ca (De rfl) (Ca (Of rfl) (Ca (Kc Mh rfl) ?_)))
 have hkk_ : k = 1 := by omega
 refine Db (Dj hB.bd [110, 117, 108, 108] (by rw [Xe, if_pos hkk_] at hl; exact hl)) (Qb Py rfl rfl rfl) ?_
 rintro _ w ⟨rfl, hBd2, hE⟩
 replace hF := hF.wrote hB hE (by simp [Zi, nb1])
 replace hX := hX.off hE
 replace hB := hB.wrote hBd2 hE
 clear hBd2 hE
 refine Ya (Mb ?_)
 refine Fe (Yc (Ef rfl) ?_)
 refine ⟨rfl, ?_, hF.same⟩
 rw [Xe]
 first | (rw [if_pos hkk_]; exact hB.bd) | (rw [if_neg by_Om, if_pos hkk_]; exact hB.bd) | (rw [if_neg by_Om, if_neg by_Om, if_pos hkk_]; exact hB.bd) | (rw [if_neg by_Om, if_neg by_Om, if_neg by_Om, if_pos hkk_]; exact hB.bd) | (rw [if_neg by_Om, if_neg by_Om, if_neg by_Om, if_neg by_Om]; exact hB.bd)
 refine Ka (Ca (Fo rfl rfl) (Ca (Ec rfl) (Ea ?_)))
 refine Pc rfl rfl (fun hc1 => ?_) (fun hc1 => ?_)
 refine Da (Ca (De rfl) (Ca (Kc Yh rfl) (Qd (Jx isAgg9 rfl hF.F 0 rfl rfl) ?_)))
 have hkk_ : k = 4 := by omega
 refine Db (Z3 _ B pb m ind s hB.bd (hG.wrote hF.same h8 hBd.le) h8 t (by rw [OC] at hok; exact hok.1) (by rw [Xe, if_neg by_Om, if_pos hkk_] at hl; exact hl)) (Qb IL rfl rfl rfl) ?_
 rintro _ w ⟨rfl, hBd2, hE⟩
 replace hF := hF.wrote hB hE (by simp [Zi, nb1])
 replace hX := hX.off hE
 replace hB := hB.wrote hBd2 hE
 clear hBd2 hE
 refine Ya (Mb ?_)
 refine Fe (Yc (Ef rfl) ?_)
 refine ⟨rfl, ?_, hF.same⟩
 rw [Xe]
 first | (rw [if_pos hkk_]; exact hB.bd) | (rw [if_neg by_Om, if_pos hkk_]; exact hB.bd) | (rw [if_neg by_Om, if_neg by_Om, if_pos hkk_]; exact hB.bd) | (rw [if_neg by_Om, if_neg by_Om, if_neg by_Om, if_pos hkk_]; exact hB.bd) | (rw [if_neg by_Om, if_neg by_Om, if_neg by_Om, if_neg by_Om]; exact hB.bd)
 refine Ka (Ca (Fo rfl rfl) (Ca (Ec rfl) (Ea ?_)))
 refine Pc rfl rfl (fun hc2 => ?_) (fun hc2 => ?_)
 refine Da (Ca (De rfl) (Qd (Bm isAgg27 sizeOf27 rfl hF.F 0 rfl rfl) (Ca (Hb rfl) (Ca (De rfl) (Ja (v := .func (.func 160) #[.pointer (some ⟨pb, 0, none⟩)] #[]) (St rfl) ?_)))))
 have hkk_ : k = 5 := by omega
 refine Db (WD 160 CR k t ks xs m ind d 91 93 (Fj m ind xs (d + 1)) (by rw [Pu, List.length_map]) (fun j hj w1 B1 p1 s1 A1 B1_ c1 e1 hb1_ hg1 h81 hx1 hl1 => by have hj2 : j < xs.length := (by rw [Pu, List.length_map] at hj; exact hj); have hg : (Fj m ind xs (d + 1))[j] = Xe m ind xs[j] (d + 1) := (by simp only [Pu, List.getElem_map]); rw [hg] at hl1 ⊢; exact SP k t ks xs m ind (d + 1) j hj2 w1 B1 p1 s1 A1 B1_ c1 e1 hb1_ hg1 h81 hx1 ih hok hn (by rw [Gd] at hd; exact Nat.le_trans (Nat.mul_le_mul_left ind by_Om) hd) (by rw [Gd] at hd2; omega) hl1) _ B pb s A B_ c e hB.bd (hG.wrote hF.same h8 hBd.le) h8 hX (by have h1 := hd; rw [Gd] at h1; exact Nat.le_trans (Nat.mul_le_mul_left ind by_Om) h1) (by rw [Gd] at hd2; omega) hxl (by rw [Xe] at hl; simpa [hkk_] using hl)) (Ou ML rfl rfl rfl rfl rfl rfl) ?_
 rintro _ w ⟨rfl, hBd2, hE⟩
 replace hF := hF.wrote hB hE (by simp [Zi, nb1])
 replace hX := hX.off hE
 replace hB := hB.wrote hBd2 hE
 clear hBd2 hE
 refine Ya (Mb ?_)
 refine Fe (Yc (Ef rfl) ?_)
 refine ⟨rfl, ?_, hF.same⟩
 rw [Xe]
 first | (rw [if_pos hkk_]; exact hB.bd) | (rw [if_neg by_Om, if_pos hkk_]; exact hB.bd) | (rw [if_neg by_Om, if_neg by_Om, if_pos hkk_]; exact hB.bd) | (rw [if_neg by_Om, if_neg by_Om, if_neg by_Om, if_pos hkk_]; exact hB.bd) | (rw [if_neg by_Om, if_neg by_Om, if_neg by_Om, if_neg by_Om]; exact hB.bd)
 refine Ka (Ca (Fo rfl rfl) (Ca (Ec rfl) (Ea ?_)))
 refine Pc rfl rfl (fun hc3 => ?_) (fun hc3 => ?_)
 refine Da (Ca (De rfl) (Qd (Bm isAgg27 sizeOf27 rfl hF.F 0 rfl rfl) (Ca (Hb rfl) (Ca (De rfl) (Ja (v := .func (.func 161) #[.pointer (some ⟨pb, 0, none⟩)] #[]) (St rfl) ?_)))))
 have hkk_ : k = 6 := by omega
 have hkl : ks.length = xs.length := (Tl (hkk_ ▸ (Td hn).1)).2
 refine Db (WD 161 QQ k t ks xs m ind d 123 125 (Rh m ind xs ks (d + 1)) (by rw [Vo]) (fun j hj w1 B1 p1 s1 A1 B1_ c1 e1 hb1_ hg1 h81 hx1 hl1 => by have hj2 : j < xs.length := (by rw [Vo] at hj; exact hj); have hg := O2 m ind (d + 1) xs ks j hj2 by_Om hj; rw [hg] at hl1 ⊢; exact IK k t ks xs m ind (d + 1) j hj2 by_Om w1 B1 p1 s1 A1 B1_ c1 e1 hb1_ hg1 h81 hx1 ih hok hn (by rw [Gd] at hd; exact Nat.le_trans (Nat.mul_le_mul_left ind by_Om) hd) (by rw [Gd] at hd2; omega) hl1) _ B pb s A B_ c e hB.bd (hG.wrote hF.same h8 hBd.le) h8 hX (by have h1 := hd; rw [Gd] at h1; exact Nat.le_trans (Nat.mul_le_mul_left ind by_Om) h1) (by rw [Gd] at hd2; omega) hxl (by rw [Xe] at hl; simpa [hkk_] using hl)) (Ou ML rfl rfl rfl rfl rfl rfl) ?_
 rintro _ w ⟨rfl, hBd2, hE⟩
 replace hF := hF.wrote hB hE (by simp [Zi, nb1])
 replace hX := hX.off hE
 replace hB := hB.wrote hBd2 hE
 clear hBd2 hE
 refine Ya (Mb ?_)
 refine Fe (Yc (Ef rfl) ?_)
 refine ⟨rfl, ?_, hF.same⟩
 rw [Xe]
 first | (rw [if_pos hkk_]; exact hB.bd) | (rw [if_neg by_Om, if_pos hkk_]; exact hB.bd) | (rw [if_neg by_Om, if_neg by_Om, if_pos hkk_]; exact hB.bd) | (rw [if_neg by_Om, if_neg by_Om, if_neg by_Om, if_pos hkk_]; exact hB.bd) | (rw [if_neg by_Om, if_neg by_Om, if_neg by_Om, if_neg by_Om]; exact hB.bd)
 refine Id [] (.free 0 (.free 1 (.free 2 (.free 3 (.free 4 (.act 5 .nil)))))) hF ?_
 clear hF; intro w hF hE
 replace hX := hX.off_ext hB.lt hE
 replace hB := hB.ext hE
 clear hE
 refine ⟨fun wq => FR w0 (Wk w0 B pb) _ wq, hF, ?_⟩
 refine Xa rfl (De rfl) (Xa rfl (Of rfl) (Xa rfl (Kc Mh rfl) (Xa rfl (Kc Yh rfl) (Zo rfl (Jx isAgg9 rfl C0 0 rfl rfl) ?_))))
 refine Ke rfl (Dj hB.bd t (by rw [Xe, if_neg by_Om, if_neg by_Om, if_neg by_Om, if_neg by_Om] at hl; exact hl)) (Qb Py rfl rfl rfl) ?_
 rintro _ w ⟨rfl, hBd2, hE⟩
 replace hF := hF.wrote hB hE (by simp [Zi, nb1])
 replace hX := hX.off hE
 replace hB := hB.wrote hBd2 hE
 clear hBd2 hE
 refine ⟨hF, ?_⟩
 refine Jc (Mb ?_)
 refine Fe (Yc (Ef rfl) ?_)
 refine ⟨rfl, ?_, hF.same⟩
 rw [Xe]
 first | (rw [if_pos hkk_]; exact hB.bd) | (rw [if_neg by_Om, if_pos hkk_]; exact hB.bd) | (rw [if_neg by_Om, if_neg by_Om, if_pos hkk_]; exact hB.bd) | (rw [if_neg by_Om, if_neg by_Om, if_neg by_Om, if_pos hkk_]; exact hB.bd) | (rw [if_neg by_Om, if_neg by_Om, if_neg by_Om, if_neg by_Om]; exact hB.bd)
theorem AM (x : Tree) : SK x := Tree.ind (Q := SK) (fun k t ks xs ih m ind d w0 B pb s cs hBd hG h8 hX hok hn hd hd2 hl => by
  obtain ⟨A, c, B_, e, rfl, -, -, -, hXs⟩ := hX.tree_inv
  have h1 := hXs.slice_len
  exact HB k t ks xs ih m ind d w0 B pb s A B_ c e hBd hG h8 hX hok hn hd hd2 by_Om hl) x
end Go.Scarf
namespace Go.Scarf
open Go.RowKit Go.Proofs Go.Proofs.Tryz
theorem U0 {t : Str} (h : Tj t = true) : t ≠ [] := by
  rintro rfl
  revert h
  decide
theorem MM (m : Bool) (ind : Nat) (x : Tree) (d : Nat) (h : Zb x = true) : Xe m ind x d ≠ [] := by
  obtain ⟨k, t, ks, xs⟩ := x
  unfold Zb at h
  rw [Bool.and_eq_true] at h
  have h1 := (Td h.2).1
  unfold rnodeB at h1
  rw [Bool.and_eq_true, decide_eq_true_eq] at h1
  obtain ⟨h7, h1⟩ := h1
  have h7' : k ≠ 7 := h7
  rw [Xe]
  split
  · simp
  split
  · rename_i h4
    subst h4
    simp [nodeB] at h1
    rw [qS, if_pos h1.2]; simp [Cs]
  split
  · simp [Cl]
  split
  · simp [Cl]
  · rename_i g1 g4 g5 g6
    simp only [nodeB, if_neg g5, if_neg g6, if_neg g1, if_neg g4, if_neg h7'] at h1
    split at h1
    · cases h1
    split at h1
    · rw [Bool.or_eq_true, decide_eq_true_eq, decide_eq_true_eq] at h1
      rcases h1 with rfl | rfl <;> simp
    split at h1
    · exact U0 h1
    · cases h1
theorem UG {x : Tree} (h : Zb x = true) : Vc nodeB x = true := by
  unfold Zb at h
  rw [Bool.and_eq_true] at h
  refine Tree.ind (Q := fun x => Vc rnodeB x = true → Vc nodeB x = true) (fun k t ks xs ih h => ?_) x h.2
  rw [Vc, Bool.and_eq_true] at h ⊢
  have h1 := h.1
  unfold rnodeB at h1
  rw [Bool.and_eq_true] at h1
  refine ⟨h1.2, ?_⟩
  have key : ∀ ys : List Tree, (∀ y ∈ ys, y ∈ xs) → Zm rnodeB ys = true → Zm nodeB ys = true := by
    intro ys
    induction ys with
    | nil => intro _ _; rfl
    | cons y ys ihy =>
      intro hm hs
      rw [Zm, Bool.and_eq_true] at hs ⊢
      exact ⟨ih y (hm y Ga) hs.1, ihy (fun z hz => hm z (by simp [hz])) hs.2⟩
  exact key xs (fun _ h => h) h.2
theorem Ww {x : Tree} (h : Zb x = true) : Gd x ≤ 32 := by
  unfold Zb Hn at h
  simp only [Bool.and_eq_true, decide_eq_true_eq] at h
  exact h.1.2
theorem AG (x : Tree) (S : Nat → Prop) (w0 : World) (cs : List Value) (rx : Rep S w0 (Sc x) cs) (hG : Gl w0) (hk : Ox x) (hq : OC x) (hsz : Ac x ≤ 1000000000) (hlim : Zb x = true → (Xe false 0 x 0).length ≤ 140737488355328) : Calls prog 99 #[.agg cs.toArray] w0 (Rd fun v w' => v = (if Zb x = true then .tuple #[.string (bs (Xe false 0 x 0)), .int .i64 0] else .tuple #[.string (bs []), .int .i64 1]) ∧ Same [] w0 w') := by
 have hl : cs.length = 4 := rx.length.trans (Tc x)
 have ho := rx.one_
 refine Ma func99 rfl ntmps99 Jb (Ed _) ?_
 have hF := FR.start w0 []
 refine Ka ?_
 refine Jj (v := .agg (List.toArray cs)) (cs := (List.toArray cs)) hF rfl rfl ?_
 clear hF; rintro b1 w hb1 hF -
 refine Ca (Qj rfl) (Ca (Gc rfl) (Ea (Ia (Ka (Ja (v := .agg (List.toArray cs)) (Sb (l := cs) isAgg27 sizeOf27 rfl hl (hF.cellsAll 0 rfl)) ?_)))))
 refine Pb hF (Px x by_Om _ _ _ (hF.rep rx) hk (hG.ext hF.same)) (Eb NC rfl rfl) ?_
 clear hF; intro w hF
 refine Ca (Oo rfl) (Ea ?_)
 refine Pj rfl rfl (fun hc0 => ?_) (fun hc0 => ?_)
 refine Ka (Ca (Qj rfl) (Ca (Gc rfl) (Ea ?_)))
 refine Fc (Bc (Za (Ye (v := .string (bs [])) (x := .int .i64 1) rfl rfl rfl) ?_))
 exact ⟨by rw [if_neg (by simpa using hc0)], hF.same⟩
 refine Wa (Ha (Ka ?_))
 refine Ig (cs := #[.pointer none, .slice none 0 0, .bool false, .int .i64 0]) hF zeroValue161 rfl ?_
 clear hF; rintro b2 w hb2 hF -
 refine Cc (Ja (v := .agg (List.toArray cs)) (Sb (l := cs) isAgg27 sizeOf27 rfl hl (hF.cellsAll 1 rfl)) ?_)
 have hB : BW w0 [] w b2 b2 161 [.bool false, .int .i64 ((0 : Nat) : Int)] [] := BW.own ⟨.inr ⟨rfl, _, _, rfl⟩, Nat.le_refl _, _, _, hF.heap (i := 0) rfl, World.ownsRow_nil _ _ _ _, .inl rfl⟩ (hF.ge (i := 0) rfl) hF.same.size
 have nb1 : b1 ≠ b2 := Vg hF.desc (i := 1) (j := 0) rfl rfl Ra
 have hge := hF.ge (i := 0) rfl
 replace hF : FR w0 [] [(b1, .cells cs.toArray 27)] w := hF.drop 1
 have hXo : Rep (fun b => b ∉ Wk w b2 b2) w (Sc x) cs := (rx.old.same hF.same Ga).weaken fun b hb _ hm => by have h1 := hb.2; rcases If.1 hm with rfl | ⟨-, h2, -⟩ <;> omega
 refine Db (AM x false 0 0 _ b2 b2 [] cs hB.bd (hG.ext hF.same) (by have := hG.size; omega) hXo hq (UG (by simpa using hc0)) by_Om (by have := Ww (x := x) (by simpa using hc0); omega) (by simpa using hlim (by simpa using hc0))) (Dc Y5 rfl rfl rfl rfl) ?_
 rintro _ w ⟨rfl, hBd2, hE⟩
 replace hF := hF.wrote hB hE (by simp [Zi, nb1])
 replace hB := hB.wrote hBd2 hE
 clear hBd2 hE
 refine Cc (Ca (Kc Mh rfl) ?_)
 refine Db (J8 hB.bd (by simpa using MM false 0 x 0 (by simpa using hc0))) (Eb OI rfl rfl) ?_
 rintro _ w ⟨rfl, hE⟩
 replace hF := hF.wrote hB hE (by simp [Zi, nb1])
 clear hE
 refine Ca (Qj rfl) (Ca (Gc rfl) (Ea ?_))
 refine Fc (Bc (Za (Ye (v := .string (bs ([] ++ Xe false 0 x 0))) (x := .int .i64 0) rfl rfl rfl) ?_))
 exact ⟨by rw [if_pos (by simpa using hc0)]; rfl, hF.same⟩
end Go.Scarf
