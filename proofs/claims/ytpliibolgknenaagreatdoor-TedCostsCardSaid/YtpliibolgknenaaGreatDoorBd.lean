/- A part of the proof. -/
import Derived.Test.YtpliibolgknenaaGreatDoorFacts
import Derived.Test.YtpliibolgknenaaGreatDoorNum
import Derived.Lib.AppendStr
import Derived.Lib.Builder
import Derived.Lib.UnsafeStr
import Derived.LaidEqlPtr
import Derived.Test.YtpliibolgknenaaGreatDoorShelf
import Derived.Lib.RuneBytes
import Derived.Test.YtpliibolgknenaaGreatDoorW20
import Derived.Laws.BytesString
import Derived.Test.YtpliibolgknenaaGreatDoorW2
import Derived.Lib.TrimU
set_option linter.all false
namespace Go.Scarf
open Go.RowKit Go.Proofs
section
variable {P : Program} {w w' w0 : World} {Ds E : List Nat} {bs_ : List (Nat × Obj)}
def rowO : Obj → Bool
  | .cells _ e _ => e == 5
  | _ => false
def rowAt (w : World) (b : Nat) : Bool := match w.heap[b]? with | some o => rowO o | none => false
def Wk (w : World) (B pb : Nat) : List Nat := pb :: (List.range w.heap.size).filter fun b => decide (B ≤ b) && rowAt w b
theorem mem_Wk {B pb x : Nat} : x ∈ Wk w B pb ↔ x = pb ∨ (x < w.heap.size ∧ B ≤ x ∧ rowAt w x = true) := by simp [Wk]
theorem rowAt_of {b : Nat} {o : Obj} (h : w.heap[b]? = some o) : rowAt w b = rowO o := by simp [rowAt, h]
def Shp (T : Nat) (rest : List Value) : Prop := (T = 122 ∧ rest = []) ∨ (T = 124 ∧ ∃ m i, rest = [.bool m, .int .i64 i])
theorem Shp.ne {T : Nat} {rest : List Value} (h : Shp T rest) : (T == 5) = false := by rcases h with ⟨rfl, -⟩ | ⟨rfl, -⟩ <;> rfl
structure Bd (w : World) (B pb T : Nat) (rest : List Value) (s : Str) : Prop where
  shp : Shp T rest
  le : B ≤ pb
  ex : ∃ ap v, w.heap[pb]? = some (.cells (ap :: v :: rest).toArray T) ∧ w.ownsRow B 5 1 v s.length (Lib.byteCells s) ∧ (ap = .pointer none ∨ ap = .pointer (some ⟨pb, 0, none⟩))
theorem Bd.lt {B pb T : Nat} {rest : List Value} {s : Str} (h : Bd w B pb T rest s) : pb < w.heap.size := by
  obtain ⟨ap, v, hh, -⟩ := h.ex; exact lt_of_some hh
theorem Bd.base {B pb T : Nat} {rest : List Value} {s : Str} (h : Bd w B pb T rest s) : B ≤ w.heap.size := Nat.le_trans h.le (Nat.le_of_lt h.lt)
theorem own_row {B n g : Nat} {v : Value} {xs : List Value} (h : w.ownsRow B 5 1 v n xs) (hg : v.ownBlock = some g) : g < w.heap.size ∧ B ≤ g ∧ rowAt w g = true := by
  rcases h.2 with ⟨rfl, -⟩ | ⟨g', cap, cur, rfl, h1, h2, -⟩
  · cases hg
  · cases hg
    exact ⟨lt_of_some h2, h1, by rw [rowAt_of h2]; rfl⟩
theorem own_mem {B n g pb : Nat} {v : Value} {xs : List Value} (h : w.ownsRow B 5 1 v n xs) (hg : v.ownBlock = some g) : g ∈ Wk w B pb := mem_Wk.2 (.inr (own_row h hg))
theorem own_ne {B n g pb : Nat} {v : Value} {xs : List Value} {o : Obj} (h : w.ownsRow B 5 1 v n xs) (hg : v.ownBlock = some g) (hh : w.heap[pb]? = some o) (ho : rowO o = false) : g ≠ pb := by
  rintro rfl
  have h1 := (own_row h hg).2.2
  rw [rowAt_of hh, ho] at h1; cases h1
theorem own_same {B n : Nat} {v : Value} {xs : List Value} (h : w.ownsRow B 5 1 v n xs) (hs : Same E w w') (he : ∀ g, v.ownBlock = some g → g ∉ E) : w'.ownsRow B 5 1 v n xs := by
  refine ⟨h.1, ?_⟩
  rcases h.2 with h2 | ⟨g, cap, cur, rfl, h1, h2, h3⟩
  · exact .inl h2
  · exact .inr ⟨g, cap, cur, rfl, h1, (hs.block g (lt_of_some h2) (he g rfl)).trans h2, h3⟩
theorem own_slice {B n : Nat} {v : Value} {xs : List Value} (h : w.ownsRow B 5 1 v n xs) : ∃ A c, v = .slice A n c := by
  rcases h.2 with ⟨rfl, rfl⟩ | ⟨g, cap, cur, rfl, -⟩
  · exact ⟨_, _, rfl⟩
  · exact ⟨_, _, rfl⟩
theorem Wk.step {B pb x : Nat} (hs : Same (Wk w B pb) w w') (hx : x ∈ Wk w' B pb) : x ∈ Wk w B pb ∨ w.heap.size ≤ x := by
  by_cases h : x < w.heap.size
  · by_cases hm : x ∈ Wk w B pb
    · exact .inl hm
    · rcases mem_Wk.1 hx with rfl | ⟨h1, h2, h3⟩
      · exact .inl (mem_Wk.2 (.inl rfl))
      · refine absurd (mem_Wk.2 (.inr ⟨h, h2, ?_⟩)) hm
        rw [rowAt, ← hs.block x h hm]; exact h3
  · exact .inr (by omega)
theorem FR.grown {g : Option Nat} (h : FR w0 Ds bs_ w) (hg : w.grownBy w' g) (hr : ∀ b, g = some b → (b < w0.heap.size → b ∈ Ds) ∧ ∀ p ∈ bs_, p.1 ≠ b) : FR w0 Ds bs_ w' := by
  have hs : Same g.toList w w' := ⟨hg.os, hg.tape, hg.output, hg.size, fun b hb hn => hg.block b hb (fun e => hn (by simp [← e]))⟩
  exact h.touch hs (fun b hb => hr b (by simpa using hb))
theorem bytes_app (s t : Str) : Lib.byteCells (s ++ t) = Lib.byteCells s ++ Lib.byteCells t := Lib.byteCells_append s t
end
section
variable {P : Program} {w : World} {ρ : Operand → Value} {dst : Option Nat} {ty : TypeId} {pos : String} {aft : Array Edge} {g : Option (Nat × Bool)}
theorem x_eqlp0 {t t' te : Nat} {x y : Operand} (ht : P.underlying t = some (.pointer te)) (hx : ρ x = .pointer none) (hy : ρ y = .pointer none) :
    (execOp ρ ⟨dst, .binOp .eql t x y t', ty, pos, aft, g⟩).run P w = .ok (.value (.bool true)) w := by
  have h : ∀ d : Nat, (Op.equalIn (d + 1) t (.pointer none) (.pointer none)).run P w = .ok true w := fun d => by
    simp [Op.equalIn, run_underlying ht]
  have hg : (eqGuard .eql t x y (.pointer none) (.pointer none)).run P w = .ok () w := by unfold eqGuard; split <;> simp
  simp only [execOp, hx, hy, Sem.run_bind, hg, Result.andThen_ok, binOp]
  simp [Op.equal, Op.maxDepth, h 9999]
theorem x_eqlp1 {t t' te : Nat} {x y : Operand} {a : Addr} (ht : P.underlying t = some (.pointer te)) (hx : ρ x = .pointer (some a)) (hy : ρ y = .pointer none) :
    (execOp ρ ⟨dst, .binOp .eql t x y t', ty, pos, aft, g⟩).run P w = .ok (.value (.bool false)) w := by
  have h : ∀ d : Nat, (Op.equalIn (d + 1) t (.pointer (some a)) (.pointer none)).run P w = .ok false w := fun d => by
    simp [Op.equalIn, run_underlying ht]
  have hg : (eqGuard .eql t x y (.pointer (some a)) (.pointer none)).run P w = .ok () w := by unfold eqGuard; split <;> simp
  simp only [execOp, hx, hy, Sem.run_bind, hg, Result.andThen_ok, binOp]
  simp [Op.equal, Op.maxDepth, h 9999]
theorem x_neqp {t t' te : Nat} {x y : Operand} {a : Addr} {j : TypeInfo} (ht : P.underlying t = some (.pointer te)) (hte : P.info? te = some j) (hx : ρ x = .pointer (some a)) (hy : ρ y = .pointer (some a)) :
    (execOp ρ ⟨dst, .binOp .neq t x y t', ty, pos, aft, g⟩).run P w = .ok (.value (.bool false)) w := by
  have h := Lib.run_neq_ptr_same w a ht hte
  have hg : (eqGuard .neq t x y (.pointer (some a)) (.pointer (some a))).run P w = .ok () w := by unfold eqGuard; split <;> simp
  simp only [execOp, hx, hy, Sem.run_bind, hg, Result.andThen_ok, h, Sem.run_pure]
theorem x_convp {t t' : Nat} {x : Operand} {v : Value} (hx : ρ x = v) (h : (convert t t' v).run P w = .ok v w) : (execOp ρ ⟨dst, .convert t t' x, ty, pos, aft, g⟩).run P w = .ok (.value v) w := by
  simp [execOp, hx, h]
theorem x_ext1 {f : FuncId} {fn : Func} {e : Array Value → Sem Value} {x1 : Operand} {ats : Array TypeId} {v1 v : Value} (hf : P.funcs[f]? = some fn) (hname : (fn.name == "runtime.NumGoroutine") = false)
    (hb : fn.body.isNone = true) (hn : Extern.findNext fn = none) (he : Extern.find fn = some e) (h0 : ρ (.func f) = .func (.func f) #[] #[]) (h1 : ρ x1 = v1) (hr : (e #[v1]).run P w = .ok v w) :
    (execOp ρ ⟨dst, .call ⟨.value (.func f), #[x1], ats⟩, ty, pos, aft, g⟩).run P w = .ok (.value v) w := by
  simp [execOp, resolve, Deferred.ofValue, h0, h1, invoke, run_callFunc_extern hf hname hb hn he, hr]
theorem x_usd {x : Operand} {ats : Array TypeId} {a : Addr} {n c : Nat} (hx : ρ x = .slice (some a) n c) (hc : c ≠ 0) : (execOp ρ ⟨dst, .call ⟨.builtin .unsafeSliceData, #[x], ats⟩, ty, pos, aft, g⟩).run P w = .ok (.value (.pointer (some a))) w := by
  simp [execOp, resolve, invoke, builtin, hx, Lib.run_unsafeSliceData_row w ats ty a n c hc]
theorem x_uss {x y : Operand} {t1 t2 : Nat} {u v r : Value} {w' : World} (hx : ρ x = u) (hy : ρ y = v) (h : (Builtin.unsafeString_ #[t1, t2] ty #[u, v]).run P w = .ok r w') : (execOp ρ ⟨dst, .call ⟨.builtin .unsafeString, #[x, y], #[t1, t2]⟩, ty, pos, aft, g⟩).run P w = .ok (.value r) w' := by
  simp [execOp, resolve, invoke, builtin, hx, hy, h]
theorem x_append2 {x y : Operand} {t1 t2 : TypeId} {u v : Value} {r : Value} {w' : World} (hx : ρ x = u) (hy : ρ y = v) (h : (Builtin.append_ #[t1, t2] ty #[u, v]).run P w = .ok r w') :
    (execOp ρ ⟨dst, .call ⟨.builtin .append, #[x, y], #[t1, t2]⟩, ty, pos, aft, g⟩).run P w = .ok (.value r) w' := by
  simp [execOp, resolve, invoke, builtin, hx, hy, h]
end
section
variable {P : Program} {R : Exit → Act → World → Prop} {n : Nat} {kt : Kt} {s : Nat → Value} {w : World} {ops rest : List Oper}
variable {d : Nat} {ty : TypeId} {pos : String} {aft : Array Edge} {g : Option (Nat × Bool)}
variable {w0 : World} {Ds : List Nat} {bs_ : List (Nat × Obj)}
theorem o_appB {x y : Operand} {t B len c2 k : Nat} {v : Value} {xs news : List Value} {a : Addr} (hE : Elems P t 5 1 1)
    (hF : FR w0 Ds bs_ w) (hO : w.ownsRow B 5 1 v len xs) (hB : B ≤ w.heap.size) (hx : ev n s x = v) (hy : ev n s y = .slice (some a) k c2)
    (hl : news.length = k * 1) (hnews : ∀ j u, news[j]? = some u → w.cell? (a.add j) = some u) (h1 : ∀ u ∈ news, u.oneCell' = true) (hb : len + k ≤ 140737488355328)
    (hr : ∀ b, v.ownBlock = some b → (b < w0.heap.size → b ∈ Ds) ∧ ∀ p ∈ bs_, p.1 ≠ b)
    (h : ∀ v' w', w'.ownsRow B 5 1 v' (len + k) (xs ++ news) → FR w0 Ds bs_ w' → w.heap.size ≤ w'.heap.size → Og P R n ops kt rest (upd s d v') w')
    (hw : wantedB ops n s ⟨some d, .call ⟨.builtin .append, #[x, y], #[t, t]⟩, ty, pos, aft, g⟩ = true := by rfl) : Og P R n ops kt (⟨some d, .call ⟨.builtin .append, #[x, y], #[t, t]⟩, ty, pos, aft, g⟩ :: rest) s w := by
  obtain ⟨i, z, hi, hz, h2, h3, h4⟩ := hE.info
  obtain ⟨v', w', hr', hO', hg, -⟩ := run_append_own (P := P) w B t ty 5 i z 1 1 hE.ht hi hz h2 h3 h4 (by decide) v len xs hO a k c2 news hl hnews h1 (by unfold maxLen; omega) (by omega) hB
  exact o_val (x_append hx hy hr') (h v' w' hO' (hF.grown hg hr) hg.size) hw
theorem o_appS {x y : Operand} {t u B len : Nat} {v : Value} {xs : List Value} {str : Str} (hE : Elems P t 5 1 1) (hz0 : (P.info? 5).map (·.zero) = some (some (.int .u8 0))) (hu : P.underlying u = some .string)
    (hF : FR w0 Ds bs_ w) (hO : w.ownsRow B 5 1 v len xs) (hB : B ≤ w.heap.size) (hx : ev n s x = v) (hy : ev n s y = .string (bs str)) (hb : len + str.length ≤ 140737488355328)
    (hr : ∀ b, v.ownBlock = some b → (b < w0.heap.size → b ∈ Ds) ∧ ∀ p ∈ bs_, p.1 ≠ b)
    (h : ∀ v' w', w'.ownsRow B 5 1 v' (len + str.length) (xs ++ Lib.byteCells str) → FR w0 Ds bs_ w' → w.heap.size ≤ w'.heap.size → Og P R n ops kt rest (upd s d v') w')
    (hw : wantedB ops n s ⟨some d, .call ⟨.builtin .append, #[x, y], #[t, u]⟩, ty, pos, aft, g⟩ = true := by rfl) : Og P R n ops kt (⟨some d, .call ⟨.builtin .append, #[x, y], #[t, u]⟩, ty, pos, aft, g⟩ :: rest) s w := by
  obtain ⟨i, z, hi, hz, h2, h3, h4⟩ := hE.info
  rw [hi] at hz0
  have hz1 : i.zero = some (.int .u8 0) := by simpa using hz0
  have e : (bs str).size = str.length := bs_size str
  obtain ⟨v', w', hr', hO', hg, -⟩ := Lib.run_append_own_string (P := P) w B t u ty 5 i hE.ht hu hi hz1 h2 h3 v len xs hO (bs str) (by rw [e]; unfold maxLen; omega) (by rw [e]; omega) hB
  rw [e] at hO'
  exact o_val (x_append2 hx hy hr') (h v' w' (by simpa [Lib.strCells_eq, bs_toList, bs] using hO') (hF.grown hg hr) hg.size) hw
end
end Go.Scarf
namespace Go.Scarf
open Go.RowKit Go.Proofs
theorem lies_bld : liesAt Tryz.prog Tryz.prog.depth 122 (2 / Tryz.prog.cellsOf 122) 0 122 1 = true := by kernel_rfl
theorem lies_prn : liesAt Tryz.prog Tryz.prog.depth 124 (4 / Tryz.prog.cellsOf 124) 0 122 1 = true := by kernel_rfl
theorem size_bld : (Tryz.prog.info? 122).map (·.size) = some 2 := by kernel_rfl
set_option maxHeartbeats 1000000 in
set_option maxRecDepth 10000 in
theorem copyCheck_fa (w0 : World) (pb : Nat) (v : Value) (hh : w0.heap[pb]? = some (.cells #[.pointer none, v] 122)) : Calls Tryz.prog 155 #[.pointer (some ⟨pb, 0, none⟩)] w0 (Ret fun v_ w' => v_ = .tuple #[] ∧ Same [pb] w0 w' ∧ w'.heap[pb]? = some (.cells #[.pointer (some ⟨pb, 0, none⟩), v] 122)) := by
 obtain ⟨j, hj, hjs⟩ := Option.map_eq_some_iff.1 size_bld
 have hne : pb < w0.heap.size := lt_of_some hh
 refine calls_start Tryz.func155 rfl Tryz.ntmps155 (Nat.le_of_ble_eq_true rfl) (args_1 _) ?_
 have hF : FR w0 [pb] [(pb, .cells #[.pointer none, v] 122)] w0 := FR.open_ (by simpa using hh) (by simp)
 refine c_seq (c_region (o_val (x_move rfl) (o_val (v := .pointer (some ⟨pb, 0, none⟩)) (x_nilCheck rfl) (o_val (v := .pointer (some ⟨pb, 0, none⟩)) (x_fieldAddrO fa_122_0 rfl) (o_val (v := .pointer none) (x_load Tryz.isAgg119 rfl (hF.cell 0 rfl rfl)) (o_val (v := .bool true) (x_eqlp0 Tryz.underlying119 rfl rfl) (o_nil (e_seq (c_ift rfl (c_region (o_val (x_move rfl) (o_val (x_move rfl) ?_))))))))))))
 refine o_val (v := .pointer (some ⟨pb, 0, none⟩)) (x_convp rfl (Lib.run_to_unsafe _ ⟨pb, 0, none⟩ Tryz.underlying119 Tryz.underlying219 hj (by rw [hjs]; decide) (e := 122) (cells := 2) (by simp [World.shape?, hF.heap (i := 0) rfl]) (Nat.zero_lt_succ _))) ?_
 refine o_val (v := .pointer (some ⟨pb, 0, none⟩)) (x_ext1 Tryz.func194 (by kernel_rfl) (by kernel_rfl) (by kernel_rfl) (e := Extern.AbiNoEscape.same) (by kernel_rfl) rfl rfl (Lib.run_noEscape _ _)) ?_
 refine o_val (v := .pointer (some ⟨pb, 0, none⟩)) (x_convp rfl (Lib.run_from_unsafe _ ⟨pb, 0, none⟩ Tryz.underlying219 Tryz.underlying119 hj (e := 122) (cells := 2) (by simp [World.shape?, hF.heap (i := 0) rfl]) lies_bld)) ?_
 refine o_val (v := .pointer (some ⟨pb, 0, none⟩)) (x_nilCheck rfl) (o_val (v := .pointer (some ⟨pb, 0, none⟩)) (x_fieldAddrO fa_122_0 rfl) ?_)
 refine o_store 0 (l := [.pointer (some ⟨pb, 0, none⟩)]) (cs' := #[.pointer (some ⟨pb, 0, none⟩), v]) hF Tryz.sizeOf119 rfl (v := .pointer (some ⟨pb, 0, none⟩)) rfl rfl (by simp [one]) rfl (Nat.le_of_ble_eq_true rfl) rfl ?_
 clear hF; rintro w hF -
 replace hF : FR w0 [pb] [(pb, .cells #[.pointer (some ⟨pb, 0, none⟩), v] 122)] w := hF
 refine o_nil ?_
 refine e_done (post_end (res_0 rfl) ?_)
 exact ⟨rfl, hF.same, hF.heap (i := 0) rfl⟩
set_option maxHeartbeats 1000000 in
set_option maxRecDepth 10000 in
theorem copyCheck_fb (w0 : World) (pb : Nat) (v : Value) (m : Bool) (i : Int) (hh : w0.heap[pb]? = some (.cells #[.pointer none, v, .bool (m), .int .i64 (i)] 124)) : Calls Tryz.prog 155 #[.pointer (some ⟨pb, 0, none⟩)] w0 (Ret fun v_ w' => v_ = .tuple #[] ∧ Same [pb] w0 w' ∧ w'.heap[pb]? = some (.cells #[.pointer (some ⟨pb, 0, none⟩), v, .bool (m), .int .i64 (i)] 124)) := by
 obtain ⟨j, hj, hjs⟩ := Option.map_eq_some_iff.1 size_bld
 have hne : pb < w0.heap.size := lt_of_some hh
 refine calls_start Tryz.func155 rfl Tryz.ntmps155 (Nat.le_of_ble_eq_true rfl) (args_1 _) ?_
 have hF : FR w0 [pb] [(pb, .cells #[.pointer none, v, .bool (m), .int .i64 (i)] 124)] w0 := FR.open_ (by simpa using hh) (by simp)
 refine c_seq (c_region (o_val (x_move rfl) (o_val (v := .pointer (some ⟨pb, 0, none⟩)) (x_nilCheck rfl) (o_val (v := .pointer (some ⟨pb, 0, none⟩)) (x_fieldAddrO fa_122_0 rfl) (o_val (v := .pointer none) (x_load Tryz.isAgg119 rfl (hF.cell 0 rfl rfl)) (o_val (v := .bool true) (x_eqlp0 Tryz.underlying119 rfl rfl) (o_nil (e_seq (c_ift rfl (c_region (o_val (x_move rfl) (o_val (x_move rfl) ?_))))))))))))
 refine o_val (v := .pointer (some ⟨pb, 0, none⟩)) (x_convp rfl (Lib.run_to_unsafe _ ⟨pb, 0, none⟩ Tryz.underlying119 Tryz.underlying219 hj (by rw [hjs]; decide) (e := 124) (cells := 4) (by simp [World.shape?, hF.heap (i := 0) rfl]) (Nat.zero_lt_succ _))) ?_
 refine o_val (v := .pointer (some ⟨pb, 0, none⟩)) (x_ext1 Tryz.func194 (by kernel_rfl) (by kernel_rfl) (by kernel_rfl) (e := Extern.AbiNoEscape.same) (by kernel_rfl) rfl rfl (Lib.run_noEscape _ _)) ?_
 refine o_val (v := .pointer (some ⟨pb, 0, none⟩)) (x_convp rfl (Lib.run_from_unsafe _ ⟨pb, 0, none⟩ Tryz.underlying219 Tryz.underlying119 hj (e := 124) (cells := 4) (by simp [World.shape?, hF.heap (i := 0) rfl]) lies_prn)) ?_
 refine o_val (v := .pointer (some ⟨pb, 0, none⟩)) (x_nilCheck rfl) (o_val (v := .pointer (some ⟨pb, 0, none⟩)) (x_fieldAddrO fa_122_0 rfl) ?_)
 refine o_store 0 (l := [.pointer (some ⟨pb, 0, none⟩)]) (cs' := #[.pointer (some ⟨pb, 0, none⟩), v, .bool (m), .int .i64 (i)]) hF Tryz.sizeOf119 rfl (v := .pointer (some ⟨pb, 0, none⟩)) rfl rfl (by simp [one]) rfl (Nat.le_of_ble_eq_true rfl) rfl ?_
 clear hF; rintro w hF -
 replace hF : FR w0 [pb] [(pb, .cells #[.pointer (some ⟨pb, 0, none⟩), v, .bool (m), .int .i64 (i)] 124)] w := hF
 refine o_nil ?_
 refine e_done (post_end (res_0 rfl) ?_)
 exact ⟨rfl, hF.same, hF.heap (i := 0) rfl⟩
set_option maxHeartbeats 1000000 in
set_option maxRecDepth 10000 in
theorem copyCheck_ua (w0 : World) (pb : Nat) (v : Value) (hh : w0.heap[pb]? = some (.cells #[.pointer (some ⟨pb, 0, none⟩), v] 122)) : Calls Tryz.prog 155 #[.pointer (some ⟨pb, 0, none⟩)] w0 (Ret fun v_ w' => v_ = .tuple #[] ∧ Same [pb] w0 w' ∧ w'.heap[pb]? = some (.cells #[.pointer (some ⟨pb, 0, none⟩), v] 122)) := by
 obtain ⟨j, hj, hjs⟩ := Option.map_eq_some_iff.1 size_bld
 have hne : pb < w0.heap.size := lt_of_some hh
 refine calls_start Tryz.func155 rfl Tryz.ntmps155 (Nat.le_of_ble_eq_true rfl) (args_1 _) ?_
 have hF : FR w0 [pb] [(pb, .cells #[.pointer (some ⟨pb, 0, none⟩), v] 122)] w0 := FR.open_ (by simpa using hh) (by simp)
 refine c_seq (c_region (o_val (x_move rfl) (o_val (v := .pointer (some ⟨pb, 0, none⟩)) (x_nilCheck rfl) (o_val (v := .pointer (some ⟨pb, 0, none⟩)) (x_fieldAddrO fa_122_0 rfl) (o_val (v := .pointer (some ⟨pb, 0, none⟩)) (x_load Tryz.isAgg119 rfl (hF.cell 0 rfl rfl)) (o_val (v := .bool false) (x_eqlp1 Tryz.underlying119 rfl rfl) (o_nil (e_seq (c_iff rfl (c_seq (c_region (o_val (x_move rfl) (o_val (v := .pointer (some ⟨pb, 0, none⟩)) (x_nilCheck rfl) ?_)))))))))))))
 refine o_val (v := .pointer (some ⟨pb, 0, none⟩)) (x_fieldAddrO fa_122_0 rfl) (o_val (v := .pointer (some ⟨pb, 0, none⟩)) (x_load Tryz.isAgg119 rfl (hF.cell 0 rfl rfl)) (o_val (x_move rfl) (o_val (v := .bool false) (x_neqp Tryz.underlying119 hj rfl rfl) (o_nil (e_seq (c_iff rfl (c_skip ?_)))))))
 refine e_done (post_end (res_0 rfl) ?_)
 exact ⟨rfl, hF.same, hF.heap (i := 0) rfl⟩
set_option maxHeartbeats 1000000 in
set_option maxRecDepth 10000 in
theorem copyCheck_ub (w0 : World) (pb : Nat) (v : Value) (m : Bool) (i : Int) (hh : w0.heap[pb]? = some (.cells #[.pointer (some ⟨pb, 0, none⟩), v, .bool (m), .int .i64 (i)] 124)) : Calls Tryz.prog 155 #[.pointer (some ⟨pb, 0, none⟩)] w0 (Ret fun v_ w' => v_ = .tuple #[] ∧ Same [pb] w0 w' ∧ w'.heap[pb]? = some (.cells #[.pointer (some ⟨pb, 0, none⟩), v, .bool (m), .int .i64 (i)] 124)) := by
 obtain ⟨j, hj, hjs⟩ := Option.map_eq_some_iff.1 size_bld
 have hne : pb < w0.heap.size := lt_of_some hh
 refine calls_start Tryz.func155 rfl Tryz.ntmps155 (Nat.le_of_ble_eq_true rfl) (args_1 _) ?_
 have hF : FR w0 [pb] [(pb, .cells #[.pointer (some ⟨pb, 0, none⟩), v, .bool (m), .int .i64 (i)] 124)] w0 := FR.open_ (by simpa using hh) (by simp)
 refine c_seq (c_region (o_val (x_move rfl) (o_val (v := .pointer (some ⟨pb, 0, none⟩)) (x_nilCheck rfl) (o_val (v := .pointer (some ⟨pb, 0, none⟩)) (x_fieldAddrO fa_122_0 rfl) (o_val (v := .pointer (some ⟨pb, 0, none⟩)) (x_load Tryz.isAgg119 rfl (hF.cell 0 rfl rfl)) (o_val (v := .bool false) (x_eqlp1 Tryz.underlying119 rfl rfl) (o_nil (e_seq (c_iff rfl (c_seq (c_region (o_val (x_move rfl) (o_val (v := .pointer (some ⟨pb, 0, none⟩)) (x_nilCheck rfl) ?_)))))))))))))
 refine o_val (v := .pointer (some ⟨pb, 0, none⟩)) (x_fieldAddrO fa_122_0 rfl) (o_val (v := .pointer (some ⟨pb, 0, none⟩)) (x_load Tryz.isAgg119 rfl (hF.cell 0 rfl rfl)) (o_val (x_move rfl) (o_val (v := .bool false) (x_neqp Tryz.underlying119 hj rfl rfl) (o_nil (e_seq (c_iff rfl (c_skip ?_)))))))
 refine e_done (post_end (res_0 rfl) ?_)
 exact ⟨rfl, hF.same, hF.heap (i := 0) rfl⟩
theorem copyCheck_c {w0 : World} {B pb T : Nat} {rest : List Value} {s : Str} (h : Bd w0 B pb T rest s) :
    ∃ v, w0.ownsRow B 5 1 v s.length (Lib.byteCells s) ∧ (∀ g, v.ownBlock = some g → g ∈ Wk w0 B pb ∧ g ≠ pb) ∧
      Calls Tryz.prog 155 #[.pointer (some ⟨pb, 0, none⟩)] w0 (Ret fun u w' => u = .tuple #[] ∧ Same [pb] w0 w' ∧ w'.heap[pb]? = some (.cells (.pointer (some ⟨pb, 0, none⟩) :: v :: rest).toArray T) ∧ w'.ownsRow B 5 1 v s.length (Lib.byteCells s)) := by
  obtain ⟨hs, hle, ap, v, hh, hO, ha⟩ := h
  have hne : ∀ g, v.ownBlock = some g → g ≠ pb := fun g hg => own_ne hO hg hh (by exact hs.ne)
  refine ⟨v, hO, fun g hg => ⟨own_mem hO hg, hne g hg⟩, ?_⟩
  have fin : ∀ {u : Value} {w' : World}, (u = .tuple #[] ∧ Same [pb] w0 w' ∧ w'.heap[pb]? = some (.cells (.pointer (some ⟨pb, 0, none⟩) :: v :: rest).toArray T)) → (u = .tuple #[] ∧ Same [pb] w0 w' ∧ w'.heap[pb]? = some (.cells (.pointer (some ⟨pb, 0, none⟩) :: v :: rest).toArray T) ∧ w'.ownsRow B 5 1 v s.length (Lib.byteCells s)) :=
    fun ⟨h1, h2, h3⟩ => ⟨h1, h2, h3, own_same hO h2 (fun g hg => by simpa using hne g hg)⟩
  rcases hs with ⟨rfl, rfl⟩ | ⟨rfl, m, i, rfl⟩ <;> rcases ha with rfl | rfl
  · exact ret_mono (copyCheck_fa w0 pb v hh) fun _ _ => fin
  · exact ret_mono (copyCheck_ua w0 pb v hh) fun _ _ => fin
  · exact ret_mono (copyCheck_fb w0 pb v m i hh) fun _ _ => fin
  · exact ret_mono (copyCheck_ub w0 pb v m i hh) fun _ _ => fin
end Go.Scarf
namespace Go.Scarf
open Go.RowKit Go.Proofs
theorem zero_byte : (Tryz.prog.info? 5).map (·.zero) = some (some (.int .u8 0)) := by kernel_rfl
theorem FR.addD {w0 w : World} {Ds : List Nat} {bs_ : List (Nat × Obj)} {b : Nat} {o : Obj} (h : FR w0 Ds bs_ w) (hh : w.heap[b]? = some o) (hd : w0.heap.size ≤ b ∨ b ∈ Ds) (hn : ∀ p ∈ bs_, p.1 ≠ b) : FR w0 Ds ((b, o) :: bs_) w :=
  ⟨h.same, fun p hp => by
    rcases List.mem_cons.1 hp with rfl | hp
    · exact ⟨hh, hd⟩
    · exact h.own p hp, List.pairwise_cons.2 ⟨fun q hq => hn q hq, h.desc⟩⟩
def runeS (r : Int) : Str := (Lib.encodeRuneZ r).map fun x => UInt8.ofNat x.toNat
theorem runeS_length (r : Int) : 1 ≤ (runeS r).length ∧ (runeS r).length ≤ 4 := by rw [runeS, List.length_map]; exact Lib.encodeRuneZ_length r
theorem runeS_cells (r : Int) : Lib.byteCells (runeS r) = Lib.runeCells r := by
  rw [runeS, Lib.byteCells, Lib.runeCells, List.map_map]
  refine List.map_congr_left fun x hx => ?_
  have := Lib.encodeRuneZ_byte r x hx
  simp only [Function.comp_apply, Value.int.injEq, true_and, UInt8.toNat_ofNat']
  omega
theorem appendRune_c {w : World} {B n : Nat} {v : Value} {xs : List Value} {r : Int} (hO : w.ownsRow B 5 1 v n xs) (h0 : -2147483648 ≤ r) (h1 : r ≤ 2147483647) (hn : n + 4 ≤ 140737488355328) (hB : B ≤ w.heap.size) :
    Calls Tryz.prog 220 #[v, .int .i32 r] w (Ret fun v' w' => w'.ownsRow B 5 1 v' (n + (runeS r).length) (xs ++ Lib.byteCells (runeS r)) ∧ ∃ o, (w.alloc o).grownBy w' v.ownBlock) := by
  refine (Tryz.utf8_AppendRune_plain B v n xs r h0 h1 w hO hn hB).mono fun e w' ⟨v', he, h2, h3⟩ => ⟨v', he, ?_, h3⟩
  have e1 : (runeS r).length = (Lib.runeCells r).length := by rw [← runeS_cells, Lib.byteCells_length]
  rw [e1, runeS_cells]; exact h2
def WrC (f : Nat) (args : Array Value) (u : Value) (w0 : World) (B pb T : Nat) (rest : List Value) (s : Str) : Prop :=
  Calls Tryz.prog f args w0 (Ret fun v w' => v = u ∧ Bd w' B pb T rest s ∧ Same (Wk w0 B pb) w0 w')
set_option maxHeartbeats 1000000 in
set_option maxRecDepth 10000 in
theorem writeByte_a (w0 : World) (B pb : Nat) (s : Str) (hB : Bd w0 B pb 122 [] s) (c : UInt8) (hl : s.length + 1 ≤ 140737488355328) : WrC 157 #[.pointer (some ⟨pb, 0, none⟩), .int .u8 ((c.toNat : Nat) : Int)] .nilIface w0 B pb 122 [] (s ++ [c]) := by
 unfold WrC
 refine calls_start Tryz.func157 rfl Tryz.ntmps157 (Nat.le_of_ble_eq_true rfl) (args_2 _ _) ?_
 obtain ⟨v, hO0, hv, hC⟩ := copyCheck_c hB
 have hle := hB.le
 have hBw := hB.base
 have hlt := hB.lt
 have hws := Nat.le_refl w0.heap.size
 have hvl : ∀ g, v.ownBlock = some g → g < w0.heap.size := fun g hg => (own_row hO0 hg).1
 obtain ⟨A1, c1, rfl⟩ := own_slice hO0
 have hF := FR.start w0 (Wk w0 B pb)
 refine c_seq (c_region (o_val (x_assign rfl) (o_nil (e_seq (c_seq (c_region (o_val (x_move rfl) ?_)))))))
 refine o_call hC (x_call1 en_155 rfl rfl) ?_
 rintro _ w ⟨rfl, hE, hh, hO⟩
 replace hws := Nat.le_trans hws hE.size
 replace hBw := Nat.le_trans hBw hE.size
 replace hF : FR w0 (Wk w0 B pb) [(pb, .cells #[.pointer (some ⟨pb, 0, none⟩), .slice (A1) (s.length) (c1)] 122)] w := (hF.touch hE (fun b hb => by obtain rfl := List.mem_singleton.1 hb; exact ⟨fun _ => mem_Wk.2 (.inl rfl), by simp⟩)).addD hh (.inr (mem_Wk.2 (.inl rfl))) (by simp)
 clear hE hh
 refine o_nil (e_seq (c_seq (c_region (o_val (x_move rfl) (o_val (x_move rfl) (o_val (v := .pointer (some ⟨pb, 0, none⟩)) (x_nilCheck rfl) (o_val (v := .pointer (some ⟨pb, 1, none⟩)) (x_fieldAddrO fa_122_1 rfl) (o_val (v := .slice (A1) (s.length) (c1)) (x_load Tryz.isAgg120 rfl (hF.cell 0 rfl rfl)) (o_val (x_move rfl) ?_)))))))))
 refine o_new (v := fun b => .slice (some ⟨b, 0, none⟩) 1 1) hF (x_buildSlice (cs := #[.int .u8 ((c.toNat : Nat))]) Tryz.underlying120 Tryz.sizeOf5 Tryz.zeroValue5 (by decide) (by decide) (by kernel_rfl)) ?_
 clear hF; intro b1 w hb1 hF hE
 have nb1 : w0.heap.size ≤ b1 := by rw [hb1]; exact hws
 replace hws := Nat.le_trans hws hE.size
 replace hBw := Nat.le_trans hBw hE.size
 replace hO := own_same hO hE (by simp)
 clear hE
 refine o_appB (news := [.int .u8 ((c.toNat : Nat) : Int)]) el_120 hF hO hBw rfl rfl rfl (cells_opt (hF.cellsAll 0 rfl)) (by simp [Value.oneCell']) (by omega) (fun b hb => ⟨fun _ => (hv b hb).1, by have h1 := (hv b hb).2; have h2 := hvl b hb; intro p hp; simp only [List.mem_cons, List.not_mem_nil, or_false] at hp; rcases hp with rfl | rfl <;> grind⟩) ?_
 clear hF hO; intro v2 w hO hF hsz
 replace hws := Nat.le_trans hws hsz
 replace hBw := Nat.le_trans hBw hsz
 have hne2 : ∀ g, v2.ownBlock = some g → g ≠ pb := fun g hg => own_ne hO hg (hF.heap (i := 1) rfl) rfl
 obtain ⟨A2, c2, rfl⟩ := own_slice hO
 clear hsz
 refine o_val (v := .pointer (some ⟨pb, 0, none⟩)) (x_nilCheck rfl) (o_val (v := .pointer (some ⟨pb, 1, none⟩)) (x_fieldAddrO fa_122_1 rfl) ?_)
 refine o_store 1 (l := [.slice (A2) (s.length + 1) (c2)]) (cs' := #[.pointer (some ⟨pb, 0, none⟩), .slice (A2) (s.length + 1) (c2)]) hF Tryz.sizeOf120 rfl (v := .slice (A2) (s.length + 1) (c2)) rfl rfl (by simp [one]) rfl (Nat.le_of_ble_eq_true rfl) rfl ?_
 clear hF; intro w hF hE
 replace hws := Nat.le_trans hws hE.size
 replace hBw := Nat.le_trans hBw hE.size
 replace hO := own_same hO hE (fun g hg => by simpa using hne2 g hg)
 clear hE
 replace hF : FR w0 (Wk w0 B pb) [(b1, .cells #[.int .u8 ((c.toNat : Nat))] 5), (pb, .cells #[.pointer (some ⟨pb, 0, none⟩), .slice (A2) (s.length + 1) (c2)] 122)] w := hF
 refine o_nil (e_seq (c_seq (c_region (o_val (x_assign rfl) (o_nil (e_seq ?_))))))
 refine c_ret (e_ret (post_ret (res_1 (v := .nilIface) rfl rfl) ?_))
 exact ⟨rfl, ⟨.inl ⟨rfl, rfl⟩, hle, _, _, hF.heap (i := 1) rfl, by simpa [bytes_app, Lib.byteCells, runeS_cells] using hO, .inr rfl⟩, hF.same⟩
set_option maxHeartbeats 1000000 in
set_option maxRecDepth 10000 in
theorem writeString_a (w0 : World) (B pb : Nat) (s : Str) (hB : Bd w0 B pb 122 [] s) (t : Str) (hl : s.length + t.length ≤ 140737488355328) : WrC 114 #[.pointer (some ⟨pb, 0, none⟩), .string (bs t)] (.tuple #[.int .i64 ((t.length : Nat) : Int), .nilIface]) w0 B pb 122 [] (s ++ t) := by
 unfold WrC
 refine calls_start Tryz.func114 rfl Tryz.ntmps114 (Nat.le_of_ble_eq_true rfl) (args_2 _ _) ?_
 obtain ⟨v, hO0, hv, hC⟩ := copyCheck_c hB
 have hle := hB.le
 have hBw := hB.base
 have hlt := hB.lt
 have hws := Nat.le_refl w0.heap.size
 have hvl : ∀ g, v.ownBlock = some g → g < w0.heap.size := fun g hg => (own_row hO0 hg).1
 obtain ⟨A1, c1, rfl⟩ := own_slice hO0
 have hF := FR.start w0 (Wk w0 B pb)
 refine c_seq (c_region (o_val (x_assign rfl) (o_val (x_assign rfl) (o_nil (e_seq (c_seq (c_region (o_val (x_move rfl) ?_))))))))
 refine o_call hC (x_call1 en_155 rfl rfl) ?_
 rintro _ w ⟨rfl, hE, hh, hO⟩
 replace hws := Nat.le_trans hws hE.size
 replace hBw := Nat.le_trans hBw hE.size
 replace hF : FR w0 (Wk w0 B pb) [(pb, .cells #[.pointer (some ⟨pb, 0, none⟩), .slice (A1) (s.length) (c1)] 122)] w := (hF.touch hE (fun b hb => by obtain rfl := List.mem_singleton.1 hb; exact ⟨fun _ => mem_Wk.2 (.inl rfl), by simp⟩)).addD hh (.inr (mem_Wk.2 (.inl rfl))) (by simp)
 clear hE hh
 refine o_nil (e_seq (c_seq (c_region (o_val (x_move rfl) (o_val (x_move rfl) (o_val (v := .pointer (some ⟨pb, 0, none⟩)) (x_nilCheck rfl) (o_val (v := .pointer (some ⟨pb, 1, none⟩)) (x_fieldAddrO fa_122_1 rfl) (o_val (v := .slice (A1) (s.length) (c1)) (x_load Tryz.isAgg120 rfl (hF.cell 0 rfl rfl)) (o_val (x_move rfl) ?_)))))))))
 refine o_appS (str := t) el_120 zero_byte Tryz.underlying9 hF hO hBw rfl rfl (by omega) (fun b hb => ⟨fun _ => (hv b hb).1, by have h1 := (hv b hb).2; have h2 := hvl b hb; intro p hp; simp only [List.mem_cons, List.not_mem_nil, or_false] at hp; rcases hp with rfl <;> grind⟩) ?_
 clear hF hO; intro v2 w hO hF hsz
 replace hws := Nat.le_trans hws hsz
 replace hBw := Nat.le_trans hBw hsz
 have hne2 : ∀ g, v2.ownBlock = some g → g ≠ pb := fun g hg => own_ne hO hg (hF.heap (i := 0) rfl) rfl
 obtain ⟨A2, c2, rfl⟩ := own_slice hO
 clear hsz
 refine o_val (v := .pointer (some ⟨pb, 0, none⟩)) (x_nilCheck rfl) (o_val (v := .pointer (some ⟨pb, 1, none⟩)) (x_fieldAddrO fa_122_1 rfl) ?_)
 refine o_store 0 (l := [.slice (A2) (s.length + t.length) (c2)]) (cs' := #[.pointer (some ⟨pb, 0, none⟩), .slice (A2) (s.length + t.length) (c2)]) hF Tryz.sizeOf120 rfl (v := .slice (A2) (s.length + t.length) (c2)) rfl rfl (by simp [one]) rfl (Nat.le_of_ble_eq_true rfl) rfl ?_
 clear hF; intro w hF hE
 replace hws := Nat.le_trans hws hE.size
 replace hBw := Nat.le_trans hBw hE.size
 replace hO := own_same hO hE (fun g hg => by simpa using hne2 g hg)
 clear hE
 replace hF : FR w0 (Wk w0 B pb) [(pb, .cells #[.pointer (some ⟨pb, 0, none⟩), .slice (A2) (s.length + t.length) (c2)] 122)] w := hF
 refine o_nil (e_seq (c_seq (c_region (o_val (x_move rfl) (o_val (v := .int .i64 ((((t) : Str).length : Int))) (x_len_string Tryz.underlying9 rfl) (o_val (x_assign rfl) (o_val (x_assign rfl) (o_nil (e_seq ?_)))))))))
 refine c_ret (e_ret (post_ret (res_2 (v := .int .i64 ((((t) : Str).length : Int))) (x := .nilIface) rfl rfl rfl) ?_))
 exact ⟨rfl, ⟨.inl ⟨rfl, rfl⟩, hle, _, _, hF.heap (i := 0) rfl, by simpa [bytes_app, Lib.byteCells, runeS_cells] using hO, .inr rfl⟩, hF.same⟩
set_option maxHeartbeats 1000000 in
set_option maxRecDepth 10000 in
theorem writeRune_a (w0 : World) (B pb : Nat) (s : Str) (hB : Bd w0 B pb 122 [] s) (r : Int) (hr0 : -2147483648 ≤ r) (hr1 : r ≤ 2147483647) (hl : s.length + 4 ≤ 140737488355328) : WrC 196 #[.pointer (some ⟨pb, 0, none⟩), .int .i32 r] (.tuple #[.int .i64 (((runeS r).length : Nat) : Int), .nilIface]) w0 B pb 122 [] (s ++ runeS r) := by
 unfold WrC
 have hrl := runeS_length r
 refine calls_start Tryz.func196 rfl Tryz.ntmps196 (Nat.le_of_ble_eq_true rfl) (args_2 _ _) ?_
 obtain ⟨v, hO0, hv, hC⟩ := copyCheck_c hB
 have hle := hB.le
 have hBw := hB.base
 have hlt := hB.lt
 have hws := Nat.le_refl w0.heap.size
 have hvl : ∀ g, v.ownBlock = some g → g < w0.heap.size := fun g hg => (own_row hO0 hg).1
 obtain ⟨A1, c1, rfl⟩ := own_slice hO0
 have hF := FR.start w0 (Wk w0 B pb)
 refine c_seq (c_region (o_val (x_assign rfl) (o_val (x_assign rfl) (o_nil (e_seq (c_seq (c_region (o_val (x_move rfl) ?_))))))))
 refine o_call hC (x_call1 en_155 rfl rfl) ?_
 rintro _ w ⟨rfl, hE, hh, hO⟩
 replace hws := Nat.le_trans hws hE.size
 replace hBw := Nat.le_trans hBw hE.size
 replace hF : FR w0 (Wk w0 B pb) [(pb, .cells #[.pointer (some ⟨pb, 0, none⟩), .slice (A1) (s.length) (c1)] 122)] w := (hF.touch hE (fun b hb => by obtain rfl := List.mem_singleton.1 hb; exact ⟨fun _ => mem_Wk.2 (.inl rfl), by simp⟩)).addD hh (.inr (mem_Wk.2 (.inl rfl))) (by simp)
 clear hE hh
 refine o_nil (e_seq (c_seq (c_region (o_val (x_move rfl) (o_val (v := .pointer (some ⟨pb, 0, none⟩)) (x_nilCheck rfl) (o_val (v := .pointer (some ⟨pb, 1, none⟩)) (x_fieldAddrO fa_122_1 rfl) (o_val (v := .slice (A1) (s.length) (c1)) (x_load Tryz.isAgg120 rfl (hF.cell 0 rfl rfl)) (o_val (v := .int .i64 ((s.length : Nat))) (x_len_slice Tryz.underlying120 rfl) (o_val (x_assign rfl) (o_nil (e_seq (c_seq (c_region ?_)))))))))))))
 refine o_val (x_move rfl) (o_val (x_move rfl) (o_val (v := .pointer (some ⟨pb, 0, none⟩)) (x_nilCheck rfl) (o_val (v := .pointer (some ⟨pb, 1, none⟩)) (x_fieldAddrO fa_122_1 rfl) (o_val (v := .slice (A1) (s.length) (c1)) (x_load Tryz.isAgg120 rfl (hF.cell 0 rfl rfl)) (o_val (x_move rfl) ?_)))))
 refine o_call (appendRune_c hO hr0 hr1 (by omega) hBw) (x_call2 en_220 rfl rfl rfl) ?_
 rintro v2 w2 ⟨hO2, o, hg⟩
 replace hF := (hF.ext (Same.alloc _ o)).grown hg (fun b hb => ⟨fun _ => (hv b hb).1, by have h1 := (hv b hb).2; have h2 := hvl b hb; intro p hp; simp only [List.mem_cons, List.not_mem_nil, or_false] at hp; rcases hp with rfl <;> grind⟩)
 have hsz := Nat.le_trans (Same.alloc _ o).size hg.size
 clear hO hg; revert hsz hF hO2; generalize w2 = w; intro hO hF hsz
 replace hws := Nat.le_trans hws hsz
 replace hBw := Nat.le_trans hBw hsz
 have hne2 : ∀ g, v2.ownBlock = some g → g ≠ pb := fun g hg => own_ne hO hg (hF.heap (i := 0) rfl) rfl
 obtain ⟨A2, c2, rfl⟩ := own_slice hO
 clear hsz
 refine o_val (v := .pointer (some ⟨pb, 0, none⟩)) (x_nilCheck rfl) (o_val (v := .pointer (some ⟨pb, 1, none⟩)) (x_fieldAddrO fa_122_1 rfl) ?_)
 refine o_store 0 (l := [.slice (A2) (s.length + (runeS r).length) (c2)]) (cs' := #[.pointer (some ⟨pb, 0, none⟩), .slice (A2) (s.length + (runeS r).length) (c2)]) hF Tryz.sizeOf120 rfl (v := .slice (A2) (s.length + (runeS r).length) (c2)) rfl rfl (by simp [one]) rfl (Nat.le_of_ble_eq_true rfl) rfl ?_
 clear hF; intro w hF hE
 replace hws := Nat.le_trans hws hE.size
 replace hBw := Nat.le_trans hBw hE.size
 replace hO := own_same hO hE (fun g hg => by simpa using hne2 g hg)
 clear hE
 replace hF : FR w0 (Wk w0 B pb) [(pb, .cells #[.pointer (some ⟨pb, 0, none⟩), .slice (A2) (s.length + (runeS r).length) (c2)] 122)] w := hF
 refine o_nil (e_seq (c_seq (c_region (o_val (x_move rfl) (o_val (v := .pointer (some ⟨pb, 0, none⟩)) (x_nilCheck rfl) (o_val (v := .pointer (some ⟨pb, 1, none⟩)) (x_fieldAddrO fa_122_1 rfl) (o_val (v := .slice (A2) (s.length + (runeS r).length) (c2)) (x_load Tryz.isAgg120 rfl (hF.cell 0 rfl rfl)) (o_val (v := .int .i64 ((s.length + (runeS r).length : Nat))) (x_len_slice Tryz.underlying120 rfl) (o_val (x_move rfl) (o_val (v := .int .i64 (((runeS r).length : Nat))) (x_sub rfl rfl (wrap_to (by omega) (by omega) (by omega))) (o_val (x_assign rfl) (o_val (x_assign rfl) (o_nil ?_)))))))))))))
 refine e_seq ?_
 refine c_ret (e_ret (post_ret (res_2 (v := .int .i64 (((runeS r).length : Nat))) (x := .nilIface) rfl rfl rfl) ?_))
 exact ⟨rfl, ⟨.inl ⟨rfl, rfl⟩, hle, _, _, hF.heap (i := 0) rfl, by simpa [bytes_app, Lib.byteCells, runeS_cells] using hO, .inr rfl⟩, hF.same⟩
set_option maxHeartbeats 1000000 in
set_option maxRecDepth 10000 in
theorem writeByte_b (w0 : World) (B pb : Nat) (m : Bool) (i : Int) (s : Str) (hB : Bd w0 B pb 124 [.bool (m), .int .i64 (i)] s) (c : UInt8) (hl : s.length + 1 ≤ 140737488355328) : WrC 157 #[.pointer (some ⟨pb, 0, none⟩), .int .u8 ((c.toNat : Nat) : Int)] .nilIface w0 B pb 124 [.bool (m), .int .i64 (i)] (s ++ [c]) := by
 unfold WrC
 refine calls_start Tryz.func157 rfl Tryz.ntmps157 (Nat.le_of_ble_eq_true rfl) (args_2 _ _) ?_
 obtain ⟨v, hO0, hv, hC⟩ := copyCheck_c hB
 have hle := hB.le
 have hBw := hB.base
 have hlt := hB.lt
 have hws := Nat.le_refl w0.heap.size
 have hvl : ∀ g, v.ownBlock = some g → g < w0.heap.size := fun g hg => (own_row hO0 hg).1
 obtain ⟨A1, c1, rfl⟩ := own_slice hO0
 have hF := FR.start w0 (Wk w0 B pb)
 refine c_seq (c_region (o_val (x_assign rfl) (o_nil (e_seq (c_seq (c_region (o_val (x_move rfl) ?_)))))))
 refine o_call hC (x_call1 en_155 rfl rfl) ?_
 rintro _ w ⟨rfl, hE, hh, hO⟩
 replace hws := Nat.le_trans hws hE.size
 replace hBw := Nat.le_trans hBw hE.size
 replace hF : FR w0 (Wk w0 B pb) [(pb, .cells #[.pointer (some ⟨pb, 0, none⟩), .slice (A1) (s.length) (c1), .bool (m), .int .i64 (i)] 124)] w := (hF.touch hE (fun b hb => by obtain rfl := List.mem_singleton.1 hb; exact ⟨fun _ => mem_Wk.2 (.inl rfl), by simp⟩)).addD hh (.inr (mem_Wk.2 (.inl rfl))) (by simp)
 clear hE hh
 refine o_nil (e_seq (c_seq (c_region (o_val (x_move rfl) (o_val (x_move rfl) (o_val (v := .pointer (some ⟨pb, 0, none⟩)) (x_nilCheck rfl) (o_val (v := .pointer (some ⟨pb, 1, none⟩)) (x_fieldAddrO fa_122_1 rfl) (o_val (v := .slice (A1) (s.length) (c1)) (x_load Tryz.isAgg120 rfl (hF.cell 0 rfl rfl)) (o_val (x_move rfl) ?_)))))))))
 refine o_new (v := fun b => .slice (some ⟨b, 0, none⟩) 1 1) hF (x_buildSlice (cs := #[.int .u8 ((c.toNat : Nat))]) Tryz.underlying120 Tryz.sizeOf5 Tryz.zeroValue5 (by decide) (by decide) (by kernel_rfl)) ?_
 clear hF; intro b1 w hb1 hF hE
 have nb1 : w0.heap.size ≤ b1 := by rw [hb1]; exact hws
 replace hws := Nat.le_trans hws hE.size
 replace hBw := Nat.le_trans hBw hE.size
 replace hO := own_same hO hE (by simp)
 clear hE
 refine o_appB (news := [.int .u8 ((c.toNat : Nat) : Int)]) el_120 hF hO hBw rfl rfl rfl (cells_opt (hF.cellsAll 0 rfl)) (by simp [Value.oneCell']) (by omega) (fun b hb => ⟨fun _ => (hv b hb).1, by have h1 := (hv b hb).2; have h2 := hvl b hb; intro p hp; simp only [List.mem_cons, List.not_mem_nil, or_false] at hp; rcases hp with rfl | rfl <;> grind⟩) ?_
 clear hF hO; intro v2 w hO hF hsz
 replace hws := Nat.le_trans hws hsz
 replace hBw := Nat.le_trans hBw hsz
 have hne2 : ∀ g, v2.ownBlock = some g → g ≠ pb := fun g hg => own_ne hO hg (hF.heap (i := 1) rfl) rfl
 obtain ⟨A2, c2, rfl⟩ := own_slice hO
 clear hsz
 refine o_val (v := .pointer (some ⟨pb, 0, none⟩)) (x_nilCheck rfl) (o_val (v := .pointer (some ⟨pb, 1, none⟩)) (x_fieldAddrO fa_122_1 rfl) ?_)
 refine o_store 1 (l := [.slice (A2) (s.length + 1) (c2)]) (cs' := #[.pointer (some ⟨pb, 0, none⟩), .slice (A2) (s.length + 1) (c2), .bool (m), .int .i64 (i)]) hF Tryz.sizeOf120 rfl (v := .slice (A2) (s.length + 1) (c2)) rfl rfl (by simp [one]) rfl (Nat.le_of_ble_eq_true rfl) rfl ?_
 clear hF; intro w hF hE
 replace hws := Nat.le_trans hws hE.size
 replace hBw := Nat.le_trans hBw hE.size
 replace hO := own_same hO hE (fun g hg => by simpa using hne2 g hg)
 clear hE
 replace hF : FR w0 (Wk w0 B pb) [(b1, .cells #[.int .u8 ((c.toNat : Nat))] 5), (pb, .cells #[.pointer (some ⟨pb, 0, none⟩), .slice (A2) (s.length + 1) (c2), .bool (m), .int .i64 (i)] 124)] w := hF
 refine o_nil (e_seq (c_seq (c_region (o_val (x_assign rfl) (o_nil (e_seq ?_))))))
 refine c_ret (e_ret (post_ret (res_1 (v := .nilIface) rfl rfl) ?_))
 exact ⟨rfl, ⟨.inr ⟨rfl, m, i, rfl⟩, hle, _, _, hF.heap (i := 1) rfl, by simpa [bytes_app, Lib.byteCells, runeS_cells] using hO, .inr rfl⟩, hF.same⟩
set_option maxHeartbeats 1000000 in
set_option maxRecDepth 10000 in
theorem writeString_b (w0 : World) (B pb : Nat) (m : Bool) (i : Int) (s : Str) (hB : Bd w0 B pb 124 [.bool (m), .int .i64 (i)] s) (t : Str) (hl : s.length + t.length ≤ 140737488355328) : WrC 114 #[.pointer (some ⟨pb, 0, none⟩), .string (bs t)] (.tuple #[.int .i64 ((t.length : Nat) : Int), .nilIface]) w0 B pb 124 [.bool (m), .int .i64 (i)] (s ++ t) := by
 unfold WrC
 refine calls_start Tryz.func114 rfl Tryz.ntmps114 (Nat.le_of_ble_eq_true rfl) (args_2 _ _) ?_
 obtain ⟨v, hO0, hv, hC⟩ := copyCheck_c hB
 have hle := hB.le
 have hBw := hB.base
 have hlt := hB.lt
 have hws := Nat.le_refl w0.heap.size
 have hvl : ∀ g, v.ownBlock = some g → g < w0.heap.size := fun g hg => (own_row hO0 hg).1
 obtain ⟨A1, c1, rfl⟩ := own_slice hO0
 have hF := FR.start w0 (Wk w0 B pb)
 refine c_seq (c_region (o_val (x_assign rfl) (o_val (x_assign rfl) (o_nil (e_seq (c_seq (c_region (o_val (x_move rfl) ?_))))))))
 refine o_call hC (x_call1 en_155 rfl rfl) ?_
 rintro _ w ⟨rfl, hE, hh, hO⟩
 replace hws := Nat.le_trans hws hE.size
 replace hBw := Nat.le_trans hBw hE.size
 replace hF : FR w0 (Wk w0 B pb) [(pb, .cells #[.pointer (some ⟨pb, 0, none⟩), .slice (A1) (s.length) (c1), .bool (m), .int .i64 (i)] 124)] w := (hF.touch hE (fun b hb => by obtain rfl := List.mem_singleton.1 hb; exact ⟨fun _ => mem_Wk.2 (.inl rfl), by simp⟩)).addD hh (.inr (mem_Wk.2 (.inl rfl))) (by simp)
 clear hE hh
 refine o_nil (e_seq (c_seq (c_region (o_val (x_move rfl) (o_val (x_move rfl) (o_val (v := .pointer (some ⟨pb, 0, none⟩)) (x_nilCheck rfl) (o_val (v := .pointer (some ⟨pb, 1, none⟩)) (x_fieldAddrO fa_122_1 rfl) (o_val (v := .slice (A1) (s.length) (c1)) (x_load Tryz.isAgg120 rfl (hF.cell 0 rfl rfl)) (o_val (x_move rfl) ?_)))))))))
 refine o_appS (str := t) el_120 zero_byte Tryz.underlying9 hF hO hBw rfl rfl (by omega) (fun b hb => ⟨fun _ => (hv b hb).1, by have h1 := (hv b hb).2; have h2 := hvl b hb; intro p hp; simp only [List.mem_cons, List.not_mem_nil, or_false] at hp; rcases hp with rfl <;> grind⟩) ?_
 clear hF hO; intro v2 w hO hF hsz
 replace hws := Nat.le_trans hws hsz
 replace hBw := Nat.le_trans hBw hsz
 have hne2 : ∀ g, v2.ownBlock = some g → g ≠ pb := fun g hg => own_ne hO hg (hF.heap (i := 0) rfl) rfl
 obtain ⟨A2, c2, rfl⟩ := own_slice hO
 clear hsz
 refine o_val (v := .pointer (some ⟨pb, 0, none⟩)) (x_nilCheck rfl) (o_val (v := .pointer (some ⟨pb, 1, none⟩)) (x_fieldAddrO fa_122_1 rfl) ?_)
 refine o_store 0 (l := [.slice (A2) (s.length + t.length) (c2)]) (cs' := #[.pointer (some ⟨pb, 0, none⟩), .slice (A2) (s.length + t.length) (c2), .bool (m), .int .i64 (i)]) hF Tryz.sizeOf120 rfl (v := .slice (A2) (s.length + t.length) (c2)) rfl rfl (by simp [one]) rfl (Nat.le_of_ble_eq_true rfl) rfl ?_
 clear hF; intro w hF hE
 replace hws := Nat.le_trans hws hE.size
 replace hBw := Nat.le_trans hBw hE.size
 replace hO := own_same hO hE (fun g hg => by simpa using hne2 g hg)
 clear hE
 replace hF : FR w0 (Wk w0 B pb) [(pb, .cells #[.pointer (some ⟨pb, 0, none⟩), .slice (A2) (s.length + t.length) (c2), .bool (m), .int .i64 (i)] 124)] w := hF
 refine o_nil (e_seq (c_seq (c_region (o_val (x_move rfl) (o_val (v := .int .i64 ((((t) : Str).length : Int))) (x_len_string Tryz.underlying9 rfl) (o_val (x_assign rfl) (o_val (x_assign rfl) (o_nil (e_seq ?_)))))))))
 refine c_ret (e_ret (post_ret (res_2 (v := .int .i64 ((((t) : Str).length : Int))) (x := .nilIface) rfl rfl rfl) ?_))
 exact ⟨rfl, ⟨.inr ⟨rfl, m, i, rfl⟩, hle, _, _, hF.heap (i := 0) rfl, by simpa [bytes_app, Lib.byteCells, runeS_cells] using hO, .inr rfl⟩, hF.same⟩
set_option maxHeartbeats 1000000 in
set_option maxRecDepth 10000 in
theorem writeRune_b (w0 : World) (B pb : Nat) (m : Bool) (i : Int) (s : Str) (hB : Bd w0 B pb 124 [.bool (m), .int .i64 (i)] s) (r : Int) (hr0 : -2147483648 ≤ r) (hr1 : r ≤ 2147483647) (hl : s.length + 4 ≤ 140737488355328) : WrC 196 #[.pointer (some ⟨pb, 0, none⟩), .int .i32 r] (.tuple #[.int .i64 (((runeS r).length : Nat) : Int), .nilIface]) w0 B pb 124 [.bool (m), .int .i64 (i)] (s ++ runeS r) := by
 unfold WrC
 have hrl := runeS_length r
 refine calls_start Tryz.func196 rfl Tryz.ntmps196 (Nat.le_of_ble_eq_true rfl) (args_2 _ _) ?_
 obtain ⟨v, hO0, hv, hC⟩ := copyCheck_c hB
 have hle := hB.le
 have hBw := hB.base
 have hlt := hB.lt
 have hws := Nat.le_refl w0.heap.size
 have hvl : ∀ g, v.ownBlock = some g → g < w0.heap.size := fun g hg => (own_row hO0 hg).1
 obtain ⟨A1, c1, rfl⟩ := own_slice hO0
 have hF := FR.start w0 (Wk w0 B pb)
 refine c_seq (c_region (o_val (x_assign rfl) (o_val (x_assign rfl) (o_nil (e_seq (c_seq (c_region (o_val (x_move rfl) ?_))))))))
 refine o_call hC (x_call1 en_155 rfl rfl) ?_
 rintro _ w ⟨rfl, hE, hh, hO⟩
 replace hws := Nat.le_trans hws hE.size
 replace hBw := Nat.le_trans hBw hE.size
 replace hF : FR w0 (Wk w0 B pb) [(pb, .cells #[.pointer (some ⟨pb, 0, none⟩), .slice (A1) (s.length) (c1), .bool (m), .int .i64 (i)] 124)] w := (hF.touch hE (fun b hb => by obtain rfl := List.mem_singleton.1 hb; exact ⟨fun _ => mem_Wk.2 (.inl rfl), by simp⟩)).addD hh (.inr (mem_Wk.2 (.inl rfl))) (by simp)
 clear hE hh
 refine o_nil (e_seq (c_seq (c_region (o_val (x_move rfl) (o_val (v := .pointer (some ⟨pb, 0, none⟩)) (x_nilCheck rfl) (o_val (v := .pointer (some ⟨pb, 1, none⟩)) (x_fieldAddrO fa_122_1 rfl) (o_val (v := .slice (A1) (s.length) (c1)) (x_load Tryz.isAgg120 rfl (hF.cell 0 rfl rfl)) (o_val (v := .int .i64 ((s.length : Nat))) (x_len_slice Tryz.underlying120 rfl) (o_val (x_assign rfl) (o_nil (e_seq (c_seq (c_region ?_)))))))))))))
 refine o_val (x_move rfl) (o_val (x_move rfl) (o_val (v := .pointer (some ⟨pb, 0, none⟩)) (x_nilCheck rfl) (o_val (v := .pointer (some ⟨pb, 1, none⟩)) (x_fieldAddrO fa_122_1 rfl) (o_val (v := .slice (A1) (s.length) (c1)) (x_load Tryz.isAgg120 rfl (hF.cell 0 rfl rfl)) (o_val (x_move rfl) ?_)))))
 refine o_call (appendRune_c hO hr0 hr1 (by omega) hBw) (x_call2 en_220 rfl rfl rfl) ?_
 rintro v2 w2 ⟨hO2, o, hg⟩
 replace hF := (hF.ext (Same.alloc _ o)).grown hg (fun b hb => ⟨fun _ => (hv b hb).1, by have h1 := (hv b hb).2; have h2 := hvl b hb; intro p hp; simp only [List.mem_cons, List.not_mem_nil, or_false] at hp; rcases hp with rfl <;> grind⟩)
 have hsz := Nat.le_trans (Same.alloc _ o).size hg.size
 clear hO hg; revert hsz hF hO2; generalize w2 = w; intro hO hF hsz
 replace hws := Nat.le_trans hws hsz
 replace hBw := Nat.le_trans hBw hsz
 have hne2 : ∀ g, v2.ownBlock = some g → g ≠ pb := fun g hg => own_ne hO hg (hF.heap (i := 0) rfl) rfl
 obtain ⟨A2, c2, rfl⟩ := own_slice hO
 clear hsz
 refine o_val (v := .pointer (some ⟨pb, 0, none⟩)) (x_nilCheck rfl) (o_val (v := .pointer (some ⟨pb, 1, none⟩)) (x_fieldAddrO fa_122_1 rfl) ?_)
 refine o_store 0 (l := [.slice (A2) (s.length + (runeS r).length) (c2)]) (cs' := #[.pointer (some ⟨pb, 0, none⟩), .slice (A2) (s.length + (runeS r).length) (c2), .bool (m), .int .i64 (i)]) hF Tryz.sizeOf120 rfl (v := .slice (A2) (s.length + (runeS r).length) (c2)) rfl rfl (by simp [one]) rfl (Nat.le_of_ble_eq_true rfl) rfl ?_
 clear hF; intro w hF hE
 replace hws := Nat.le_trans hws hE.size
 replace hBw := Nat.le_trans hBw hE.size
 replace hO := own_same hO hE (fun g hg => by simpa using hne2 g hg)
 clear hE
 replace hF : FR w0 (Wk w0 B pb) [(pb, .cells #[.pointer (some ⟨pb, 0, none⟩), .slice (A2) (s.length + (runeS r).length) (c2), .bool (m), .int .i64 (i)] 124)] w := hF
 refine o_nil (e_seq (c_seq (c_region (o_val (x_move rfl) (o_val (v := .pointer (some ⟨pb, 0, none⟩)) (x_nilCheck rfl) (o_val (v := .pointer (some ⟨pb, 1, none⟩)) (x_fieldAddrO fa_122_1 rfl) (o_val (v := .slice (A2) (s.length + (runeS r).length) (c2)) (x_load Tryz.isAgg120 rfl (hF.cell 0 rfl rfl)) (o_val (v := .int .i64 ((s.length + (runeS r).length : Nat))) (x_len_slice Tryz.underlying120 rfl) (o_val (x_move rfl) (o_val (v := .int .i64 (((runeS r).length : Nat))) (x_sub rfl rfl (wrap_to (by omega) (by omega) (by omega))) (o_val (x_assign rfl) (o_val (x_assign rfl) (o_nil ?_)))))))))))))
 refine e_seq ?_
 refine c_ret (e_ret (post_ret (res_2 (v := .int .i64 (((runeS r).length : Nat))) (x := .nilIface) rfl rfl rfl) ?_))
 exact ⟨rfl, ⟨.inr ⟨rfl, m, i, rfl⟩, hle, _, _, hF.heap (i := 0) rfl, by simpa [bytes_app, Lib.byteCells, runeS_cells] using hO, .inr rfl⟩, hF.same⟩
end Go.Scarf
namespace Go.Scarf
open Go.RowKit Go.Proofs
theorem cells_byte : Tryz.prog.cellsOf 5 = 1 := by kernel_rfl
theorem Same.freeze (w : World) (a : Addr) (n : Nat) : Same [a.block] w (w.freeze a n) := by
  have h := Lib.below_freeze (B := a.block) (Below.refl a.block w) (p := a) (Nat.le_refl _) n
  refine ⟨h.os, h.tape, h.output, h.size, fun b hb hn => ?_⟩
  have hn' : b ≠ a.block := by simpa using hn
  unfold World.freeze
  split
  · rfl
  · simp [Array.getElem?_modify, hn'.symm]
set_option maxHeartbeats 1000000 in
set_option maxRecDepth 10000 in
theorem string_a (w0 : World) (B pb : Nat) (s : Str) (hB : Bd w0 B pb 122 [] s) (h0 : s ≠ []) : Calls Tryz.prog 90 #[.pointer (some ⟨pb, 0, none⟩)] w0 (Ret fun v w' => v = .string (bs s) ∧ Same (Wk w0 B pb) w0 w') := by
  refine calls_start Tryz.func90 rfl Tryz.ntmps90 (Nat.le_of_ble_eq_true rfl) (args_1 _) ?_
  obtain ⟨-, hle, ap, v, hh, hO, -⟩ := hB
  have hsl : s.length ≠ 0 := by simpa using h0
  obtain ⟨g, c1, cur, rfl, hbg, hg, hnc, hcm, hcs, htake⟩ : ∃ g cap cur, v = .slice (some ⟨g, 0, none⟩) s.length cap ∧ B ≤ g ∧ w0.heap[g]? = some (.cells cur 5 (0, 0)) ∧ s.length ≤ cap ∧ cap ≤ maxLen ∧ cur.size = cap * 1 ∧ cur.toList.take (s.length * 1) = Lib.byteCells s := by
    rcases hO.2 with ⟨_, hz⟩ | ⟨g, cap, cur, hv, r⟩
    · exact absurd hz hsl
    · exact ⟨g, cap, cur, hv, r⟩
  have hgm : g ∈ Wk w0 B pb := own_mem hO rfl
  have hgn : g ≠ pb := own_ne hO rfl hh (by rfl)
  have hF : FR w0 (Wk w0 B pb) [(pb, .cells #[ap, .slice (some ⟨g, 0, none⟩) (s.length) (c1)] 122)] w0 := (FR.start w0 (Wk w0 B pb)).addD hh (.inr (mem_Wk.2 (.inl rfl))) (by simp)
  refine c_seq ?_
  refine c_region ?_
  refine o_val (x_assign rfl) ?_
  refine o_nil ?_
  refine e_seq ?_
  refine c_seq ?_
  refine c_drawF [] (.free 0 (.free 1 (.free 2 (.free 3 (.free 5 (.free 6 (.free 7 (.free 8 (.free 9 (.act 4 (.act 10 (.free 11 .nil)))))))))))) (by kernel_rfl) hF (by kernel_rfl) (by kernel_rfl) ?_
  clear hF; intro w hF hE
  replace hg := (hE.block g (lt_of_some hg) (by simp)).trans hg
  replace hO := own_same hO hE (by simp)
  clear hE
  refine ⟨fun wq => FR w0 (Wk w0 B pb) [(pb, .cells #[ap, .slice (some ⟨g, 0, none⟩) (s.length) (c1)] 122)] wq, hF, ?_⟩
  refine f_free rfl (v := .pointer (some ⟨pb, 0, none⟩)) (fun w hC => x_move rfl) ?_
  refine f_free rfl (v := .pointer (some ⟨pb, 0, none⟩)) (fun w hC => x_nilCheck rfl) ?_
  refine f_free rfl (v := .pointer (some ⟨pb, 1, none⟩)) (fun w hC => x_fieldAddrO fa_122_1 rfl) ?_
  refine f_free rfl (v := .slice (some ⟨g, 0, none⟩) (s.length) (c1)) (fun w hC => x_load Tryz.isAgg120 rfl (hC.cell 0 rfl rfl)) ?_
  refine f_free rfl (v := .pointer (some ⟨pb, 0, none⟩)) (fun w hC => x_move rfl) ?_
  refine f_free rfl (v := .pointer (some ⟨pb, 0, none⟩)) (fun w hC => x_nilCheck rfl) ?_
  refine f_free rfl (v := .pointer (some ⟨pb, 1, none⟩)) (fun w hC => x_fieldAddrO fa_122_1 rfl) ?_
  refine f_free rfl (v := .slice (some ⟨g, 0, none⟩) (s.length) (c1)) (fun w hC => x_load Tryz.isAgg120 rfl (hC.cell 0 rfl rfl)) ?_
  refine f_free rfl (v := .int .i64 ((s.length : Nat))) (fun w hC => x_len_slice Tryz.underlying120 rfl) ?_
  refine f_act rfl (x_usd rfl (by omega)) hF ?_
  have hu : (Builtin.unsafeString_ #[158, 3] 9 #[.pointer (some ⟨g, 0, none⟩), .int .i64 s.length]).run Tryz.prog w = .ok (.string (bs s)) (w.freeze ⟨g, 0, none⟩ s.length) := Lib.run_unsafeString_row w 158 3 9 5 Tryz.underlying158 cells_byte g cur.size (by simp [World.shape?, hg]) s h0 (by omega) (by simp only [maxLen] at hcm; omega) (fun j x hx => hO.cells (g := g) rfl j (.int .u8 x.toNat) (by simp [Lib.byteCells, hx]))
  have hEf : FR w0 (Wk w0 B pb) _ (w.freeze ⟨g, 0, none⟩ s.length) := hF.touch (Same.freeze w ⟨g, 0, none⟩ s.length) (fun b hb => by obtain rfl := List.mem_singleton.1 hb; exact ⟨fun _ => hgm, by simpa using hgn.symm⟩)
  refine f_act rfl (x_uss rfl rfl hu) hEf ?_
  replace hF := hEf
  refine f_free rfl (v := .string (bs (s))) (fun w hC => x_assign rfl) ?_
  refine d_nil ?_
  refine e_seq ?_
  refine c_ret (e_ret (post_ret (res_1 (v := .string (bs (s))) rfl rfl) ?_))
  exact ⟨rfl, hF.same⟩
set_option maxHeartbeats 1000000 in
set_option maxRecDepth 10000 in
theorem string_b (w0 : World) (B pb : Nat) (m : Bool) (i : Int) (s : Str) (hB : Bd w0 B pb 124 [.bool (m), .int .i64 (i)] s) (h0 : s ≠ []) : Calls Tryz.prog 90 #[.pointer (some ⟨pb, 0, none⟩)] w0 (Ret fun v w' => v = .string (bs s) ∧ Same (Wk w0 B pb) w0 w') := by
  refine calls_start Tryz.func90 rfl Tryz.ntmps90 (Nat.le_of_ble_eq_true rfl) (args_1 _) ?_
  obtain ⟨-, hle, ap, v, hh, hO, -⟩ := hB
  have hsl : s.length ≠ 0 := by simpa using h0
  obtain ⟨g, c1, cur, rfl, hbg, hg, hnc, hcm, hcs, htake⟩ : ∃ g cap cur, v = .slice (some ⟨g, 0, none⟩) s.length cap ∧ B ≤ g ∧ w0.heap[g]? = some (.cells cur 5 (0, 0)) ∧ s.length ≤ cap ∧ cap ≤ maxLen ∧ cur.size = cap * 1 ∧ cur.toList.take (s.length * 1) = Lib.byteCells s := by
    rcases hO.2 with ⟨_, hz⟩ | ⟨g, cap, cur, hv, r⟩
    · exact absurd hz hsl
    · exact ⟨g, cap, cur, hv, r⟩
  have hgm : g ∈ Wk w0 B pb := own_mem hO rfl
  have hgn : g ≠ pb := own_ne hO rfl hh (by rfl)
  have hF : FR w0 (Wk w0 B pb) [(pb, .cells #[ap, .slice (some ⟨g, 0, none⟩) (s.length) (c1), .bool (m), .int .i64 (i)] 124)] w0 := (FR.start w0 (Wk w0 B pb)).addD hh (.inr (mem_Wk.2 (.inl rfl))) (by simp)
  refine c_seq ?_
  refine c_region ?_
  refine o_val (x_assign rfl) ?_
  refine o_nil ?_
  refine e_seq ?_
  refine c_seq ?_
  refine c_drawF [] (.free 0 (.free 1 (.free 2 (.free 3 (.free 5 (.free 6 (.free 7 (.free 8 (.free 9 (.act 4 (.act 10 (.free 11 .nil)))))))))))) (by kernel_rfl) hF (by kernel_rfl) (by kernel_rfl) ?_
  clear hF; intro w hF hE
  replace hg := (hE.block g (lt_of_some hg) (by simp)).trans hg
  replace hO := own_same hO hE (by simp)
  clear hE
  refine ⟨fun wq => FR w0 (Wk w0 B pb) [(pb, .cells #[ap, .slice (some ⟨g, 0, none⟩) (s.length) (c1), .bool (m), .int .i64 (i)] 124)] wq, hF, ?_⟩
  refine f_free rfl (v := .pointer (some ⟨pb, 0, none⟩)) (fun w hC => x_move rfl) ?_
  refine f_free rfl (v := .pointer (some ⟨pb, 0, none⟩)) (fun w hC => x_nilCheck rfl) ?_
  refine f_free rfl (v := .pointer (some ⟨pb, 1, none⟩)) (fun w hC => x_fieldAddrO fa_122_1 rfl) ?_
  refine f_free rfl (v := .slice (some ⟨g, 0, none⟩) (s.length) (c1)) (fun w hC => x_load Tryz.isAgg120 rfl (hC.cell 0 rfl rfl)) ?_
  refine f_free rfl (v := .pointer (some ⟨pb, 0, none⟩)) (fun w hC => x_move rfl) ?_
  refine f_free rfl (v := .pointer (some ⟨pb, 0, none⟩)) (fun w hC => x_nilCheck rfl) ?_
  refine f_free rfl (v := .pointer (some ⟨pb, 1, none⟩)) (fun w hC => x_fieldAddrO fa_122_1 rfl) ?_
  refine f_free rfl (v := .slice (some ⟨g, 0, none⟩) (s.length) (c1)) (fun w hC => x_load Tryz.isAgg120 rfl (hC.cell 0 rfl rfl)) ?_
  refine f_free rfl (v := .int .i64 ((s.length : Nat))) (fun w hC => x_len_slice Tryz.underlying120 rfl) ?_
  refine f_act rfl (x_usd rfl (by omega)) hF ?_
  have hu : (Builtin.unsafeString_ #[158, 3] 9 #[.pointer (some ⟨g, 0, none⟩), .int .i64 s.length]).run Tryz.prog w = .ok (.string (bs s)) (w.freeze ⟨g, 0, none⟩ s.length) := Lib.run_unsafeString_row w 158 3 9 5 Tryz.underlying158 cells_byte g cur.size (by simp [World.shape?, hg]) s h0 (by omega) (by simp only [maxLen] at hcm; omega) (fun j x hx => hO.cells (g := g) rfl j (.int .u8 x.toNat) (by simp [Lib.byteCells, hx]))
  have hEf : FR w0 (Wk w0 B pb) _ (w.freeze ⟨g, 0, none⟩ s.length) := hF.touch (Same.freeze w ⟨g, 0, none⟩ s.length) (fun b hb => by obtain rfl := List.mem_singleton.1 hb; exact ⟨fun _ => hgm, by simpa using hgn.symm⟩)
  refine f_act rfl (x_uss rfl rfl hu) hEf ?_
  replace hF := hEf
  refine f_free rfl (v := .string (bs (s))) (fun w hC => x_assign rfl) ?_
  refine d_nil ?_
  refine e_seq ?_
  refine c_ret (e_ret (post_ret (res_1 (v := .string (bs (s))) rfl rfl) ?_))
  exact ⟨rfl, hF.same⟩
theorem writeByte_c {w0 : World} {B pb T : Nat} {rest : List Value} {s : Str} (hB : Bd w0 B pb T rest s) (c : UInt8) (hl : s.length + 1 ≤ 140737488355328) : WrC 157 #[.pointer (some ⟨pb, 0, none⟩), .int .u8 ((c.toNat : Nat) : Int)] .nilIface w0 B pb T rest (s ++ [c]) := by
  rcases hB.shp with ⟨rfl, rfl⟩ | ⟨rfl, m, i, rfl⟩
  · exact writeByte_a w0 B pb s hB c hl
  · exact writeByte_b w0 B pb m i s hB c hl
theorem writeString_c {w0 : World} {B pb T : Nat} {rest : List Value} {s : Str} (hB : Bd w0 B pb T rest s) (t : Str) (hl : s.length + t.length ≤ 140737488355328) : WrC 114 #[.pointer (some ⟨pb, 0, none⟩), .string (bs t)] (.tuple #[.int .i64 ((t.length : Nat) : Int), .nilIface]) w0 B pb T rest (s ++ t) := by
  rcases hB.shp with ⟨rfl, rfl⟩ | ⟨rfl, m, i, rfl⟩
  · exact writeString_a w0 B pb s hB t hl
  · exact writeString_b w0 B pb m i s hB t hl
theorem writeRune_c {w0 : World} {B pb T : Nat} {rest : List Value} {s : Str} (hB : Bd w0 B pb T rest s) (r : Int) (h0 : -2147483648 ≤ r) (h1 : r ≤ 2147483647) (hl : s.length + 4 ≤ 140737488355328) : WrC 196 #[.pointer (some ⟨pb, 0, none⟩), .int .i32 r] (.tuple #[.int .i64 (((runeS r).length : Nat) : Int), .nilIface]) w0 B pb T rest (s ++ runeS r) := by
  rcases hB.shp with ⟨rfl, rfl⟩ | ⟨rfl, m, i, rfl⟩
  · exact writeRune_a w0 B pb s hB r h0 h1 hl
  · exact writeRune_b w0 B pb m i s hB r h0 h1 hl
theorem string_c {w0 : World} {B pb T : Nat} {rest : List Value} {s : Str} (hB : Bd w0 B pb T rest s) (h0 : s ≠ []) : Calls Tryz.prog 90 #[.pointer (some ⟨pb, 0, none⟩)] w0 (Ret fun v w' => v = .string (bs s) ∧ Same (Wk w0 B pb) w0 w') := by
  rcases hB.shp with ⟨rfl, rfl⟩ | ⟨rfl, m, i, rfl⟩
  · exact string_a w0 B pb s hB h0
  · exact string_b w0 B pb m i s hB h0
structure BW (w0 : World) (Ds : List Nat) (w : World) (B pb T : Nat) (rest : List Value) (s : Str) : Prop where
  bd : Bd w B pb T rest s
  sub : ∀ x ∈ Wk w B pb, x < w0.heap.size → x ∈ Ds
  ge : w0.heap.size ≤ w.heap.size
section
variable {w0 w w' : World} {Ds E : List Nat} {bs_ : List (Nat × Obj)} {B pb T : Nat} {rest : List Value} {s t : Str}
theorem BW.start (h : Bd w0 B pb T rest s) : BW w0 (Wk w0 B pb) w0 B pb T rest s := ⟨h, fun x hx _ => hx, Nat.le_refl _⟩
theorem BW.own (h : Bd w B pb T rest s) (hb : w0.heap.size ≤ B) (hg : w0.heap.size ≤ w.heap.size) : BW w0 Ds w B pb T rest s :=
  ⟨h, fun x hx hl => by
    have := h.le
    rcases mem_Wk.1 hx with rfl | ⟨-, h2, -⟩ <;> omega, hg⟩
theorem BW.lt (h : BW w0 Ds w B pb T rest s) : pb < w.heap.size := h.bd.lt
theorem BW.wrote (h : BW w0 Ds w B pb T rest s) (hb : Bd w' B pb T rest t) (hs : Same (Wk w B pb) w w') : BW w0 Ds w' B pb T rest t :=
  ⟨hb, fun x hx hl => by
    rcases Wk.step hs hx with h1 | h1
    · exact h.sub x h1 hl
    · have := h.ge; omega, Nat.le_trans h.ge hs.size⟩
theorem FR.wrote (hF : FR w0 Ds bs_ w) (h : BW w0 Ds w B pb T rest s) (hs : Same (Wk w B pb) w w') (hb : ∀ p ∈ bs_, rowO p.2 = false ∧ p.1 ≠ pb) : FR w0 Ds bs_ w' :=
  hF.touch hs fun x hx => ⟨h.sub x hx, fun p hp e => by
    have h1 := hb p hp
    rcases mem_Wk.1 hx with h2 | ⟨-, -, h3⟩
    · exact h1.2 (e.trans h2)
    · rw [← e, rowAt_of (hF.memHeap hp), h1.1] at h3; cases h3⟩
theorem Bd.same (h : Bd w B pb T rest s) (hs : Same E w w') (hp : pb ∉ E) (he : ∀ x ∈ E, rowAt w x = false) : Bd w' B pb T rest s := by
  obtain ⟨h1, h2, ap, v, h3, h4, h5⟩ := h
  refine ⟨h1, h2, ap, v, (hs.block pb (lt_of_some h3) hp).trans h3, own_same h4 hs (fun g hg hm => ?_), h5⟩
  have := (own_row h4 hg).2.2
  rw [he g hm] at this; cases this
theorem Bd.ext (h : Bd w B pb T rest s) (hs : Same [] w w') : Bd w' B pb T rest s := h.same hs (by simp) (by simp)
theorem BW.step (h : BW w0 Ds w B pb T rest s) (hs : Same E w w') (hp : pb ∉ E) (he : ∀ x ∈ E, rowAt w x = false) (he' : ∀ x ∈ E, rowAt w' x = false) : BW w0 Ds w' B pb T rest s :=
  ⟨h.bd.same hs hp he, fun x hx hl => by
    refine h.sub x (mem_Wk.2 ?_) hl
    have hl2 := Nat.lt_of_lt_of_le hl h.ge
    rcases mem_Wk.1 hx with rfl | ⟨-, h2, h3⟩
    · exact .inl rfl
    · refine .inr ⟨hl2, h2, ?_⟩
      have hn : x ∉ E := fun hm => by rw [he' x hm] at h3; cases h3
      rw [rowAt, ← hs.block x hl2 hn]; exact h3, Nat.le_trans h.ge hs.size⟩
theorem BW.ext (h : BW w0 Ds w B pb T rest s) (hs : Same [] w w') : BW w0 Ds w' B pb T rest s := h.step hs (by simp) (by simp) (by simp)
theorem Rep.off {d : D} {cs : List Value} (h : Rep (fun x => x ∉ Wk w B pb) w d cs) (hs : Same (Wk w B pb) w w') : Rep (fun x => x ∉ Wk w' B pb) w' d cs :=
  ((h.old).same hs (fun b hb hn => hn.1 hb)).weaken fun x hx _ hm => by
    rcases Wk.step hs hm with h1 | h1
    · exact hx.1 h1
    · have := hx.2; omega
theorem Rep.off_ext {d : D} {cs : List Value} (h : Rep (fun x => x ∉ Wk w B pb) w d cs) (hp : pb < w.heap.size) (hs : Same [] w w') : Rep (fun x => x ∉ Wk w' B pb) w' d cs := h.off (hs.mono (by simp))
end
end Go.Scarf
namespace Go.Scarf
open Go.RowKit Go.Proofs
section
variable {P : Program} {w : World} {ρ : Operand → Value} {dst : Option Nat} {ty : TypeId} {pos : String} {aft : Array Edge} {g : Option (Nat × Bool)}
theorem x_and {t t' : TypeId} {x y : Operand} {k : IntKind} {a b c : Int} (hx : ρ x = .int k a) (hy : ρ y = .int k b) (h : bits .and k a b = c) :
    (execOp ρ ⟨dst, .binOp .and t x y t', ty, pos, aft, g⟩).run P w = .ok (.value (.int k c)) w := by
  simp [execOp, hx, hy, run_eqGuard_int, binOp, intBits_and, h]
theorem x_shr {t t' : TypeId} {x y : Operand} {k k2 : IntKind} {a c : Int} (m : Nat) (hx : ρ x = .int k a) (hy : ρ y = .int k2 m) (hm : m ≤ k.bits) (h : a.fdiv (2 ^ m) = c) :
    (execOp ρ ⟨dst, .binOp .shr t x y t', ty, pos, aft, g⟩).run P w = .ok (.value (.int k c)) w := by
  have hg : (eqGuard .shr t x y (.int k a) (.int k2 m)).run P w = .ok () w := by unfold eqGuard; simp
  have h0 : ¬ ((m : Int) < 0) := by omega
  simp [execOp, hx, hy, hg, binOp, Op.shift, h0, Nat.min_eq_left hm, h]
theorem x_indexArr {t e N : Nat} {x y : Operand} {kk : IntKind} {b : Nat} (i : Nat) (ht : P.underlying t = some (.array N e)) (hs : ∀ w, (sizeOf e).run P w = .ok 1 w) (hx : ρ x = .pointer (some ⟨b, 0, none⟩)) (hy : ρ y = .int kk (i : Int)) (h1 : i < N) :
    (execOp ρ ⟨dst, .indexAddr t x y, ty, pos, aft, g⟩).run P w = .ok (.value (.pointer (some ⟨b, i, none⟩))) w := by
  have h2 : (0 : Int) ≤ (i : Int) ∧ (i : Int) < (N : Int) := by omega
  have e1 : (⟨b, 0, none⟩ : Addr).add i = ⟨b, i, none⟩ := by rw [addr_add, Nat.zero_add]
  simp [execOp, hx, hy, Instr.indexAt, run_underlying ht, Instr.sureAddr, asIntOf, h2, hs, e1]
  intro hh; omega
theorem x_sliceArr {t e N : Nat} {x y : Operand} {kk : IntKind} {b : Nat} (i : Nat) (ht : P.underlying t = some (.array N e)) (hs : ∀ w, (sizeOf e).run P w = .ok 1 w) (hx : ρ x = .pointer (some ⟨b, 0, none⟩)) (hy : ρ y = .int kk (i : Int)) (h1 : i < N) :
    (execOp ρ ⟨dst, .slice t x (some y) none none, ty, pos, aft, g⟩).run P w = .ok (.value (.slice (some ⟨b, i, none⟩) (N - i) (N - i))) w := by
  have h0 : ¬ N = i := by omega
  have e1 : (⟨b, 0, none⟩ : Addr).add i = ⟨b, i, none⟩ := by rw [addr_add, Nat.zero_add]
  have e2 : (0 : Int) ≤ (i : Int) ∧ (i : Int) ≤ (N : Int) := by omega
  simp [execOp, hx, hy, Instr.sliceAt, run_underlying ht, Instr.sureAddr, Instr.sliceBounds, run_sliceBound, hs, e1, h0, e2]
theorem x_convBs {t t' e : Nat} {x : Operand} {a : Addr} {n c : Nat} (s : Str) (ht : P.underlying t = some (.slice e)) (he : P.underlying e = some (.int .u8)) (hd : P.underlying t' = some .string) (hx : ρ x = .slice (some a) n c) (hn : s.length = n)
    (h : ∀ j (hj : j < s.length), w.cell? (a.add j) = some (.int .u8 (s[j].toNat : Int))) :
    (execOp ρ ⟨dst, .convert t t' x, ty, pos, aft, g⟩).run P w = .ok (.value (.string (bs s))) w := by
  have hl := run_loadCells (P := P) a w ((s.map fun u => (u.toNat : Int)).map (Value.int .u8)) (m := n) (by simp [hn]) (fun j hj => by simp at hj ⊢; exact h j hj)
  have hb := run_bytesToString w a n c (s.map fun u => (u.toNat : Int)) hl
  have e1 : ∀ (l : Str) (acc : ByteArray), (l.map fun u => (u.toNat : Int)).foldl (fun r n => r.push (UInt8.ofNat n.toNat)) acc = ⟨acc.data ++ l.toArray⟩ := by
    intro l
    induction l with
    | nil => intro acc; simp
    | cons u l ih => intro acc; rw [List.map_cons, List.foldl_cons, ih]; simp [ByteArray.push]
  rw [e1] at hb
  simp [execOp, hx, run_convert_bytes_string w t t' e _ _ _ ht he hd, hb]
end
def zs65 : List Value := List.replicate 65 (.int .u8 0)
def hexDigs : Str := [48, 49, 50, 51, 52, 53, 54, 55, 56, 57, 97, 98, 99, 100, 101, 102, 103, 104, 105, 106, 107, 108, 109, 110, 111, 112, 113, 114, 115, 116, 117, 118, 119, 120, 121, 122]
def dg (k : Nat) : UInt8 := hexDigs.getD k 0
def hexS (r : Nat) : Str := if r < 16 then [dg r] else [dg (r / 16), dg (r % 16)]
theorem hexDigs_get {k : Nat} (h : k < hexDigs.length) : hexDigs[k] = dg k := by simp [dg, h]
theorem wrap64 : ∀ r < 32, IntKind.u64.wrap ((r : Nat) : Int) = r := by decide
theorem and15 : ∀ u < 32, bits .and .u64 ((u : Nat) : Int) 15 = ((u % 16 : Nat) : Int) := by decide
set_option maxHeartbeats 1000000 in
set_option maxRecDepth 10000 in
theorem tz64_c (w0 : World) (hG : Gl w0) : Calls Tryz.prog 210 #[.int .u64 16] w0 (Ret fun v w' => v = .int .i64 4 ∧ Same [] w0 w') := by
 obtain ⟨e, fz, hbr⟩ := hG.bru
 refine calls_start Tryz.func210 rfl Tryz.ntmps210 (Nat.le_of_ble_eq_true rfl) (args_1 _) ?_
 have hF := FR.start w0 []
 refine c_seq (c_region (o_val (x_assign rfl) (o_nil (e_seq (c_seq (c_seq (c_region (o_val (x_move rfl) (o_val (v := .bool false) (run_false (x_eql rfl rfl) (by decide)) (o_nil (e_seq (c_iff rfl (c_skip ?_)))))))))))))
 refine e_seq (c_seq (c_region (o_val (x_move rfl) (o_val (x_move rfl) (o_val (v := .int .u64 (18446744073709551600)) (x_neg rfl (by decide)) (o_val (v := .int .u64 (16)) (x_and rfl rfl (by decide)) (o_val (v := .int .u64 (4573923408821661840)) (x_mul rfl rfl (by decide)) (o_val (v := .int .u64 (15)) (x_shr 58 rfl rfl (by decide) (by decide)) (o_val (v := .pointer (some (⟨6, 15, none⟩))) (x_indexArr 15 Tryz.underlying243 Tryz.sizeOf5 rfl rfl (by decide)) ?_)))))))))
 refine o_val (v := .int .u8 (4)) (x_load Tryz.isAgg5 rfl (by rw [cell_of_heap (hF.heap0 hbr)]; rfl)) ?_
 refine o_val (v := .int .i64 (4)) (x_conv_int Tryz.underlying5 Tryz.underlying3 rfl (by decide)) (o_val (x_assign rfl) (o_nil (e_seq ?_)))
 refine c_ret (e_ret (post_ret (res_1 (v := .int .i64 (4)) rfl rfl) ?_))
 exact ⟨rfl, hF.same⟩
set_option maxHeartbeats 1000000 in
set_option maxRecDepth 10000 in
theorem tz_c (w0 : World) (hG : Gl w0) : Calls Tryz.prog 181 #[.int .u64 16] w0 (Ret fun v w' => v = .int .i64 4 ∧ Same [] w0 w') := by
 refine calls_start Tryz.func181 rfl Tryz.ntmps181 (Nat.le_of_ble_eq_true rfl) (args_1 _) ?_
 have hF := FR.start w0 []
 refine c_seq (c_region (o_val (x_assign rfl) (o_nil (e_seq (c_seq (c_iff rfl (c_skip (e_seq (c_seq (c_region (o_val (x_move rfl) ?_)))))))))))
 refine o_call (tz64_c _ (hG.ext hF.same)) (x_call1 en_210 rfl rfl) ?_
 rintro _ w ⟨rfl, hE⟩
 replace hF := hF.ext hE
 clear hE
 refine o_val (x_assign rfl) (o_nil (e_seq ?_))
 refine c_ret (e_ret (post_ret (res_1 (v := .int .i64 (4)) rfl rfl) ?_))
 exact ⟨rfl, hF.same⟩
set_option maxHeartbeats 1000000 in
set_option maxRecDepth 10000 in
theorem pow2_c (w0 : World) : Calls Tryz.prog 180 #[.int .i64 16] w0 (Ret fun v w' => v = .bool true ∧ Same [] w0 w') := by
 refine calls_start Tryz.func180 rfl Tryz.ntmps180 (Nat.le_of_ble_eq_true rfl) (args_1 _) ?_
 have hF := FR.start w0 []
 refine c_seq (c_region (o_val (x_assign rfl) (o_nil (e_seq (c_seq (c_region (o_val (x_move rfl) (o_val (x_move rfl) (o_val (v := .int .i64 (15)) (x_sub rfl rfl (by decide)) (o_val (v := .int .i64 (0)) (x_and rfl rfl (by decide)) (o_val (v := .bool true) (run_true (x_eql rfl rfl) (by decide)) (o_val (x_assign rfl) (o_nil ?_)))))))))))))
 refine e_seq ?_
 refine c_ret (e_ret (post_ret (res_1 (v := .bool true) rfl rfl) ?_))
 exact ⟨rfl, hF.same⟩
set_option maxHeartbeats 2000000 in
set_option maxRecDepth 10000 in
theorem formatBits_c (w0 : World) (hG : Gl w0) (r : Nat) (hr : r < 32) : Calls Tryz.prog 140 #[.slice none 0 0, .int .u64 (r : Int), .int .i64 16, .bool false, .bool false] w0 (Ret fun v w' => v = .tuple #[.slice none 0 0, .string (bs (hexS r))] ∧ Same [] w0 w') := by
  refine calls_start Tryz.func140 rfl Tryz.ntmps140 (Nat.le_of_ble_eq_true rfl) (args_5 _ _ _ _ _) ?_
  have hF := FR.start w0 []
  refine c_seq ?_
  refine c_region ?_
  refine o_val (x_assign rfl) ?_
  refine o_val (x_assign rfl) ?_
  refine o_nil ?_
  refine e_seq ?_
  refine c_seq ?_
  refine c_seq ?_
  refine c_region ?_
  refine o_val (x_move rfl) ?_
  refine o_val (v := .bool false) (run_false (x_lss rfl rfl) (by decide)) ?_
  refine o_val (x_move rfl) ?_
  refine o_val (x_move rfl) ?_
  refine o_val (v := .bool false) (run_false (x_eql rfl rfl) (by decide)) ?_
  refine o_val (x_pickf rfl rfl) ?_
  refine o_val (x_move rfl) ?_
  refine o_val (x_move rfl) ?_
  refine o_val (v := .bool false) (run_false (x_gtr rfl rfl) (by decide)) ?_
  refine o_val (x_pickf rfl rfl) ?_
  refine o_nil ?_
  refine e_seq ?_
  refine c_iff rfl ?_
  refine c_skip ?_
  refine e_seq ?_
  refine c_seq ?_
  refine c_region ?_
  refine o_alloc (cs := (List.toArray zs65)) hF Tryz.zeroValue207 (by kernel_rfl) ?_
  clear hF; intro b1 w hb1 hF hE
  clear hE
  refine o_nil ?_
  refine e_seq ?_
  refine c_seq ?_
  refine c_region ?_
  refine o_val (x_assign rfl) ?_
  refine o_nil ?_
  refine e_seq ?_
  refine c_seq ?_
  refine c_seq ?_
  refine c_region ?_
  refine o_val (x_move rfl) ?_
  refine o_nil ?_
  refine e_seq ?_
  refine c_iff rfl ?_
  refine c_skip ?_
  refine e_seq ?_
  refine c_seq ?_
  refine c_seq ?_
  refine c_region ?_
  refine o_val (x_move rfl) ?_
  refine o_call (pow2_c _) (x_call1 en_180 rfl rfl) ?_
  rintro _ w ⟨rfl, hE⟩
  replace hF := hF.ext hE
  clear hE
  refine o_nil ?_
  refine e_seq ?_
  refine c_ift rfl ?_
  refine c_seq ?_
  refine c_region ?_
  refine o_val (x_move rfl) ?_
  refine o_val (v := .int .u64 (16)) (x_conv_int Tryz.underlying3 Tryz.underlying132 rfl (by decide)) ?_
  refine o_call (tz_c _ (hG.ext hF.same)) (x_call1 en_181 rfl rfl) ?_
  rintro _ w ⟨rfl, hE⟩
  replace hF := hF.ext hE
  clear hE
  refine o_val (v := .int .u64 (4)) (x_conv_int Tryz.underlying3 Tryz.underlying132 rfl (by decide)) ?_
  refine o_val (x_assign rfl) ?_
  refine o_nil ?_
  refine e_seq ?_
  refine c_seq ?_
  refine c_region ?_
  refine o_val (x_move rfl) ?_
  refine o_val (v := .int .u64 (16)) (x_conv_int Tryz.underlying3 Tryz.underlying173 rfl (by decide)) ?_
  refine o_val (x_assign rfl) ?_
  refine o_nil ?_
  refine e_seq ?_
  refine c_seq ?_
  refine c_region ?_
  refine o_val (x_move rfl) ?_
  refine o_val (v := .int .u64 (16)) (x_conv_int Tryz.underlying3 Tryz.underlying132 rfl (by decide)) ?_
  refine o_val (v := .int .u64 (15)) (x_sub rfl rfl (by decide)) ?_
  refine o_val (x_assign rfl) ?_
  refine o_nil ?_
  refine e_seq ?_
  refine c_seq ?_
  refine c_block ?_
  refine c_loop (fun μ σ w => ∃ (u : Nat), ∃ (i : Nat), ∃ (cs : List Value), μ = 2 * u ∧ ((u = r ∧ i = 65 ∧ cs = zs65) ∨ (16 ≤ r ∧ u = r / 16 ∧ i = 64 ∧ cs = zs65.set 64 (.int .u8 ((dg (r % 16)).toNat : Int)))) ∧ AllEq σ [(0, .slice (none) (0) (0)), (1, .int .u64 ((u : Int))), (3, .bool false), (4, .bool false), (10, .slice (none) (0) (0)), (11, .string (bs ([]))), (12, .pointer (some ⟨b1, 0, none⟩)), (13, .int .i64 ((i : Int))), (14, .int .u64 (4)), (15, .int .u64 (16)), (16, .int .u64 (15))] ∧ FR w0 [] [(b1, .cells (List.toArray cs) 207)] w) _ ⟨r, 65, zs65, rfl, (.inl ⟨rfl, rfl, rfl⟩), ⟨rfl, rfl, rfl, rfl, rfl, rfl, rfl, rfl, rfl, rfl, rfl, trivial⟩, hF⟩ ?_
  clear hF; rintro μ σ w ⟨u, i, cs, rfl, hI, hs, hF⟩
  refine Cg.slots hs ?_
  clear hs; intro σ
  have hcl : cs.length = 65 := by rcases hI with ⟨-, -, rfl⟩ | ⟨-, -, -, rfl⟩ <;> simp [zs65]
  have hu32 : u < 32 := by omega
  refine c_seq ?_
  refine c_seq ?_
  refine c_region ?_
  refine o_val (x_move rfl) ?_
  refine o_val (x_move rfl) ?_
  refine o_val (v := .bool (decide ((16 : Int) ≤ ((u : Int) : Int)))) (x_geq rfl rfl) ?_
  refine o_nil ?_
  refine e_seq ?_
  refine c_splitd (d := 46) (p := (16 : Int) ≤ ((u : Int) : Int)) rfl (fun hc3 => ?_) (fun hc3 => ?_)
  ·
    refine c_ift rfl ?_
    refine c_skip ?_
    refine e_seq ?_
    refine c_block ?_
    refine c_seq ?_
    refine c_region ?_
    refine o_val (x_move rfl) ?_
    refine o_val (v := .int .i64 (((64 : Nat) : Int))) (x_sub rfl rfl (wrap_to (by omega) (by omega) (by omega))) ?_
    refine o_val (x_assign rfl) ?_
    refine o_nil ?_
    refine e_seq ?_
    refine c_seq ?_
    refine c_region ?_
    refine o_val (x_move rfl) ?_
    refine o_val (x_move rfl) ?_
    refine o_val (x_move rfl) ?_
    refine o_val (v := .int .u64 (((u % 16 : Nat) : Int))) (x_and rfl rfl (and15 u (by omega))) ?_
    refine o_val (v := .int .u8 (((dg (u % 16)).toNat : Int))) (by rw [← hexDigs_get (show u % 16 < hexDigs.length by show u % 16 < 36; omega)]; exact x_index (u % 16) Tryz.underlying9 rfl rfl _) ?_
    refine o_val (v := .pointer (some ⟨b1, 64, none⟩)) (x_indexArr 64 Tryz.underlying207 Tryz.sizeOf5 rfl rfl (by decide)) ?_
    refine o_store 0 (l := [.int .u8 (((dg (u % 16)).toNat : Nat) : Int)]) (cs' := (List.toArray (cs.set 64 (.int .u8 (((dg (u % 16)).toNat : Nat) : Int))))) hF Tryz.sizeOf5 rfl (v := .int .u8 (((dg (u % 16)).toNat : Nat) : Int)) rfl rfl (by simp [one]) rfl (by simp [hcl] <;> omega) (by simp [putA]) ?_
    clear hF; intro w hF hE
    clear hE
    replace hF : FR w0 [] [(b1, .cells (List.toArray (cs.set 64 (.int .u8 (((dg (u % 16)).toNat : Nat) : Int)))) 207)] w := hF
    refine o_nil ?_
    refine e_seq ?_
    refine c_region ?_
    refine o_val (x_move rfl) ?_
    refine o_val (x_move rfl) ?_
    refine o_val (v := .int .u64 (((u / 16 : Nat) : Int))) (x_shr 4 rfl rfl (by decide) (by rw [Int.fdiv_eq_ediv_of_nonneg _ (by decide)]; omega)) ?_
    refine o_val (x_assign rfl) ?_
    refine o_nil ?_
    refine e_block ?_
    refine e_inv ⟨_, ?_, u / 16, 64, cs.set 64 (.int .u8 (((dg (u % 16)).toNat : Nat) : Int)), rfl, (.inr (by rcases hI with ⟨rfl, rfl, rfl⟩ | ⟨h16, rfl, rfl, rfl⟩ <;> first | omega | exact ⟨by omega, rfl, rfl, rfl⟩)), ⟨rfl, rfl, rfl, rfl, rfl, rfl, rfl, rfl, rfl, rfl, rfl, trivial⟩, hF⟩
    omega
  ·
    refine c_iff rfl ?_
    refine c_exit (e_exit rfl ?_)
    refine e_seq ?_
    refine c_seq ?_
    refine c_region ?_
    refine o_val (x_move rfl) ?_
    refine o_val (v := .int .i64 (((i - 1 : Nat) : Int))) (x_sub rfl rfl (wrap_to (by omega) (by omega) (by omega))) ?_
    refine o_val (x_assign rfl) ?_
    refine o_nil ?_
    refine e_seq ?_
    refine c_region ?_
    refine o_val (x_move rfl) ?_
    refine o_val (x_move rfl) ?_
    refine o_val (v := .int .u8 (((dg u).toNat : Int))) (by rw [← hexDigs_get (show u < hexDigs.length by show u < 36; omega)]; exact x_index u Tryz.underlying9 rfl rfl _) ?_
    refine o_val (v := .pointer (some ⟨b1, (i - 1), none⟩)) (x_indexArr (i - 1) Tryz.underlying207 Tryz.sizeOf5 rfl rfl (by omega)) ?_
    refine o_store 0 (l := [.int .u8 (((dg (u)).toNat : Nat) : Int)]) (cs' := (List.toArray (cs.set (i - 1) (.int .u8 (((dg (u)).toNat : Nat) : Int))))) hF Tryz.sizeOf5 rfl (v := .int .u8 (((dg (u)).toNat : Nat) : Int)) rfl rfl (by simp [one]) rfl (by simp [hcl] <;> omega) (by simp [putA]) ?_
    clear hF; intro w hF hE
    clear hE
    replace hF : FR w0 [] [(b1, .cells (List.toArray (cs.set (i - 1) (.int .u8 (((dg (u)).toNat : Nat) : Int)))) 207)] w := hF
    refine o_nil ?_
    refine e_seq ?_
    refine c_seq ?_
    refine c_seq ?_
    refine c_region ?_
    refine o_val (x_move rfl) ?_
    refine o_nil ?_
    refine e_seq ?_
    refine c_iff rfl ?_
    refine c_skip ?_
    refine e_seq ?_
    refine c_seq ?_
    refine c_seq ?_
    refine c_region ?_
    refine o_val (x_move rfl) ?_
    refine o_nil ?_
    refine e_seq ?_
    refine c_iff rfl ?_
    refine c_skip ?_
    refine e_seq ?_
    refine c_seq ?_
    refine c_region ?_
    refine o_val (x_move rfl) ?_
    refine o_val (v := .slice (some ⟨b1, i - 1, none⟩) (65 - (i - 1)) (65 - (i - 1))) (x_sliceArr (i - 1) Tryz.underlying207 Tryz.sizeOf5 rfl rfl (by omega)) ?_
    have hfin : (hexS r).length = 65 - (i - 1) ∧ ∀ j (hj : j < (hexS r).length), w.cell? ((⟨b1, i - 1, none⟩ : Addr).add j) = some (.int .u8 ((hexS r)[j].toNat : Int)) := by
      have hh := hF.heap (i := 0) rfl
      rcases hI with ⟨rfl, rfl, rfl⟩ | ⟨h16, rfl, rfl, rfl⟩
      · have h1 : hexS u = [dg u] := by rw [hexS, if_pos (by omega)]
        refine ⟨by rw [h1]; rfl, fun j hj => ?_⟩
        have hj0 : j = 0 := by rw [h1] at hj; simpa using hj
        subst hj0
        rw [addr_add, cell_of_heap hh]; simp [h1, zs65]
      · have h1 : hexS r = [dg (r / 16), dg (r % 16)] := by rw [hexS, if_neg (by omega)]
        refine ⟨by rw [h1]; rfl, fun j hj => ?_⟩
        have hj2 : j = 0 ∨ j = 1 := by rw [h1] at hj; simp at hj; omega
        rw [addr_add, cell_of_heap hh]
        rcases hj2 with rfl | rfl <;> simp [h1, zs65]
    refine o_val (v := .string (bs (hexS r))) (x_convBs (hexS r) Tryz.underlying120 Tryz.underlying5 Tryz.underlying9 rfl hfin.1 hfin.2) ?_
    refine o_val (x_assign rfl) ?_
    refine o_nil ?_
    refine e_seq ?_
    refine c_ret (e_ret (post_ret (res_2 (v := .slice (none) (0) (0)) (x := .string (bs (hexS r))) rfl rfl rfl) ?_))
    exact ⟨rfl, hF.same⟩
set_option maxHeartbeats 1000000 in
set_option maxRecDepth 10000 in
theorem fmtInt_c (w0 : World) (hG : Gl w0) (r : Nat) (hr : r < 32) : Calls Tryz.prog 99 #[.int .i64 (r : Int), .int .i64 16] w0 (Ret fun v w' => v = .string (bs (hexS r)) ∧ Same [] w0 w') := by
 refine calls_start Tryz.func99 rfl Tryz.ntmps99 (Nat.le_of_ble_eq_true rfl) (args_2 _ _) ?_
 have hF := FR.start w0 []
 refine c_seq (c_region (o_val (x_assign rfl) (o_nil (e_seq (c_seq (c_seq (c_region (o_val (x_move rfl) (o_val (v := .bool false) (run_false (x_eql rfl rfl) (by decide)) (o_nil (e_seq (c_iff rfl (c_skip ?_)))))))))))))
 refine e_seq (c_seq (c_region (o_val (x_move rfl) (o_val (v := .int .u64 ((r : Int))) (x_conv_int Tryz.underlying2 Tryz.underlying173 rfl (wrap64 r hr)) (o_val (x_move rfl) (o_val (x_move rfl) (o_val (v := .bool false) (run_false (x_lss rfl rfl) (by omega)) ?_)))))))
 refine o_call (formatBits_c _ (hG.ext hF.same) r hr) (x_call5 en_140 rfl rfl rfl rfl rfl rfl) ?_
 rintro _ w ⟨rfl, hE⟩
 replace hF := hF.ext hE
 clear hE
 refine o_val (x_move rfl) (o_val (x_extract rfl rfl) (o_val (x_extract rfl rfl) (o_val (x_assign rfl) (o_val (x_assign rfl) (o_nil (e_seq (c_seq (c_region (o_val (x_move rfl) (o_val (x_assign rfl) (o_nil (e_seq ?_))))))))))))
 refine c_ret (e_ret (post_ret (res_1 (v := .string (bs (hexS r))) rfl rfl) ?_))
 exact ⟨rfl, hF.same⟩
set_option maxHeartbeats 1000000 in
set_option maxRecDepth 10000 in
theorem hex_c (w0 : World) (hG : Gl w0) (r : Nat) (hr : r < 32) : Calls Tryz.prog 197 #[.int .i64 (r : Int), .int .i64 16] w0 (Ret fun v w' => v = .string (bs (hexS r)) ∧ Same [] w0 w') := by
 refine calls_start Tryz.func197 rfl Tryz.ntmps197 (Nat.le_of_ble_eq_true rfl) (args_2 _ _) ?_
 have hF := FR.start w0 []
 refine c_seq (c_region (o_val (x_assign rfl) (o_nil (e_seq (c_seq (c_region (o_val (x_move rfl) (o_val (x_move rfl) ?_))))))))
 refine o_call (fmtInt_c _ (hG.ext hF.same) r hr) (x_call2 en_99 rfl rfl rfl) ?_
 rintro _ w ⟨rfl, hE⟩
 replace hF := hF.ext hE
 clear hE
 refine o_val (x_assign rfl) (o_nil (e_seq ?_))
 refine c_ret (e_ret (post_ret (res_1 (v := .string (bs (hexS r))) rfl rfl) ?_))
 exact ⟨rfl, hF.same⟩
def letterZ (r : Int) : Int := if r = 34 then 34 else if r = 92 then 92 else if r = 8 then 98 else if r = 12 then 102 else if r = 10 then 110 else if r = 13 then 114 else if r = 9 then 116 else 0
set_option maxHeartbeats 1000000 in
set_option maxRecDepth 10000 in
theorem letter_c (w0 : World) (r : Int) : Calls Tryz.prog 195 #[.int .i32 r] w0 (Ret fun v w' => v = .int .u8 (letterZ r) ∧ Same [] w0 w') := by
 refine calls_start Tryz.func195 rfl Tryz.ntmps195 (Nat.le_of_ble_eq_true rfl) (args_1 _) ?_
 have hF := FR.start w0 []
 refine c_seq (c_region (o_val (x_assign rfl) (o_nil (e_seq (c_seq (c_seq (c_region (o_val (x_move rfl) (o_nil (e_seq (c_block (c_seq (c_seq ?_)))))))))))))
 refine c_region (o_val (v := .bool (decide ((r : Int) = (34 : Int)))) (x_eql rfl rfl) (o_val (x_assign rfl) (o_nil (e_seq ?_))))
 refine c_splitd (d := 4) (p := (r : Int) = (34 : Int)) rfl (fun hc0 => ?_) (fun hc0 => ?_)
 refine c_ift rfl (c_skip (e_seq (c_ift rfl (c_seq (c_region (o_val (x_move rfl) ?_))))))
 refine o_val (v := .int .u8 (letterZ r)) (x_conv_int Tryz.underlying21 Tryz.underlying5 rfl (by rcases (by first | exact .inl (by assumption) | exact .inr (by assumption) : r = 34 ∨ r = 92) with rfl | rfl <;> decide)) ?_
 refine o_val (x_assign rfl) (o_nil (e_seq ?_))
 refine c_ret (e_ret (post_ret (res_1 (v := .int .u8 (letterZ r)) rfl rfl) ?_))
 refine ⟨?_, hF.same⟩; simp_all [letterZ]
 refine c_iff rfl (c_region (o_val (v := .bool (decide ((r : Int) = (92 : Int)))) (x_eql rfl rfl) (o_val (x_assign rfl) (o_nil (e_seq ?_)))))
 refine c_splitd (d := 4) (p := (r : Int) = (92 : Int)) rfl (fun hc1 => ?_) (fun hc1 => ?_)
 refine c_ift rfl (c_seq (c_region (o_val (x_move rfl) ?_)))
 refine o_val (v := .int .u8 (letterZ r)) (x_conv_int Tryz.underlying21 Tryz.underlying5 rfl (by rcases (by first | exact .inl (by assumption) | exact .inr (by assumption) : r = 34 ∨ r = 92) with rfl | rfl <;> decide)) ?_
 refine o_val (x_assign rfl) (o_nil (e_seq ?_))
 refine c_ret (e_ret (post_ret (res_1 (v := .int .u8 (letterZ r)) rfl rfl) ?_))
 refine ⟨?_, hF.same⟩; simp_all [letterZ]
 refine c_iff rfl (c_seq (c_region (o_val (v := .bool (decide ((r : Int) = (8 : Int)))) (x_eql rfl rfl) (o_val (x_assign rfl) (o_nil (e_seq ?_))))))
 refine c_splitd (d := 9) (p := (r : Int) = (8 : Int)) rfl (fun hc2 => ?_) (fun hc2 => ?_)
 refine c_ift rfl (c_seq (c_region (o_val (x_assign rfl) (o_nil (e_seq ?_)))))
 refine c_ret (e_ret (post_ret (res_1 (v := .int .u8 (98)) rfl rfl) ?_))
 refine ⟨?_, hF.same⟩; simp_all [letterZ]
 refine c_iff rfl (c_seq (c_region (o_val (v := .bool (decide ((r : Int) = (12 : Int)))) (x_eql rfl rfl) (o_val (x_assign rfl) (o_nil (e_seq ?_))))))
 refine c_splitd (d := 11) (p := (r : Int) = (12 : Int)) rfl (fun hc3 => ?_) (fun hc3 => ?_)
 refine c_ift rfl (c_seq (c_region (o_val (x_assign rfl) (o_nil (e_seq ?_)))))
 refine c_ret (e_ret (post_ret (res_1 (v := .int .u8 (102)) rfl rfl) ?_))
 refine ⟨?_, hF.same⟩; simp_all [letterZ]
 refine c_iff rfl (c_seq (c_region (o_val (v := .bool (decide ((r : Int) = (10 : Int)))) (x_eql rfl rfl) (o_val (x_assign rfl) (o_nil (e_seq ?_))))))
 refine c_splitd (d := 13) (p := (r : Int) = (10 : Int)) rfl (fun hc4 => ?_) (fun hc4 => ?_)
 refine c_ift rfl (c_seq (c_region (o_val (x_assign rfl) (o_nil (e_seq ?_)))))
 refine c_ret (e_ret (post_ret (res_1 (v := .int .u8 (110)) rfl rfl) ?_))
 refine ⟨?_, hF.same⟩; simp_all [letterZ]
 refine c_iff rfl (c_seq (c_region (o_val (v := .bool (decide ((r : Int) = (13 : Int)))) (x_eql rfl rfl) (o_val (x_assign rfl) (o_nil (e_seq ?_))))))
 refine c_splitd (d := 15) (p := (r : Int) = (13 : Int)) rfl (fun hc5 => ?_) (fun hc5 => ?_)
 refine c_ift rfl (c_seq (c_region (o_val (x_assign rfl) (o_nil (e_seq ?_)))))
 refine c_ret (e_ret (post_ret (res_1 (v := .int .u8 (114)) rfl rfl) ?_))
 refine ⟨?_, hF.same⟩; simp_all [letterZ]
 refine c_iff rfl (c_seq (c_region (o_val (v := .bool (decide ((r : Int) = (9 : Int)))) (x_eql rfl rfl) (o_val (x_assign rfl) (o_nil (e_seq ?_))))))
 refine c_splitd (d := 17) (p := (r : Int) = (9 : Int)) rfl (fun hc6 => ?_) (fun hc6 => ?_)
 refine c_ift rfl (c_seq (c_region (o_val (x_assign rfl) (o_nil (e_seq ?_)))))
 refine c_ret (e_ret (post_ret (res_1 (v := .int .u8 (116)) rfl rfl) ?_))
 refine ⟨?_, hF.same⟩; simp_all [letterZ]
 refine c_iff rfl (c_skip (e_block (e_seq (c_seq (c_region (o_val (x_assign rfl) (o_nil (e_seq ?_))))))))
 refine c_ret (e_ret (post_ret (res_1 (v := .int .u8 (0)) rfl rfl) ?_))
 refine ⟨?_, hF.same⟩; simp_all [letterZ]
end Go.Scarf
namespace Go.Scarf
open Go.RowKit Go.Proofs
def escS (r : Nat) : Str := if letterZ r ≠ 0 then [92, UInt8.ofNat (letterZ r).toNat] else if 32 ≤ r then runeS r else [92, 117] ++ Lib.repeatL [48] (4 - (hexS r).length) ++ hexS r
def escF : Nat → Str → Nat → Str
  | 0, _, _ => []
  | f + 1, s, p => if p < s.length then escS (Utf8.decode (bs s) p).1 ++ escF f s (p + (Utf8.decode (bs s) p).2) else []
theorem escF_eq : ∀ (f g : Nat) (s : Str) (p : Nat), s.length - p ≤ f → s.length - p ≤ g → escF f s p = escF g s p
  | 0, 0, _, _, _, _ => rfl
  | 0, g + 1, s, p, h, _ => by rw [escF, escF, if_neg (by omega)]
  | f + 1, 0, s, p, _, h => by rw [escF, escF, if_neg (by omega)]
  | f + 1, g + 1, s, p, h1, h2 => by
    rw [escF, escF]
    split
    · have h3 := decode_pos s p
      rw [escF_eq f g s _ (by omega) (by omega)]
    · rfl
def escAt (s : Str) (p : Nat) : Str := escF (s.length - p) s p
theorem escAt_step {s : Str} {p : Nat} (h : p < s.length) : escAt s p = escS (Utf8.decode (bs s) p).1 ++ escAt s (p + (Utf8.decode (bs s) p).2) := by
  have h3 := decode_pos s p
  obtain ⟨f, hf⟩ : ∃ f, s.length - p = f + 1 := ⟨s.length - p - 1, by omega⟩
  rw [escAt, hf, escF, if_pos h, escAt, escF_eq f (s.length - (p + (Utf8.decode (bs s) p).2)) s _ (by omega) (by omega)]
theorem escAt_end {s : Str} {p : Nat} (h : ¬ p < s.length) : escAt s p = [] := by
  have e : s.length - p = 0 := by omega
  rw [escAt, e, escF]
def quoteS (s : Str) : Str := [34] ++ escAt s 0 ++ [34]
theorem letterZ_range (r : Int) : 0 ≤ letterZ r ∧ letterZ r < 256 := by
  unfold letterZ
  repeat' split
  all_goals omega
theorem hexS_length (r : Nat) : 1 ≤ (hexS r).length ∧ (hexS r).length ≤ 2 := by unfold hexS; split <;> simp
theorem rep_length (n : Nat) : (Lib.repeatL [48] n).length = n := by
  induction n with
  | zero => rfl
  | succ n ih => simp [Lib.repeatL, ih]; try omega
theorem escS_length (r : Nat) : (escS r).length ≤ 6 := by
  unfold escS
  have h1 := runeS_length r
  have h2 := hexS_length r
  repeat' split
  · simp
  · omega
  · simp [rep_length]; omega
theorem writeByteZ_c {w0 : World} {B pb T : Nat} {rest : List Value} {s : Str} (hB : Bd w0 B pb T rest s) (z : Int) (h0 : 0 ≤ z) (h1 : z < 256) (hl : s.length + 1 ≤ 140737488355328) : WrC 157 #[.pointer (some ⟨pb, 0, none⟩), .int .u8 z] .nilIface w0 B pb T rest (s ++ [UInt8.ofNat z.toNat]) := by
  have h := writeByte_c hB (UInt8.ofNat z.toNat) hl
  have e : (((UInt8.ofNat z.toNat).toNat : Nat) : Int) = z := by simp only [UInt8.toNat_ofNat']; omega
  rwa [e] at h
set_option maxHeartbeats 4000000 in
set_option maxRecDepth 10000 in
theorem quote_c (w0 : World) (hG : Gl w0) (s : Str) (hl : s.length ≤ 17592186044416) : Calls Tryz.prog 156 #[.string (bs s)] w0 (Ret fun v w' => v = (if Lib.validD s = true then .tuple #[.string (bs (quoteS s)), .int .i64 0] else .tuple #[.string (bs []), .int .i64 2]) ∧ Same [] w0 w') := by
 refine calls_start Tryz.func156 rfl Tryz.ntmps156 (Nat.le_of_ble_eq_true rfl) (args_1 _) ?_
 have hF := FR.start w0 []
 refine c_seq (c_region (o_val (x_assign rfl) (o_val (x_assign rfl) (o_nil (e_seq (c_seq (c_seq (c_region (o_val (x_move rfl) ?_)))))))))
 refine o_call (valid_c s (by omega) _ (hG.ext hF.same)) (x_call1 en_87 rfl rfl) ?_
 rintro _ w ⟨n0, rfl, hE⟩
 replace hF := hF.ext hE
 clear hE
 refine o_val (x_move rfl) (o_val (x_extract rfl rfl) (o_val (x_extract rfl rfl) (o_val (x_assign rfl) (o_val (x_assign rfl) (o_nil (e_seq (c_seq (c_region (o_val (x_move rfl) (o_val (v := .bool (!(Lib.validD s))) (x_not rfl) (o_nil (e_seq ?_))))))))))))
 refine c_split (d := 17) (b := !(Lib.validD s)) rfl (fun hc0 => ?_) (fun hc0 => ?_)
 refine c_ift rfl (c_seq (c_region (o_val (x_assign rfl) (o_val (x_assign rfl) (o_nil (e_seq ?_))))))
 refine c_ret (e_ret (post_ret (res_2 (v := .string (bs ([]))) (x := .int .i64 (2)) rfl rfl rfl) ?_))
 exact ⟨by rw [if_neg (by simpa using hc0)], hF.same⟩
 refine c_iff rfl (c_skip (e_seq (c_seq (c_region ?_))))
 refine o_alloc (cs := #[.pointer none, .slice (none) (0) (0)]) hF Tryz.zeroValue122 rfl ?_
 clear hF; rintro b1 w hb1 hF -
 refine o_nil (e_seq (c_seq (c_region ?_)))
 have hBn : BW w0 [] w b1 b1 122 [] [] := BW.own ⟨.inl ⟨rfl, rfl⟩, Nat.le_refl _, _, _, hF.heap (i := 0) rfl, World.ownsRow_nil _ _ _ _, .inl rfl⟩ (hF.ge (i := 0) rfl) hF.same.size
 have hB := hBn
 replace hF := hF.drop 1
 replace hF : FR w0 [] [] w := hF
 have ho : (0 : Nat) ≤ 0 ∧ ([] : Str).length ≤ 0 := by simp
 refine o_call (writeByteZ_c hB.bd (34) (by omega) (by omega) (by simp)) (x_call2 en_157 rfl rfl rfl) ?_
 rintro _ w ⟨rfl, hBd, hE⟩
 replace hF := hF.wrote hB hE (by simp)
 replace hB := hB.wrote hBd hE
 clear hBd hE
 refine o_nil (e_seq (c_seq (c_seq (c_region (o_val (x_move rfl) ?_)))))
 refine o_rangeS (str := s) hF Tryz.underlying9 rfl ?_
 clear hF; intro b2 w hb2 hF hE
 have nb2 : b2 ≠ b1 := by have := hB.lt; omega
 replace hB := hB.ext hE
 clear hE
 refine o_nil (e_seq (c_block ?_))
 refine c_loop (fun μ σ w => ∃ (q : Nat), ∃ (o : Str), μ = s.length - q ∧ (o ++ escAt s q = [34] ++ escAt s 0) ∧ (o.length ≤ 1 + 6 * q ∧ o.length ≤ 1 + 6 * s.length) ∧ (BW w0 [] w b1 b1 122 [] o) ∧ AllEq σ [(6, .pointer (some ⟨b1, 0, none⟩)), (20, .pointer (some ⟨b2, 0, none⟩))] ∧ FR w0 [] [(b2, .stringIter (bs (s)) (q))] w) _ ⟨0, [34], rfl, (rfl), (by simp), (hB), ⟨rfl, rfl, trivial⟩, hF⟩ ?_
 clear hF; rintro μ σ w ⟨q, o, rfl, hq, ho, hB, hs, hF⟩
 refine Cg.slots hs ?_
 clear hs; intro σ
 have hr2 : rowAt w b2 = false := by rw [rowAt_of (hF.heap (i := 0) rfl)]; rfl
 refine c_seq (c_region ?_)
 by_cases hn0 : (q) < (s : Str).length
 refine o_nextS 0 (p := q) (str := s) hF rfl rfl hn0 ?_
 clear hF; intro w hF hE
 replace hB := hB.step hE (by simpa using nb2.symm) (by simpa using hr2) (by simp [rowAt_of (hF.heap (i := 0) rfl), rowO])
 clear hE
 replace hF : FR w0 [] [(b2, .stringIter (bs (s)) (q + (Utf8.decode (bs (s)) (q)).2))] w := hF
 refine o_val (x_extract rfl rfl) (o_nil (e_seq (c_seq (c_ift rfl (c_skip (e_seq (c_block (c_seq (c_region (o_val (x_extract rfl rfl) (o_val (x_assign rfl) (o_nil (e_seq ?_)))))))))))))
 refine c_seq (c_seq (c_region (o_val (x_move rfl) ?_)))
 refine o_call (letter_c _ (((Utf8.decode (bs s) q).1 : Nat) : Int)) (x_call1 en_195 rfl rfl) ?_
 rintro _ w ⟨rfl, hE⟩
 replace hF := hF.ext hE
 replace hB := hB.ext hE
 clear hE
 refine o_val (x_assign rfl) (o_nil (e_seq (c_seq (c_region (o_val (x_move rfl) (o_val (v := .bool (decide ((letterZ (((Utf8.decode (bs s) q).1 : Nat) : Int) : Int) ≠ (0 : Int)))) (x_neq rfl rfl) (o_nil (e_seq ?_))))))))
 refine c_splitd (d := 27) (p := (letterZ (((Utf8.decode (bs s) q).1 : Nat) : Int) : Int) ≠ (0 : Int)) rfl (fun hc2 => ?_) (fun hc2 => ?_)
 refine c_ift rfl (c_seq (c_region ?_))
 refine o_call (writeByteZ_c hB.bd (92) (by omega) (by omega) (by have h1 := ho.1; have h2 := ho.2; simp; omega)) (x_call2 en_157 rfl rfl rfl) ?_
 rintro _ w ⟨rfl, hBd, hE⟩
 replace hF := hF.wrote hB hE (by simp [rowO, nb2])
 replace hB := hB.wrote hBd hE
 clear hBd hE
 refine o_nil (e_seq (c_seq (c_region (o_val (x_move rfl) ?_))))
 refine o_call (writeByteZ_c hB.bd (letterZ (((Utf8.decode (bs s) q).1 : Nat) : Int)) (letterZ_range _).1 (letterZ_range _).2 (by have h1 := ho.1; have h2 := ho.2; simp; omega)) (x_call2 en_157 rfl rfl rfl) ?_
 rintro _ w ⟨rfl, hBd, hE⟩
 replace hF := hF.wrote hB hE (by simp [rowO, nb2])
 replace hB := hB.wrote hBd hE
 have e1 : o ++ [UInt8.ofNat (92 : Int).toNat] ++ [UInt8.ofNat (letterZ (((Utf8.decode (bs s) q).1 : Nat) : Int)).toNat] = o ++ escS (Utf8.decode (bs s) q).1 := by rw [escS, if_pos (by simpa using hc2)]; simp
 rw [e1] at hB
 clear hBd hE
 refine o_nil (e_seq ?_)
 refine c_exit (e_exit rfl ?_)
 have h1 := decode_pos s q
 refine e_inv ⟨_, ?_, q + (Utf8.decode (bs s) q).2, o ++ escS (Utf8.decode (bs s) q).1, rfl, (by rw [List.append_assoc, ← escAt_step (by omega)]; exact hq), (by have h1 := decode_pos s q; have h2 := escS_length (Utf8.decode (bs s) q).1; rw [List.length_append]; omega), (hB), ⟨rfl, rfl, trivial⟩, hF⟩
 omega
 refine c_iff rfl (c_skip (e_seq (c_seq (c_seq (c_region (o_val (x_move rfl) (o_val (v := .bool (decide ((32 : Int) ≤ (((Utf8.decode (bs (s)) (q)).1 : Int) : Int)))) (x_geq rfl rfl) (o_nil (e_seq ?_)))))))))
 refine c_splitd (d := 32) (p := (32 : Int) ≤ (((Utf8.decode (bs (s)) (q)).1 : Int) : Int)) rfl (fun hc3 => ?_) (fun hc3 => ?_)
 refine c_ift rfl (c_seq (c_region (o_val (x_move rfl) ?_)))
 refine o_call (writeRune_c hB.bd (((Utf8.decode (bs s) q).1 : Nat) : Int) (by omega) (by have := Lib.rune_le (bs s) q; omega) (by have h1 := ho.1; have h2 := ho.2; simp; omega)) (x_call2 en_196 rfl rfl rfl) ?_
 rintro _ w ⟨rfl, hBd, hE⟩
 replace hF := hF.wrote hB hE (by simp [rowO, nb2])
 replace hB := hB.wrote hBd hE
 have e1 : o ++ runeS (((Utf8.decode (bs s) q).1 : Nat) : Int) = o ++ escS (Utf8.decode (bs s) q).1 := by rw [escS, if_neg (by simpa using hc2), if_pos (by omega)]
 rw [e1] at hB
 clear hBd hE
 refine o_nil (e_seq ?_)
 refine c_exit (e_exit rfl ?_)
 have h1 := decode_pos s q
 refine e_inv ⟨_, ?_, q + (Utf8.decode (bs s) q).2, o ++ escS (Utf8.decode (bs s) q).1, rfl, (by rw [List.append_assoc, ← escAt_step (by omega)]; exact hq), (by have h1 := decode_pos s q; have h2 := escS_length (Utf8.decode (bs s) q).1; rw [List.length_append]; omega), (hB), ⟨rfl, rfl, trivial⟩, hF⟩
 omega
 refine c_iff rfl (c_skip (e_seq (c_seq (c_region (o_val (x_move rfl) (o_val (v := .int .i64 ((((Utf8.decode (bs s) q).1 : Nat) : Int))) (x_conv_int Tryz.underlying21 Tryz.underlying2 rfl (wrap_id (by omega) (by omega))) ?_))))))
 refine o_call (hex_c _ (hG.ext hF.same) (Utf8.decode (bs s) q).1 (by omega)) (x_call2 en_197 rfl rfl rfl) ?_
 rintro _ w ⟨rfl, hE⟩
 replace hF := hF.ext hE
 replace hB := hB.ext hE
 clear hE
 refine o_val (x_assign rfl) (o_nil (e_seq (c_region (o_val (x_move rfl) (o_val (v := .int .i64 ((((hexS (Utf8.decode (bs s) q).1) : Str).length : Int))) (x_len_string Tryz.underlying9 rfl) (o_val (v := .int .i64 (((4 - (hexS (Utf8.decode (bs s) q).1).length : Nat) : Int))) (x_sub rfl rfl (have := hexS_length (Utf8.decode (bs s) q).1; wrap_to (by omega) (by omega) (by omega))) ?_))))))
 refine o_call (repeat0_c ((4 - (hexS (Utf8.decode (bs s) q).1).length : Nat) : Int) (by omega) (by omega) _) (x_call2 en_112 rfl rfl rfl) ?_
 rintro _ w ⟨rfl, hE⟩
 replace hF := hF.ext hE
 replace hB := hB.ext hE
 clear hE
 refine o_val (v := .string (bs (([92, 117]) ++ (Lib.repeatL [48] (4 - (hexS (Utf8.decode (bs s) q).1).length))))) (x_cat rfl rfl (by have := hexS_length (Utf8.decode (bs s) q).1; simp [rep_length]; omega)) ?_
 refine o_val (x_move rfl) ?_
 refine o_val (v := .string (bs ((([92, 117]) ++ (Lib.repeatL [48] (4 - (hexS (Utf8.decode (bs s) q).1).length))) ++ (hexS (Utf8.decode (bs s) q).1)))) (x_cat rfl rfl (by have := hexS_length (Utf8.decode (bs s) q).1; simp [rep_length]; omega)) ?_
 refine o_call (writeString_c hB.bd _ (by have := hexS_length (Utf8.decode (bs s) q).1; have h1 := ho.1; have h2 := ho.2; simp [rep_length]; omega)) (x_call2 en_114 rfl rfl rfl) ?_
 rintro _ w ⟨rfl, hBd, hE⟩
 replace hF := hF.wrote hB hE (by simp [rowO, nb2])
 replace hB := hB.wrote hBd hE
 have e1 : o ++ ((([92, 117]) ++ (Lib.repeatL [48] (4 - (hexS (Utf8.decode (bs s) q).1).length))) ++ (hexS (Utf8.decode (bs s) q).1)) = o ++ escS (Utf8.decode (bs s) q).1 := by rw [escS, if_neg (by simpa using hc2), if_neg (by omega)]
 rw [e1] at hB
 clear hBd hE
 refine o_nil (e_block ?_)
 have h1 := decode_pos s q
 refine e_inv ⟨_, ?_, q + (Utf8.decode (bs s) q).2, o ++ escS (Utf8.decode (bs s) q).1, rfl, (by rw [List.append_assoc, ← escAt_step (by omega)]; exact hq), (by have h1 := decode_pos s q; have h2 := escS_length (Utf8.decode (bs s) q).1; rw [List.length_append]; omega), (hB), ⟨rfl, rfl, trivial⟩, hF⟩
 omega
 refine o_nextSend 0 (p := q) (str := s) hF rfl rfl hn0 ?_
 refine o_val (x_extract rfl rfl) (o_nil (e_seq (c_seq (c_iff rfl ?_))))
 refine c_exit (e_exit rfl ?_)
 refine e_seq (c_seq (c_region ?_))
 refine o_call (writeByteZ_c hB.bd (34) (by omega) (by omega) (by have h1 := ho.1; have h2 := ho.2; simp; omega)) (x_call2 en_157 rfl rfl rfl) ?_
 rintro _ w ⟨rfl, hBd, hE⟩
 replace hF := hF.wrote hB hE (by simp [rowO, nb2])
 replace hB := hB.wrote hBd hE
 clear hBd hE
 refine o_nil (e_seq (c_seq (c_region ?_)))
 refine o_call (string_c hB.bd (by simp)) (x_call1 en_90 rfl rfl) ?_
 rintro _ w ⟨rfl, hE⟩
 replace hF := hF.wrote hB hE (by simp [rowO, nb2])
 clear hE
 refine o_val (x_assign rfl) (o_val (x_assign rfl) (o_nil (e_seq ?_)))
 refine c_ret (e_ret (post_ret (res_2 (v := .string (bs (o ++ [34]))) (x := .int .i64 (0)) rfl rfl rfl) ?_))
 refine ⟨?_, hF.same⟩
 rw [if_pos (by simpa using hc0), quoteS, ← hq, escAt_end (by omega), List.append_nil]
end Go.Scarf
namespace Go.Scarf
open Go.RowKit Go.Proofs
def lineS (m : Bool) (ind d : Nat) : Str := if m then [10] ++ Lib.repeatL [32] (ind * d) else []
def qS (t : Str) : Str := if Lib.validD t = true then quoteS t else []
theorem repL_length (c : UInt8) (n : Nat) : (Lib.repeatL [c] n).length = n := by
  induction n with
  | zero => rfl
  | succ n ih => simp [Lib.repeatL, ih]; try omega
theorem lineS_length (m : Bool) (ind d : Nat) : (lineS m ind d).length ≤ 1 + ind * d := by unfold lineS; split <;> simp [repL_length] <;> omega
theorem escAt_length (s : Str) (p : Nat) : (escAt s p).length ≤ 6 * (s.length - p) := by
  induction h : s.length - p using Nat.strongRecOn generalizing p with
  | ind n ih =>
    by_cases hp : p < s.length
    · rw [escAt_step hp, List.length_append]
      have h1 := escS_length (Utf8.decode (bs s) p).1
      have h2 := decode_pos s p
      have h3 := ih (s.length - (p + (Utf8.decode (bs s) p).2)) (by omega) (p + (Utf8.decode (bs s) p).2) rfl
      omega
    · rw [escAt_end hp]; simp
theorem qS_length (s : Str) : (qS s).length ≤ 6 * s.length + 2 := by
  unfold qS
  split
  · have := escAt_length s 0
    simp [quoteS]; omega
  · simp
theorem repeat_c (t : Str) (c : Nat) (h1 : c ≤ 9223372036854775807) (h2 : t.length * c ≤ 140737488355328) (w : World) : Calls Tryz.prog 112 #[.string (bs t), .int .i64 (c : Int)] w (Ret fun v w' => v = .string (bs (Lib.repeatL t c)) ∧ Same [] w w') := by
  have h := Tryz.strings_Repeat (bs t) c w h1 (by rw [bs_size]; exact h2)
  exact ret_below h
theorem quoted_c (t : Str) (hl : t.length ≤ 17592186044416) (w0 : World) (hG : Gl w0) : Calls Tryz.prog 156 #[.string (bs t)] w0 (Ret fun v w' => v = .tuple #[.string (bs (qS t)), .int .i64 (if Lib.validD t = true then 0 else 2)] ∧ Same [] w0 w') := by
  refine ret_mono (quote_c w0 hG t hl) fun v w' ⟨h1, h2⟩ => ⟨?_, h2⟩
  rw [h1, qS]
  split <;> rfl
theorem Bd.mul {w : World} {B pb T : Nat} {m : Bool} {ind : Int} {s : Str} (h : Bd w B pb T [.bool m, .int .i64 ind] s) : w.cell? ⟨pb, 2, none⟩ = some (.bool m) := by
  obtain ⟨ap, v, hh, -⟩ := h.ex
  rw [cell_of_heap hh]; rfl
theorem Bd.ind {w : World} {B pb T : Nat} {m : Bool} {ind : Int} {s : Str} (h : Bd w B pb T [.bool m, .int .i64 ind] s) : w.cell? ⟨pb, 3, none⟩ = some (.int .i64 ind) := by
  obtain ⟨ap, v, hh, -⟩ := h.ex
  rw [cell_of_heap hh]; rfl
theorem Gl.wrote {w0 w : World} {B pb : Nat} (h : Gl w0) (hs : Same (Wk w0 B pb) w0 w) (hb : 7 ≤ B) (hp : B ≤ pb) : Gl w := h.same hs fun x hx => by
  rcases mem_Wk.1 hx with rfl | ⟨-, h1, -⟩ <;> omega
set_option maxHeartbeats 2000000 in
set_option maxRecDepth 10000 in
theorem line_c (w0 : World) (B pb : Nat) (m : Bool) (ind : Nat) (s : Str) (hBd : Bd w0 B pb 124 [.bool m, .int .i64 (ind : Int)] s) (d : Nat) (hd : ind * d ≤ 1000000000) (hl : s.length + (lineS m ind d).length ≤ 140737488355328) : WrC 158 #[.pointer (some ⟨pb, 0, none⟩), .int .i64 (d : Int)] (.tuple #[]) w0 B pb 124 [.bool m, .int .i64 (ind : Int)] (s ++ lineS m ind d) := by
 unfold WrC
 refine calls_start Tryz.func158 rfl Tryz.ntmps158 (Nat.le_of_ble_eq_true rfl) (args_2 _ _) ?_
 have hB := BW.start hBd
 have hF := FR.start w0 (Wk w0 B pb)
 refine c_seq (c_region (o_val (x_move rfl) (o_val (v := .pointer (some ⟨pb, 0, none⟩)) (x_nilCheck rfl) (o_val (v := .pointer (some ⟨pb, 2, none⟩)) (x_fieldAddrO fa_124_1 rfl) (o_val (v := .bool (m)) (x_load Tryz.isAgg4 rfl hB.bd.mul) (o_nil (e_seq ?_)))))))
 refine c_split (d := 7) (b := m) rfl (fun hc0 => ?_) (fun hc0 => ?_)
 rw [lineS, if_pos hc0] at hl
 simp only [List.length_append, List.length_cons, List.length_nil, repL_length] at hl
 refine c_ift rfl (c_seq (c_region (o_val (x_move rfl) (o_val (v := .pointer (some ⟨pb, 0, none⟩)) (x_nilCheck rfl) (o_val (v := .pointer (some ⟨pb, 0, none⟩)) (x_fieldAddrO fa_124_0 rfl) ?_)))))
 refine o_call (writeByteZ_c hB.bd 10 (by decide) (by decide) (by omega)) (x_call2 en_157 rfl rfl rfl) ?_
 rintro _ w ⟨rfl, hBd, hE⟩
 replace hF := hF.wrote hB hE (by simp)
 replace hB := hB.wrote hBd hE
 clear hBd hE
 refine o_nil (e_seq ?_)
 refine c_drawF [] (.free 0 (.free 1 (.free 2 (.free 3 (.free 4 (.free 5 (.free 6 (.free 7 (.free 8 (.act 9 (.act 10 .nil))))))))))) (by kernel_rfl) hF (by kernel_rfl) (by kernel_rfl) ?_
 clear hF; intro w hF hE
 replace hB := hB.ext hE
 clear hE
 refine ⟨fun wq => FR w0 (Wk w0 B pb) [] wq ∧ ∃ s', Bd wq B pb 124 [.bool m, .int .i64 (ind : Int)] s', ⟨hF, ⟨_, hB.bd⟩⟩, ?_⟩
 refine f_free rfl (v := .pointer (some ⟨pb, 0, none⟩)) (fun w hC => x_move rfl) (f_free rfl (v := .pointer (some ⟨pb, 0, none⟩)) (fun w hC => x_nilCheck rfl) (f_free rfl (v := .pointer (some ⟨pb, 0, none⟩)) (fun w hC => x_fieldAddrO fa_124_0 rfl) (f_free rfl (v := .pointer (some ⟨pb, 0, none⟩)) (fun w hC => x_move rfl) (f_free rfl (v := .pointer (some ⟨pb, 0, none⟩)) (fun w hC => x_nilCheck rfl) (f_free rfl (v := .pointer (some ⟨pb, 3, none⟩)) (fun w hC => x_fieldAddrO fa_124_2 rfl) ?_)))))
 refine f_free rfl (v := .int .i64 ((ind : Int))) (fun w hC => x_load Tryz.isAgg3 rfl (by obtain ⟨-, s_, hs_⟩ := hC; exact hs_.ind)) ?_
 refine f_free rfl (v := .int .i64 ((d : Int))) (fun w hC => x_move rfl) ?_
 refine f_free rfl (v := .int .i64 (((ind * d : Nat) : Int))) (fun w hC => x_mul rfl rfl (wrap_to (by rw [Int.natCast_mul]) (by omega) (by omega))) ?_
 refine f_call rfl (repeat_c [32] (ind * d) (by omega) (by simp; omega) _) (x_call2 en_112 rfl rfl rfl) ?_
 rintro _ w ⟨rfl, hE⟩
 replace hF := hF.ext hE
 replace hB := hB.ext hE
 clear hE
 refine ⟨⟨hF, ⟨_, hB.bd⟩⟩, ?_⟩
 refine f_call rfl (writeString_c hB.bd (Lib.repeatL [32] (ind * d)) (by simp [repL_length]; omega)) (x_call2 en_114 rfl rfl rfl) ?_
 rintro _ w ⟨rfl, hBd, hE⟩
 replace hF := hF.wrote hB hE (by simp)
 replace hB := hB.wrote hBd hE
 clear hBd hE
 refine ⟨⟨hF, ⟨_, hB.bd⟩⟩, ?_⟩
 refine d_nil ?_
 refine e_done (post_end (res_0 rfl) ?_)
 exact ⟨rfl, by simpa [lineS, hc0] using hB.bd, hF.same⟩
 refine c_iff rfl (c_skip ?_)
 refine e_done (post_end (res_0 rfl) ?_)
 exact ⟨rfl, by simpa [lineS, hc0] using hB.bd, hF.same⟩
set_option maxHeartbeats 1000000 in
set_option maxRecDepth 10000 in
theorem quotedP_c (w0 : World) (B pb : Nat) (m : Bool) (ind : Nat) (s : Str) (hBd : Bd w0 B pb 124 [.bool m, .int .i64 (ind : Int)] s) (hG : Gl w0) (h8 : 7 ≤ B) (t : Str) (ht : t.length ≤ 17592186044416) (hl : s.length + (qS t).length ≤ 140737488355328) : WrC 115 #[.pointer (some ⟨pb, 0, none⟩), .string (bs t)] (.tuple #[]) w0 B pb 124 [.bool m, .int .i64 (ind : Int)] (s ++ qS t) := by
 unfold WrC
 refine calls_start Tryz.func115 rfl Tryz.ntmps115 (Nat.le_of_ble_eq_true rfl) (args_2 _ _) ?_
 have hB := BW.start hBd
 have hF := FR.start w0 (Wk w0 B pb)
 refine c_seq (c_region (o_val (x_move rfl) ?_))
 refine o_call (quoted_c t ht _ ((hG.wrote hF.same h8 hBd.le))) (x_call1 en_156 rfl rfl) ?_
 rintro _ w ⟨rfl, hE⟩
 replace hF := hF.ext hE
 replace hB := hB.ext hE
 clear hE
 refine o_val (x_move rfl) (o_val (x_extract rfl rfl) (o_val (x_extract rfl rfl) (o_val (x_assign rfl) (o_val (x_assign rfl) (o_nil (e_seq (c_region (o_val (x_move rfl) (o_val (v := .pointer (some ⟨pb, 0, none⟩)) (x_nilCheck rfl) (o_val (v := .pointer (some ⟨pb, 0, none⟩)) (x_fieldAddrO fa_124_0 rfl) (o_val (x_move rfl) ?_)))))))))))
 refine o_call (writeString_c hB.bd (qS t) (by omega)) (x_call2 en_114 rfl rfl rfl) ?_
 rintro _ w ⟨rfl, hBd, hE⟩
 replace hF := hF.wrote hB hE (by simp)
 replace hB := hB.wrote hBd hE
 clear hBd hE
 refine o_nil ?_
 refine e_done (post_end (res_0 rfl) ?_)
 exact ⟨rfl, hB.bd, hF.same⟩
end Go.Scarf
namespace Go.Scarf
open Go.RowKit Go.Proofs
def joinS (m : Bool) (ind d : Nat) : Bool → List Str → Str
  | _, [] => []
  | first, p :: ps => (if first then [] else [44]) ++ (lineS m ind (d + 1) ++ (p ++ joinS m ind d false ps))
def itemsS (m : Bool) (ind d : Nat) (o c : UInt8) (ps : List Str) : Str := [o] ++ (joinS m ind d true ps ++ ((if ps = [] then [] else lineS m ind d) ++ [c]))
mutual
def valS (m : Bool) (ind : Nat) : Tree → Nat → Str
  | .node k t ks xs, d => if k = 1 then [110, 117, 108, 108] else if k = 4 then qS t else if k = 5 then itemsS m ind d 91 93 (valsS m ind xs (d + 1)) else if k = 6 then itemsS m ind d 123 125 (memsS m ind xs ks (d + 1)) else t
def valsS (m : Bool) (ind : Nat) : List Tree → Nat → List Str
  | [], _ => []
  | x :: xs, d => valS m ind x d :: valsS m ind xs d
def memsS (m : Bool) (ind : Nat) : List Tree → List Str → Nat → List Str
  | [], _, _ => []
  | x :: xs, ks, d => (qS (ks.headD []) ++ ([58] ++ ((if m then [32] else []) ++ valS m ind x d))) :: memsS m ind xs ks.tail d
end
theorem depthTs_mem : ∀ {xs : List Tree} {x : Tree}, x ∈ xs → depthT x ≤ depthTs xs
  | y :: ys, x, h => by
    rw [depthTs]
    rcases List.mem_cons.1 h with rfl | h
    · omega
    · have := depthTs_mem h; omega
theorem valsS_eq (m : Bool) (ind d : Nat) : ∀ xs, valsS m ind xs d = xs.map (fun x => valS m ind x d)
  | [] => by simp [valsS]
  | x :: xs => by simp [valsS, valsS_eq m ind d xs]
def memS (m : Bool) (ind d : Nat) (k : Str) (x : Tree) : Str := qS k ++ ([58] ++ ((if m then [32] else []) ++ valS m ind x d))
theorem memsS_length (m : Bool) (ind d : Nat) : ∀ xs ks, (memsS m ind xs ks d).length = xs.length
  | [], ks => by simp [memsS]
  | x :: xs, ks => by simp [memsS, memsS_length m ind d xs ks.tail]
theorem memsS_get (m : Bool) (ind d : Nat) : ∀ (xs : List Tree) (ks : List Str) (j : Nat) (h : j < xs.length) (hk : j < ks.length) (h' : j < (memsS m ind xs ks d).length), (memsS m ind xs ks d)[j] = memS m ind d ks[j] xs[j]
  | x :: xs, k :: ks, 0, _, _, _ => by simp [memsS, memS]
  | x :: xs, k :: ks, j + 1, h, hk, h' => by
    simp only [memsS, List.tail_cons, List.getElem_cons_succ]
    exact memsS_get m ind d xs ks j (by simpa using h) (by simpa using hk) (by simpa [memsS] using h')
theorem join_drop (m : Bool) (ind d : Nat) {ps : List Str} {j : Nat} (h : j < ps.length) : joinS m ind d (decide (j = 0)) (ps.drop j) = (if j = 0 then [] else [44]) ++ (lineS m ind (d + 1) ++ (ps[j] ++ joinS m ind d (decide (j + 1 = 0)) (ps.drop (j + 1)))) := by
  rw [List.drop_eq_getElem_cons h, joinS]
  simp
mutual
def okQ : Tree → Prop | .node _ t ks xs => t.length ≤ 17592186044416 ∧ (∀ k ∈ ks, k.length ≤ 17592186044416) ∧ okQs xs
def okQs : List Tree → Prop | [] => True | x :: xs => okQ x ∧ okQs xs
end
theorem okQs_mem : ∀ {xs : List Tree}, okQs xs → ∀ x ∈ xs, okQ x
  | [], _, _, h => absurd h (by simp)
  | y :: ys, h, x, hx => by
    rw [okQs] at h
    rcases List.mem_cons.1 hx with rfl | hx
    · exact h.1
    · exact okQs_mem h.2 x hx
def ValC (x : Tree) : Prop := ∀ (m : Bool) (ind d : Nat) (w0 : World) (B pb : Nat) (s : Str) (cs : List Value), Bd w0 B pb 124 [.bool m, .int .i64 (ind : Int)] s → Gl w0 → 7 ≤ B → Rep (fun b => b ∉ Wk w0 B pb) w0 (treeD x) cs → okQ x → allT nodeB x = true →
  ind * (d + depthT x) ≤ 1000000000 → d + depthT x ≤ 1000000000 → s.length + (valS m ind x d).length ≤ 140737488355328 → WrC 89 #[.pointer (some ⟨pb, 0, none⟩), .agg cs.toArray, .int .i64 (d : Int)] (.tuple #[]) w0 B pb 124 [.bool m, .int .i64 (ind : Int)] (s ++ valS m ind x d)
def ItemC (f : Nat) (k : Int) (t : Str) (ks : List Str) (xs : List Tree) (m : Bool) (ind d : Nat) (ps : List Str) : Prop := ∀ (j : Nat) (hj : j < ps.length) (w0 : World) (B pb : Nat) (s : Str) (A B' : Option Addr) (c e : Nat), Bd w0 B pb 124 [.bool m, .int .i64 (ind : Int)] s → Gl w0 → 7 ≤ B →
  Rep (fun b => b ∉ Wk w0 B pb) w0 (treeD (.node k t ks xs)) [.int .i64 k, .string (bs t), .slice A ks.length c, .slice B' xs.length e] → s.length + ps[j].length ≤ 140737488355328 →
  WrC f #[.pointer (some ⟨pb, 0, none⟩), .agg #[.int .i64 k, .string (bs t), .slice A ks.length c, .slice B' xs.length e], .int .i64 (j : Int), .int .i64 (d : Int)] (.tuple #[]) w0 B pb 124 [.bool m, .int .i64 (ind : Int)] (s ++ ps[j])
set_option maxHeartbeats 2000000 in
set_option maxRecDepth 10000 in
theorem item_c (k : Int) (t : Str) (ks : List Str) (xs : List Tree) (m : Bool) (ind d : Nat) (j : Nat) (hj : j < xs.length) (w0 : World) (B pb : Nat) (s : Str) (A B_ : Option Addr) (c e : Nat) (hBd : Bd w0 B pb 124 [.bool m, .int .i64 (ind : Int)] s) (hG : Gl w0) (h8 : 7 ≤ B) (hX : Rep (fun b => b ∉ Wk w0 B pb) w0 (treeD (.node k t ks xs)) [.int .i64 (k), .string (bs (t)), .slice (A) (ks.length) (c), .slice (B_) (xs.length) (e)]) (hv : ∀ x ∈ xs, ValC x) (hok : okQ (.node k t ks xs)) (hn : allT nodeB (.node k t ks xs) = true) (hd : ind * (d + depthTs xs) ≤ 1000000000) (hd2 : d + depthTs xs ≤ 1000000000) (hl : s.length + (valS m ind xs[j] d).length ≤ 140737488355328) : WrC 117 #[.pointer (some ⟨pb, 0, none⟩), .agg #[.int .i64 (k), .string (bs (t)), .slice (A) (ks.length) (c), .slice (B_) (xs.length) (e)], .int .i64 (j : Int), .int .i64 (d : Int)] (.tuple #[]) w0 B pb 124 [.bool m, .int .i64 (ind : Int)] (s ++ valS m ind xs[j] d) := by
 unfold WrC
 rw [okQ] at hok
 refine calls_start Tryz.func117 rfl Tryz.ntmps117 (Nat.le_of_ble_eq_true rfl) (args_4 _ _ _ _) ?_
 have hB := BW.start hBd
 have hF := FR.start w0 (Wk w0 B pb)
 refine c_seq (c_region ?_)
 refine o_box (v := .agg #[.int .i64 (k), .string (bs (t)), .slice (A) (ks.length) (c), .slice (B_) (xs.length) (e)]) (cs := #[.int .i64 (k), .string (bs (t)), .slice (A) (ks.length) (c), .slice (B_) (xs.length) (e)]) hF rfl rfl ?_
 clear hF; intro b1 w hb1 hF hE
 have nb1 : b1 ≠ pb := by have := hB.lt; omega
 replace hX := hX.off_ext hB.lt hE
 replace hB := hB.ext hE
 clear hE
 refine o_nil (e_seq (c_region (o_val (x_move rfl) (o_val (v := .pointer (some ⟨b1, 3, none⟩)) (x_fieldAddrO fa_25_3 rfl) (o_val (v := .slice (B_) (xs.length) (e)) (x_load Tryz.isAgg23 rfl (hF.cell 0 rfl rfl)) (o_val (x_move rfl) ?_))))))
 obtain ⟨A_, c_, B__, e_, heq_, -, -, hK_, hXs_⟩ := hX.tree_inv
 simp only [List.cons.injEq, Value.slice.injEq, true_and, and_true] at heq_
 obtain ⟨⟨rfl, rfl⟩, rfl, rfl⟩ := heq_
 obtain ⟨ad0, cs0, hA0, hl0, hk0, hx0⟩ := hXs_.tree_elem (i := j) (by omega)
 have ho0 := hx0.one_
 refine o_val (v := .pointer (some (ad0.add (j * 4)))) (x_indexAddrA (i := (j : Int)) sl_23 rfl hA0 rfl (by omega) (by omega)) (o_val (v := .agg (List.toArray cs0)) (x_loadS (l := cs0) Tryz.isAgg25 Tryz.sizeOf25 rfl hl0 hk0) (o_val (x_move rfl) ?_))
 refine o_call (hv xs[j] (List.getElem_mem hj) m ind d _ B pb s _ hB.bd (hG.wrote hF.same h8 hBd.le) h8 hx0 (okQs_mem hok.2.2 _ (List.getElem_mem hj)) ((allT_node hn).2 _ (List.getElem_mem hj)) (by have h1 := depthTs_mem (List.getElem_mem hj); exact Nat.le_trans (Nat.mul_le_mul_left ind (by omega)) hd) (by have h1 := depthTs_mem (List.getElem_mem hj); omega) hl) (x_call3 en_89 rfl rfl rfl rfl) ?_
 rintro _ w ⟨rfl, hBd2, hE⟩
 replace hF := hF.wrote hB hE (by simp [rowO, nb1])
 replace hX := hX.off hE
 replace hB := hB.wrote hBd2 hE
 clear hBd2 hE
 refine o_nil ?_
 refine e_done (post_end (res_0 rfl) ?_)
 exact ⟨rfl, hB.bd, hF.same⟩
set_option maxHeartbeats 2000000 in
set_option maxRecDepth 10000 in
theorem member_c (k : Int) (t : Str) (ks : List Str) (xs : List Tree) (m : Bool) (ind d : Nat) (j : Nat) (hj : j < xs.length) (hjk : j < ks.length) (w0 : World) (B pb : Nat) (s : Str) (A B_ : Option Addr) (c e : Nat) (hBd : Bd w0 B pb 124 [.bool m, .int .i64 (ind : Int)] s) (hG : Gl w0) (h8 : 7 ≤ B) (hX : Rep (fun b => b ∉ Wk w0 B pb) w0 (treeD (.node k t ks xs)) [.int .i64 (k), .string (bs (t)), .slice (A) (ks.length) (c), .slice (B_) (xs.length) (e)]) (hv : ∀ x ∈ xs, ValC x) (hok : okQ (.node k t ks xs)) (hn : allT nodeB (.node k t ks xs) = true) (hd : ind * (d + depthTs xs) ≤ 1000000000) (hd2 : d + depthTs xs ≤ 1000000000) (hl : s.length + (memS m ind d ks[j] xs[j]).length ≤ 140737488355328) : WrC 118 #[.pointer (some ⟨pb, 0, none⟩), .agg #[.int .i64 (k), .string (bs (t)), .slice (A) (ks.length) (c), .slice (B_) (xs.length) (e)], .int .i64 (j : Int), .int .i64 (d : Int)] (.tuple #[]) w0 B pb 124 [.bool m, .int .i64 (ind : Int)] (s ++ memS m ind d ks[j] xs[j]) := by
 unfold WrC
 rw [okQ] at hok
 rw [memS] at hl
 simp only [List.length_append, List.length_cons, List.length_nil] at hl
 refine calls_start Tryz.func118 rfl Tryz.ntmps118 (Nat.le_of_ble_eq_true rfl) (args_4 _ _ _ _) ?_
 have hB := BW.start hBd
 have hF := FR.start w0 (Wk w0 B pb)
 refine c_seq (c_region ?_)
 refine o_box (v := .agg #[.int .i64 (k), .string (bs (t)), .slice (A) (ks.length) (c), .slice (B_) (xs.length) (e)]) (cs := #[.int .i64 (k), .string (bs (t)), .slice (A) (ks.length) (c), .slice (B_) (xs.length) (e)]) hF rfl rfl ?_
 clear hF; intro b1 w hb1 hF hE
 have nb1 : b1 ≠ pb := by have := hB.lt; omega
 replace hX := hX.off_ext hB.lt hE
 replace hB := hB.ext hE
 clear hE
 refine o_nil (e_seq (c_seq (c_region (o_val (x_move rfl) (o_val (v := .pointer (some ⟨b1, 2, none⟩)) (x_fieldAddrO fa_25_2 rfl) (o_val (v := .slice (A) (ks.length) (c)) (x_load Tryz.isAgg22 rfl (hF.cell 0 rfl rfl)) (o_val (x_move rfl) ?_)))))))
 obtain ⟨A_, c_, B__, e_, heq_, -, -, hK_, hXs_⟩ := hX.tree_inv
 simp only [List.cons.injEq, Value.slice.injEq, true_and, and_true] at heq_
 obtain ⟨⟨rfl, rfl⟩, rfl, rfl⟩ := heq_
 obtain ⟨ad0, hA0, hk0, hx0⟩ := hK_.str_elem (i := j) (by omega)
 refine o_val (v := .pointer (some (ad0.add (j * 1)))) (x_indexAddrA (i := (j : Int)) sl_22 rfl hA0 rfl (by omega) (by omega)) (o_val (v := .string (bs (ks[j]))) (x_load Tryz.isAgg9 rfl hk0) ?_)
 refine o_call (quotedP_c _ B pb m ind s hB.bd (hG.wrote hF.same h8 hBd.le) h8 ks[j] (hok.2.1 _ (List.getElem_mem hjk)) (by omega)) (x_call2 en_115 rfl rfl rfl) ?_
 rintro _ w ⟨rfl, hBd2, hE⟩
 replace hF := hF.wrote hB hE (by simp [rowO, nb1])
 replace hX := hX.off hE
 replace hB := hB.wrote hBd2 hE
 clear hBd2 hE
 refine o_nil (e_seq (c_seq (c_region (o_val (x_move rfl) (o_val (v := .pointer (some ⟨pb, 0, none⟩)) (x_nilCheck rfl) (o_val (v := .pointer (some ⟨pb, 0, none⟩)) (x_fieldAddrO fa_124_0 rfl) ?_))))))
 refine o_call (writeByteZ_c hB.bd 58 (by decide) (by decide) (by rw [List.length_append]; omega)) (x_call2 en_157 rfl rfl rfl) ?_
 rintro _ w ⟨rfl, hBd2, hE⟩
 replace hF := hF.wrote hB hE (by simp [rowO, nb1])
 replace hX := hX.off hE
 replace hB := hB.wrote hBd2 hE
 clear hBd2 hE
 refine o_nil (e_seq (c_seq (c_seq (c_region (o_val (x_move rfl) (o_val (v := .pointer (some ⟨pb, 0, none⟩)) (x_nilCheck rfl) (o_val (v := .pointer (some ⟨pb, 2, none⟩)) (x_fieldAddrO fa_124_1 rfl) (o_val (v := .bool (m)) (x_load Tryz.isAgg4 rfl hB.bd.mul) (o_nil (e_seq ?_))))))))))
 refine c_split (d := 22) (b := m) rfl (fun hc0 => ?_) (fun hc0 => ?_)
 refine c_ift rfl (c_region (o_val (x_move rfl) (o_val (v := .pointer (some ⟨pb, 0, none⟩)) (x_nilCheck rfl) (o_val (v := .pointer (some ⟨pb, 0, none⟩)) (x_fieldAddrO fa_124_0 rfl) ?_))))
 refine o_call (writeByteZ_c hB.bd 32 (by decide) (by decide) (by simp only [List.length_append, List.length_cons, List.length_nil]; (first | rw [if_pos hc0] at hl | rw [if_neg (by simp [hc0])] at hl); simp only [List.length_cons, List.length_nil] at hl; omega)) (x_call2 en_157 rfl rfl rfl) ?_
 rintro _ w ⟨rfl, hBd2, hE⟩
 replace hF := hF.wrote hB hE (by simp [rowO, nb1])
 replace hX := hX.off hE
 replace hB := hB.wrote hBd2 hE
 clear hBd2 hE
 refine o_nil (e_seq (c_region (o_val (x_move rfl) (o_val (v := .pointer (some ⟨b1, 3, none⟩)) (x_fieldAddrO fa_25_3 rfl) (o_val (v := .slice (B_) (xs.length) (e)) (x_load Tryz.isAgg23 rfl (hF.cell 0 rfl rfl)) (o_val (x_move rfl) ?_))))))
 obtain ⟨A_, c_, B__, e_, heq_, -, -, hK_, hXs_⟩ := hX.tree_inv
 simp only [List.cons.injEq, Value.slice.injEq, true_and, and_true] at heq_
 obtain ⟨⟨rfl, rfl⟩, rfl, rfl⟩ := heq_
 obtain ⟨ad1, cs1, hA1, hl1, hk1, hx1⟩ := hXs_.tree_elem (i := j) (by omega)
 have ho1 := hx1.one_
 refine o_val (v := .pointer (some (ad1.add (j * 4)))) (x_indexAddrA (i := (j : Int)) sl_23 rfl hA1 rfl (by omega) (by omega)) (o_val (v := .agg (List.toArray cs1)) (x_loadS (l := cs1) Tryz.isAgg25 Tryz.sizeOf25 rfl hl1 hk1) (o_val (x_move rfl) ?_))
 refine o_call (hv xs[j] (List.getElem_mem hj) m ind d _ B pb _ _ hB.bd (hG.wrote hF.same h8 hBd.le) h8 hx1 (okQs_mem hok.2.2 _ (List.getElem_mem hj)) ((allT_node hn).2 _ (List.getElem_mem hj)) (by have h1 := depthTs_mem (List.getElem_mem hj); exact Nat.le_trans (Nat.mul_le_mul_left ind (by omega)) hd) (by have h1 := depthTs_mem (List.getElem_mem hj); omega) (by simp only [List.length_append, List.length_cons, List.length_nil]; (first | rw [if_pos hc0] at hl | rw [if_neg (by simp [hc0])] at hl); simp only [List.length_cons, List.length_nil] at hl; omega)) (x_call3 en_89 rfl rfl rfl rfl) ?_
 rintro _ w ⟨rfl, hBd2, hE⟩
 replace hF := hF.wrote hB hE (by simp [rowO, nb1])
 replace hX := hX.off hE
 replace hB := hB.wrote hBd2 hE
 clear hBd2 hE
 refine o_nil ?_
 refine e_done (post_end (res_0 rfl) ?_)
 exact ⟨rfl, by simpa [memS, hc0] using hB.bd, hF.same⟩
 refine c_iff rfl (c_skip (e_seq (c_region (o_val (x_move rfl) (o_val (v := .pointer (some ⟨b1, 3, none⟩)) (x_fieldAddrO fa_25_3 rfl) (o_val (v := .slice (B_) (xs.length) (e)) (x_load Tryz.isAgg23 rfl (hF.cell 0 rfl rfl)) (o_val (x_move rfl) ?_)))))))
 obtain ⟨A_, c_, B__, e_, heq_, -, -, hK_, hXs_⟩ := hX.tree_inv
 simp only [List.cons.injEq, Value.slice.injEq, true_and, and_true] at heq_
 obtain ⟨⟨rfl, rfl⟩, rfl, rfl⟩ := heq_
 obtain ⟨ad2, cs2, hA2, hl2, hk2, hx2⟩ := hXs_.tree_elem (i := j) (by omega)
 have ho2 := hx2.one_
 refine o_val (v := .pointer (some (ad2.add (j * 4)))) (x_indexAddrA (i := (j : Int)) sl_23 rfl hA2 rfl (by omega) (by omega)) (o_val (v := .agg (List.toArray cs2)) (x_loadS (l := cs2) Tryz.isAgg25 Tryz.sizeOf25 rfl hl2 hk2) (o_val (x_move rfl) ?_))
 refine o_call (hv xs[j] (List.getElem_mem hj) m ind d _ B pb _ _ hB.bd (hG.wrote hF.same h8 hBd.le) h8 hx2 (okQs_mem hok.2.2 _ (List.getElem_mem hj)) ((allT_node hn).2 _ (List.getElem_mem hj)) (by have h1 := depthTs_mem (List.getElem_mem hj); exact Nat.le_trans (Nat.mul_le_mul_left ind (by omega)) hd) (by have h1 := depthTs_mem (List.getElem_mem hj); omega) (by simp only [List.length_append, List.length_cons, List.length_nil]; (first | rw [if_pos hc0] at hl | rw [if_neg (by simp [hc0])] at hl); simp only [List.length_cons, List.length_nil] at hl; omega)) (x_call3 en_89 rfl rfl rfl rfl) ?_
 rintro _ w ⟨rfl, hBd2, hE⟩
 replace hF := hF.wrote hB hE (by simp [rowO, nb1])
 replace hX := hX.off hE
 replace hB := hB.wrote hBd2 hE
 clear hBd2 hE
 refine o_nil ?_
 refine e_done (post_end (res_0 rfl) ?_)
 exact ⟨rfl, by simpa [memS, hc0] using hB.bd, hF.same⟩
end Go.Scarf
namespace Go.Scarf
open Go.RowKit Go.Proofs
theorem joinS_nil (m : Bool) (ind d : Nat) (b : Bool) : joinS m ind d b [] = [] := by cases b <;> rfl
set_option maxHeartbeats 4000000 in
set_option maxRecDepth 10000 in
theorem items_c (f : Nat) (hen : Enters Tryz.prog f) (k : Int) (t : Str) (ks : List Str) (xs : List Tree) (m : Bool) (ind d : Nat) (bo bc : UInt8) (ps : List Str) (hps : ps.length = xs.length) (hI : ItemC f k t ks xs m ind (d + 1) ps) (w0 : World) (B pb : Nat) (s : Str) (A B_ : Option Addr) (c e : Nat) (hBd : Bd w0 B pb 124 [.bool m, .int .i64 (ind : Int)] s) (hG : Gl w0) (h8 : 7 ≤ B) (hX : Rep (fun b => b ∉ Wk w0 B pb) w0 (treeD (.node k t ks xs)) [.int .i64 (k), .string (bs (t)), .slice (A) (ks.length) (c), .slice (B_) (xs.length) (e)]) (hd1 : ind * (d + 1) ≤ 1000000000) (hd2 : d + 1 ≤ 1000000000) (hxl : xs.length ≤ 9223372036854775807) (hlim : s.length + (itemsS m ind d bo bc ps).length ≤ 140737488355328) : WrC 116 #[.pointer (some ⟨pb, 0, none⟩), .agg #[.int .i64 (k), .string (bs (t)), .slice (A) (ks.length) (c), .slice (B_) (xs.length) (e)], .int .i64 (d : Int), .string (bs [bo, bc]), .func (.func f) #[.pointer (some ⟨pb, 0, none⟩)] #[]] (.tuple #[]) w0 B pb 124 [.bool m, .int .i64 (ind : Int)] (s ++ itemsS m ind d bo bc ps) := by
 unfold WrC
 rw [itemsS] at hlim
 simp only [List.length_append, List.length_cons, List.length_nil] at hlim
 refine calls_start Tryz.func116 rfl Tryz.ntmps116 (Nat.le_of_ble_eq_true rfl) (args_5 _ _ _ _ _) ?_
 have hB := BW.start hBd
 have hF := FR.start w0 (Wk w0 B pb)
 refine c_seq (c_region ?_)
 refine o_box (v := .agg #[.int .i64 (k), .string (bs (t)), .slice (A) (ks.length) (c), .slice (B_) (xs.length) (e)]) (cs := #[.int .i64 (k), .string (bs (t)), .slice (A) (ks.length) (c), .slice (B_) (xs.length) (e)]) hF rfl rfl ?_
 clear hF; intro b1 w hb1 hF hE
 have nb1 : b1 ≠ pb := by have := hB.lt; omega
 replace hX := hX.off_ext hB.lt hE
 replace hB := hB.ext hE
 clear hE
 refine o_nil (e_seq (c_seq ?_))
 refine c_drawF [] (.free 0 (.free 1 (.free 2 (.free 3 (.free 4 (.act 5 .nil)))))) (by kernel_rfl) hF (by kernel_rfl) (by kernel_rfl) ?_
 clear hF; intro w hF hE
 replace hX := hX.off_ext hB.lt hE
 replace hB := hB.ext hE
 clear hE
 refine ⟨fun wq => FR w0 (Wk w0 B pb) [(b1, .cells #[.int .i64 (k), .string (bs (t)), .slice (A) (ks.length) (c), .slice (B_) (xs.length) (e)] 25)] wq, hF, ?_⟩
 refine f_free rfl (v := .pointer (some ⟨pb, 0, none⟩)) (fun w hC => x_move rfl) (f_free rfl (v := .pointer (some ⟨pb, 0, none⟩)) (fun w hC => x_nilCheck rfl) (f_free rfl (v := .pointer (some ⟨pb, 0, none⟩)) (fun w hC => x_fieldAddrO fa_124_0 rfl) (f_free rfl (v := .string (bs ([bo, bc]))) (fun w hC => x_move rfl) ?_)))
 refine f_free rfl (v := .int .u8 (((bo.toNat : Nat) : Int))) (fun w hC => x_index (s := [bo, bc]) 0 Tryz.underlying9 rfl rfl (by simp)) ?_
 refine f_call rfl (writeByte_c hB.bd bo (by omega)) (x_call2 en_157 rfl rfl rfl) ?_
 rintro _ w ⟨rfl, hBd2, hE⟩
 replace hF := hF.wrote hB hE (by simp [rowO, nb1])
 replace hX := hX.off hE
 replace hB := hB.wrote hBd2 hE
 clear hBd2 hE
 refine ⟨hF, ?_⟩
 refine d_nil (e_seq (c_seq (c_seq (c_region (o_val (v := .pointer (some ⟨b1, 3, none⟩)) (x_fieldAddrO fa_25_3 rfl) (o_val (v := .slice (B_) (xs.length) (e)) (x_load Tryz.isAgg23 rfl (hF.cell 0 rfl rfl)) (o_val (v := .int .i64 ((xs.length : Nat))) (x_len_slice Tryz.underlying23 rfl) (o_val (x_move rfl) (o_nil (e_seq (c_block ?_)))))))))))
 refine c_loop (fun μ σ w => ∃ (j : Nat), ∃ (o : Str), μ = xs.length - j ∧ (j ≤ xs.length) ∧ (o ++ joinS m ind d (decide (j = 0)) (ps.drop j) = s ++ ([bo] ++ joinS m ind d true ps)) ∧ (BW w0 (Wk w0 B pb) w B pb 124 [.bool m, .int .i64 (ind : Int)] (o)) ∧ (Rep (fun b => b ∉ Wk w B pb) w (treeD (.node k t ks xs)) [.int .i64 (k), .string (bs (t)), .slice (A) (ks.length) (c), .slice (B_) (xs.length) (e)]) ∧ AllEq σ [(0, .pointer (some ⟨pb, 0, none⟩)), (2, .int .i64 ((d : Int))), (3, .string (bs ([bo, bc]))), (4, .func (.func f) #[.pointer (some ⟨pb, 0, none⟩)] #[]), (6, .pointer (some ⟨b1, 0, none⟩)), (19, .int .i64 ((xs.length : Nat))), (20, .int .i64 ((j : Int)))] ∧ FR w0 (Wk w0 B pb) [(b1, .cells #[.int .i64 (k), .string (bs (t)), .slice (A) (ks.length) (c), .slice (B_) (xs.length) (e)] 25)] w) _ ⟨0, s ++ [bo], rfl, (Nat.zero_le _), (by simp), (hB), (hX), ⟨rfl, rfl, rfl, rfl, rfl, rfl, rfl, trivial⟩, hF⟩ ?_
 clear hF; rintro μ σ w ⟨j, o, rfl, hj, hq, hB, hX, hs, hF⟩
 refine Cg.slots hs ?_
 clear hs; intro σ
 refine c_seq (c_region (o_val (v := .bool (decide (((j : Int) : Int) < ((xs.length : Nat) : Int)))) (x_lss rfl rfl) (o_nil (e_seq (c_seq ?_)))))
 refine c_splitd (d := 21) (p := ((j : Int) : Int) < ((xs.length : Nat) : Int)) rfl (fun hc0 => ?_) (fun hc0 => ?_)
 have hjp : j < ps.length := by omega
 have hjd := join_drop m ind d hjp
 have hL := congrArg List.length hq
 rw [hjd] at hL
 have hif : (if j = 0 then ([] : Str) else [44]).length = if j = 0 then 0 else 1 := by split <;> rfl
 simp only [List.length_append, List.length_cons, List.length_nil, hif] at hL
 refine c_ift rfl (c_skip (e_seq (c_seq (c_block (c_seq (c_region (o_val (x_move rfl) (o_val (x_assign rfl) (o_nil (e_seq (c_seq (c_seq (c_region ?_)))))))))))))
 refine o_val (x_move rfl) (o_val (v := .bool (decide ((0 : Int) < ((j : Int) : Int)))) (x_gtr rfl rfl) (o_nil (e_seq ?_)))
 refine c_splitd (d := 24) (p := (0 : Int) < ((j : Int) : Int)) rfl (fun hc1 => ?_) (fun hc1 => ?_)
 refine c_ift rfl (c_region (o_val (x_move rfl) (o_val (v := .pointer (some ⟨pb, 0, none⟩)) (x_nilCheck rfl) (o_val (v := .pointer (some ⟨pb, 0, none⟩)) (x_fieldAddrO fa_124_0 rfl) ?_))))
 refine o_call (writeByteZ_c hB.bd 44 (by decide) (by decide) (by rw [if_neg (by omega)] at hL; omega)) (x_call2 en_157 rfl rfl rfl) ?_
 rintro _ w ⟨rfl, hBd2, hE⟩
 replace hF := hF.wrote hB hE (by simp [rowO, nb1])
 replace hX := hX.off hE
 replace hB := hB.wrote hBd2 hE
 clear hBd2 hE
 refine o_nil (e_seq (c_seq (c_region (o_val (x_move rfl) (o_val (x_move rfl) (o_val (v := .int .i64 (((d + 1 : Nat) : Int))) (x_add rfl rfl (wrap_to (by omega) (by omega) (by omega))) ?_))))))
 refine o_call (line_c _ B pb m ind _ hB.bd (d + 1) hd1 (by (try simp only [List.length_append, List.length_cons, List.length_nil]); first | (rw [if_neg (by omega)] at hL; omega) | (rw [if_pos (by omega)] at hL; omega))) (x_call2 en_158 rfl rfl rfl) ?_
 rintro _ w ⟨rfl, hBd2, hE⟩
 replace hF := hF.wrote hB hE (by simp [rowO, nb1])
 replace hX := hX.off hE
 replace hB := hB.wrote hBd2 hE
 clear hBd2 hE
 refine o_nil (e_seq (c_region (o_val (x_move rfl) (o_val (v := .agg #[.int .i64 (k), .string (bs (t)), .slice (A) (ks.length) (c), .slice (B_) (xs.length) (e)]) (x_loadS (l := [.int .i64 (k), .string (bs (t)), .slice (A) (ks.length) (c), .slice (B_) (xs.length) (e)]) Tryz.isAgg25 Tryz.sizeOf25 rfl rfl (hF.cellsAll 0 rfl)) (o_val (x_move rfl) (o_val (x_move rfl) (o_val (v := .int .i64 (((d + 1 : Nat) : Int))) (x_add rfl rfl (wrap_to (by omega) (by omega) (by omega))) ?_)))))))
 refine o_call (hI j hjp _ B pb _ A B_ c e hB.bd (hG.wrote hF.same h8 hBd.le) h8 hX (by (try simp only [List.length_append, List.length_cons, List.length_nil]); first | (rw [if_neg (by omega)] at hL; omega) | (rw [if_pos (by omega)] at hL; omega))) (x_callv3 rfl hen rfl rfl rfl rfl) ?_
 rintro _ w ⟨rfl, hBd2, hE⟩
 replace hF := hF.wrote hB hE (by simp [rowO, nb1])
 replace hX := hX.off hE
 replace hB := hB.wrote hBd2 hE
 clear hBd2 hE
 replace hB : BW w0 (Wk w0 B pb) w B pb 124 [.bool m, .int .i64 (ind : Int)] (o ++ ((if j = 0 then [] else [44]) ++ (lineS m ind (d + 1) ++ ps[j]))) := by first | (have h0 : ¬ j = 0 := (by omega); rw [if_neg h0]; simpa using hB) | (have h0 : j = 0 := (by omega); rw [if_pos h0]; simpa using hB)
 refine o_nil (e_block (e_seq (c_region (o_val (v := .int .i64 (((j : Int) : Int) + 1)) (x_add rfl rfl (wrap_id (by omega) (by omega))) (o_val (x_move rfl) (o_nil ?_))))))
 refine e_inv ⟨_, ?_, j + 1, o ++ ((if j = 0 then [] else [44]) ++ (lineS m ind (d + 1) ++ ps[j])), rfl, (by omega), (by have h := hq; rw [hjd] at h; simpa [List.append_assoc] using h), (hB), (hX), ⟨rfl, rfl, rfl, rfl, rfl, rfl, rfl, trivial⟩, hF⟩
 omega
 refine c_iff rfl (c_skip (e_seq (c_seq (c_region (o_val (x_move rfl) (o_val (x_move rfl) (o_val (v := .int .i64 (((d + 1 : Nat) : Int))) (x_add rfl rfl (wrap_to (by omega) (by omega) (by omega))) ?_)))))))
 refine o_call (line_c _ B pb m ind _ hB.bd (d + 1) hd1 (by (try simp only [List.length_append, List.length_cons, List.length_nil]); first | (rw [if_neg (by omega)] at hL; omega) | (rw [if_pos (by omega)] at hL; omega))) (x_call2 en_158 rfl rfl rfl) ?_
 rintro _ w ⟨rfl, hBd2, hE⟩
 replace hF := hF.wrote hB hE (by simp [rowO, nb1])
 replace hX := hX.off hE
 replace hB := hB.wrote hBd2 hE
 clear hBd2 hE
 refine o_nil (e_seq (c_region (o_val (x_move rfl) (o_val (v := .agg #[.int .i64 (k), .string (bs (t)), .slice (A) (ks.length) (c), .slice (B_) (xs.length) (e)]) (x_loadS (l := [.int .i64 (k), .string (bs (t)), .slice (A) (ks.length) (c), .slice (B_) (xs.length) (e)]) Tryz.isAgg25 Tryz.sizeOf25 rfl rfl (hF.cellsAll 0 rfl)) (o_val (x_move rfl) (o_val (x_move rfl) (o_val (v := .int .i64 (((d + 1 : Nat) : Int))) (x_add rfl rfl (wrap_to (by omega) (by omega) (by omega))) ?_)))))))
 refine o_call (hI j hjp _ B pb _ A B_ c e hB.bd (hG.wrote hF.same h8 hBd.le) h8 hX (by (try simp only [List.length_append, List.length_cons, List.length_nil]); first | (rw [if_neg (by omega)] at hL; omega) | (rw [if_pos (by omega)] at hL; omega))) (x_callv3 rfl hen rfl rfl rfl rfl) ?_
 rintro _ w ⟨rfl, hBd2, hE⟩
 replace hF := hF.wrote hB hE (by simp [rowO, nb1])
 replace hX := hX.off hE
 replace hB := hB.wrote hBd2 hE
 clear hBd2 hE
 replace hB : BW w0 (Wk w0 B pb) w B pb 124 [.bool m, .int .i64 (ind : Int)] (o ++ ((if j = 0 then [] else [44]) ++ (lineS m ind (d + 1) ++ ps[j]))) := by first | (have h0 : ¬ j = 0 := (by omega); rw [if_neg h0]; simpa using hB) | (have h0 : j = 0 := (by omega); rw [if_pos h0]; simpa using hB)
 refine o_nil (e_block (e_seq (c_region (o_val (v := .int .i64 (((j : Int) : Int) + 1)) (x_add rfl rfl (wrap_id (by omega) (by omega))) (o_val (x_move rfl) (o_nil ?_))))))
 refine e_inv ⟨_, ?_, j + 1, o ++ ((if j = 0 then [] else [44]) ++ (lineS m ind (d + 1) ++ ps[j])), rfl, (by omega), (by have h := hq; rw [hjd] at h; simpa [List.append_assoc] using h), (hB), (hX), ⟨rfl, rfl, rfl, rfl, rfl, rfl, rfl, trivial⟩, hF⟩
 omega
 have hq2 : o = s ++ ([bo] ++ joinS m ind d true ps) := by have h := hq; rw [List.drop_eq_nil_of_le (by omega), joinS_nil, List.append_nil] at h; exact h
 refine c_iff rfl ?_
 refine c_exit (e_exit rfl ?_)
 refine e_seq (c_seq (c_seq (c_region (o_val (v := .pointer (some ⟨b1, 3, none⟩)) (x_fieldAddrO fa_25_3 rfl) (o_val (v := .slice (B_) (xs.length) (e)) (x_load Tryz.isAgg23 rfl (hF.cell 0 rfl rfl)) (o_val (v := .int .i64 ((xs.length : Nat))) (x_len_slice Tryz.underlying23 rfl) (o_val (v := .bool (decide ((0 : Int) < ((xs.length : Nat) : Int)))) (x_gtr rfl rfl) (o_nil (e_seq ?_)))))))))
 refine c_splitd (d := 43) (p := (0 : Int) < ((xs.length : Nat) : Int)) rfl (fun hc2 => ?_) (fun hc2 => ?_)
 have hpn : ps ≠ [] := by intro hp; rw [hp] at hps; simp at hps; omega
 refine c_ift rfl (c_region (o_val (x_move rfl) (o_val (x_move rfl) ?_)))
 refine o_call (line_c _ B pb m ind _ hB.bd d (Nat.le_trans (Nat.mul_le_mul_left ind (by omega)) hd1) (by have hp : ps ≠ [] := (by intro hp; rw [hp] at hps; simp at hps; omega); rw [if_neg hp] at hlim; rw [hq2]; (try simp only [List.length_append, List.length_cons, List.length_nil]); omega)) (x_call2 en_158 rfl rfl rfl) ?_
 rintro _ w ⟨rfl, hBd2, hE⟩
 replace hF := hF.wrote hB hE (by simp [rowO, nb1])
 replace hX := hX.off hE
 replace hB := hB.wrote hBd2 hE
 clear hBd2 hE
 refine o_nil (e_seq ?_)
 refine c_drawF [] (.free 0 (.free 1 (.free 2 (.free 3 (.free 4 (.act 5 .nil)))))) (by kernel_rfl) hF (by kernel_rfl) (by kernel_rfl) ?_
 clear hF; intro w hF hE
 replace hX := hX.off_ext hB.lt hE
 replace hB := hB.ext hE
 clear hE
 refine ⟨fun wq => FR w0 (Wk w0 B pb) [(b1, .cells #[.int .i64 (k), .string (bs (t)), .slice (A) (ks.length) (c), .slice (B_) (xs.length) (e)] 25)] wq, hF, ?_⟩
 refine f_free rfl (v := .pointer (some ⟨pb, 0, none⟩)) (fun w hC => x_move rfl) (f_free rfl (v := .pointer (some ⟨pb, 0, none⟩)) (fun w hC => x_nilCheck rfl) (f_free rfl (v := .pointer (some ⟨pb, 0, none⟩)) (fun w hC => x_fieldAddrO fa_124_0 rfl) (f_free rfl (v := .string (bs ([bo, bc]))) (fun w hC => x_move rfl) ?_)))
 refine f_free rfl (v := .int .u8 (((bc.toNat : Nat) : Int))) (fun w hC => x_index (s := [bo, bc]) 1 Tryz.underlying9 rfl rfl (by simp)) ?_
 refine f_call rfl (writeByte_c hB.bd bc (by rw [hq2]; (try simp only [List.length_append, List.length_cons, List.length_nil]); first | (rw [if_neg hpn] at hlim; omega) | omega)) (x_call2 en_157 rfl rfl rfl) ?_
 rintro _ w ⟨rfl, hBd2, hE⟩
 replace hF := hF.wrote hB hE (by simp [rowO, nb1])
 replace hX := hX.off hE
 replace hB := hB.wrote hBd2 hE
 clear hBd2 hE
 refine ⟨hF, ?_⟩
 refine d_nil ?_
 refine e_done (post_end (res_0 rfl) ?_)
 refine ⟨rfl, ?_, hF.same⟩
 have hb := hB.bd
 rw [hq2] at hb
 rw [itemsS, if_neg hpn]
 simpa [List.append_assoc] using hb
 have hpz : ps = [] := List.eq_nil_of_length_eq_zero (by omega)
 refine c_iff rfl (c_skip (e_seq ?_))
 refine c_drawF [] (.free 0 (.free 1 (.free 2 (.free 3 (.free 4 (.act 5 .nil)))))) (by kernel_rfl) hF (by kernel_rfl) (by kernel_rfl) ?_
 clear hF; intro w hF hE
 replace hX := hX.off_ext hB.lt hE
 replace hB := hB.ext hE
 clear hE
 refine ⟨fun wq => FR w0 (Wk w0 B pb) [(b1, .cells #[.int .i64 (k), .string (bs (t)), .slice (A) (ks.length) (c), .slice (B_) (xs.length) (e)] 25)] wq, hF, ?_⟩
 refine f_free rfl (v := .pointer (some ⟨pb, 0, none⟩)) (fun w hC => x_move rfl) (f_free rfl (v := .pointer (some ⟨pb, 0, none⟩)) (fun w hC => x_nilCheck rfl) (f_free rfl (v := .pointer (some ⟨pb, 0, none⟩)) (fun w hC => x_fieldAddrO fa_124_0 rfl) (f_free rfl (v := .string (bs ([bo, bc]))) (fun w hC => x_move rfl) ?_)))
 refine f_free rfl (v := .int .u8 (((bc.toNat : Nat) : Int))) (fun w hC => x_index (s := [bo, bc]) 1 Tryz.underlying9 rfl rfl (by simp)) ?_
 refine f_call rfl (writeByte_c hB.bd bc (by rw [hq2]; (try simp only [List.length_append, List.length_cons, List.length_nil]); first | (rw [if_neg hpn] at hlim; omega) | omega)) (x_call2 en_157 rfl rfl rfl) ?_
 rintro _ w ⟨rfl, hBd2, hE⟩
 replace hF := hF.wrote hB hE (by simp [rowO, nb1])
 replace hX := hX.off hE
 replace hB := hB.wrote hBd2 hE
 clear hBd2 hE
 refine ⟨hF, ?_⟩
 refine d_nil ?_
 refine e_done (post_end (res_0 rfl) ?_)
 refine ⟨rfl, ?_, hF.same⟩
 have hb := hB.bd
 rw [hq2] at hb
 rw [itemsS, if_pos hpz]
 simpa [List.append_assoc] using hb
set_option maxHeartbeats 4000000 in
set_option maxRecDepth 10000 in
theorem value_node (k : Int) (t : Str) (ks : List Str) (xs : List Tree) (ih : ∀ x ∈ xs, ValC x) (m : Bool) (ind d : Nat) (w0 : World) (B pb : Nat) (s : Str) (A B_ : Option Addr) (c e : Nat) (hBd : Bd w0 B pb 124 [.bool m, .int .i64 (ind : Int)] s) (hG : Gl w0) (h8 : 7 ≤ B) (hX : Rep (fun b => b ∉ Wk w0 B pb) w0 (treeD (.node k t ks xs)) [.int .i64 (k), .string (bs (t)), .slice (A) (ks.length) (c), .slice (B_) (xs.length) (e)]) (hok : okQ (.node k t ks xs)) (hn : allT nodeB (.node k t ks xs) = true) (hd : ind * (d + depthT (.node k t ks xs)) ≤ 1000000000) (hd2 : d + depthT (.node k t ks xs) ≤ 1000000000) (hxl : xs.length ≤ 9223372036854775807) (hl : s.length + (valS m ind (.node k t ks xs) d).length ≤ 140737488355328) : WrC 89 #[.pointer (some ⟨pb, 0, none⟩), .agg #[.int .i64 (k), .string (bs (t)), .slice (A) (ks.length) (c), .slice (B_) (xs.length) (e)], .int .i64 (d : Int)] (.tuple #[]) w0 B pb 124 [.bool m, .int .i64 (ind : Int)] (s ++ valS m ind (.node k t ks xs) d) := by
 unfold WrC
 refine calls_start Tryz.func89 rfl Tryz.ntmps89 (Nat.le_of_ble_eq_true rfl) (args_3 _ _ _) ?_
 have hB := BW.start hBd
 have hF := FR.start w0 (Wk w0 B pb)
 refine c_seq (c_region ?_)
 refine o_box (v := .agg #[.int .i64 (k), .string (bs (t)), .slice (A) (ks.length) (c), .slice (B_) (xs.length) (e)]) (cs := #[.int .i64 (k), .string (bs (t)), .slice (A) (ks.length) (c), .slice (B_) (xs.length) (e)]) hF rfl rfl ?_
 clear hF; intro b1 w hb1 hF hE
 have nb1 : b1 ≠ pb := by have := hB.lt; omega
 replace hX := hX.off_ext hB.lt hE
 replace hB := hB.ext hE
 clear hE
 refine o_nil (e_seq (c_seq (c_region (o_val (v := .pointer (some ⟨b1, 0, none⟩)) (x_fieldAddrO fa_25_0 rfl) (o_val (v := .int .i64 (k)) (x_load Tryz.isAgg3 rfl (hF.cell 0 rfl rfl)) (o_nil (e_seq (c_block (c_seq (c_region (o_val (v := .bool (decide ((k : Int) = (1 : Int)))) (x_eql rfl rfl) (o_val (x_assign rfl) (o_nil ?_)))))))))))))
 refine e_seq ?_
 refine c_splitd (d := 14) (p := (k : Int) = (1 : Int)) rfl (fun hc0 => ?_) (fun hc0 => ?_)
 refine c_ift rfl (c_region (o_val (x_move rfl) (o_val (v := .pointer (some ⟨pb, 0, none⟩)) (x_nilCheck rfl) (o_val (v := .pointer (some ⟨pb, 0, none⟩)) (x_fieldAddrO fa_124_0 rfl) ?_))))
 have hkk_ : k = 1 := by omega
 refine o_call (writeString_c hB.bd [110, 117, 108, 108] (by rw [valS, if_pos hkk_] at hl; exact hl)) (x_call2 en_114 rfl rfl rfl) ?_
 rintro _ w ⟨rfl, hBd2, hE⟩
 replace hF := hF.wrote hB hE (by simp [rowO, nb1])
 replace hX := hX.off hE
 replace hB := hB.wrote hBd2 hE
 clear hBd2 hE
 refine o_nil (e_block ?_)
 refine e_done (post_end (res_0 rfl) ?_)
 refine ⟨rfl, ?_, hF.same⟩
 rw [valS]
 first | (rw [if_pos hkk_]; exact hB.bd) | (rw [if_neg (by omega), if_pos hkk_]; exact hB.bd) | (rw [if_neg (by omega), if_neg (by omega), if_pos hkk_]; exact hB.bd) | (rw [if_neg (by omega), if_neg (by omega), if_neg (by omega), if_pos hkk_]; exact hB.bd) | (rw [if_neg (by omega), if_neg (by omega), if_neg (by omega), if_neg (by omega)]; exact hB.bd)
 refine c_iff rfl (c_seq (c_region (o_val (v := .bool (decide ((k : Int) = (4 : Int)))) (x_eql rfl rfl) (o_val (x_assign rfl) (o_nil (e_seq ?_))))))
 refine c_splitd (d := 20) (p := (k : Int) = (4 : Int)) rfl (fun hc1 => ?_) (fun hc1 => ?_)
 refine c_ift rfl (c_region (o_val (x_move rfl) (o_val (v := .pointer (some ⟨b1, 1, none⟩)) (x_fieldAddrO fa_25_1 rfl) (o_val (v := .string (bs (t))) (x_load Tryz.isAgg9 rfl (hF.cell 0 rfl rfl)) ?_))))
 have hkk_ : k = 4 := by omega
 refine o_call (quotedP_c _ B pb m ind s hB.bd (hG.wrote hF.same h8 hBd.le) h8 t (by rw [okQ] at hok; exact hok.1) (by rw [valS, if_neg (by omega), if_pos hkk_] at hl; exact hl)) (x_call2 en_115 rfl rfl rfl) ?_
 rintro _ w ⟨rfl, hBd2, hE⟩
 replace hF := hF.wrote hB hE (by simp [rowO, nb1])
 replace hX := hX.off hE
 replace hB := hB.wrote hBd2 hE
 clear hBd2 hE
 refine o_nil (e_block ?_)
 refine e_done (post_end (res_0 rfl) ?_)
 refine ⟨rfl, ?_, hF.same⟩
 rw [valS]
 first | (rw [if_pos hkk_]; exact hB.bd) | (rw [if_neg (by omega), if_pos hkk_]; exact hB.bd) | (rw [if_neg (by omega), if_neg (by omega), if_pos hkk_]; exact hB.bd) | (rw [if_neg (by omega), if_neg (by omega), if_neg (by omega), if_pos hkk_]; exact hB.bd) | (rw [if_neg (by omega), if_neg (by omega), if_neg (by omega), if_neg (by omega)]; exact hB.bd)
 refine c_iff rfl (c_seq (c_region (o_val (v := .bool (decide ((k : Int) = (5 : Int)))) (x_eql rfl rfl) (o_val (x_assign rfl) (o_nil (e_seq ?_))))))
 refine c_splitd (d := 26) (p := (k : Int) = (5 : Int)) rfl (fun hc2 => ?_) (fun hc2 => ?_)
 refine c_ift rfl (c_region (o_val (x_move rfl) (o_val (v := .agg #[.int .i64 (k), .string (bs (t)), .slice (A) (ks.length) (c), .slice (B_) (xs.length) (e)]) (x_loadS (l := [.int .i64 (k), .string (bs (t)), .slice (A) (ks.length) (c), .slice (B_) (xs.length) (e)]) Tryz.isAgg25 Tryz.sizeOf25 rfl rfl (hF.cellsAll 0 rfl)) (o_val (x_move rfl) (o_val (x_move rfl) (o_val (v := .func (.func 117) #[.pointer (some ⟨pb, 0, none⟩)] #[]) (x_makeFunc10 rfl) ?_))))))
 have hkk_ : k = 5 := by omega
 refine o_call (items_c 117 en_117 k t ks xs m ind d 91 93 (valsS m ind xs (d + 1)) (by rw [valsS_eq, List.length_map]) (fun j hj w1 B1 p1 s1 A1 B1_ c1 e1 hb1_ hg1 h81 hx1 hl1 => by have hj2 : j < xs.length := (by rw [valsS_eq, List.length_map] at hj; exact hj); have hg : (valsS m ind xs (d + 1))[j] = valS m ind xs[j] (d + 1) := (by simp only [valsS_eq, List.getElem_map]); rw [hg] at hl1 ⊢; exact item_c k t ks xs m ind (d + 1) j hj2 w1 B1 p1 s1 A1 B1_ c1 e1 hb1_ hg1 h81 hx1 ih hok hn (by rw [depthT] at hd; exact Nat.le_trans (Nat.mul_le_mul_left ind (by omega)) hd) (by rw [depthT] at hd2; omega) hl1) _ B pb s A B_ c e hB.bd (hG.wrote hF.same h8 hBd.le) h8 hX (by have h1 := hd; rw [depthT] at h1; exact Nat.le_trans (Nat.mul_le_mul_left ind (by omega)) h1) (by rw [depthT] at hd2; omega) hxl (by rw [valS] at hl; simpa [hkk_] using hl)) (x_call5 en_116 rfl rfl rfl rfl rfl rfl) ?_
 rintro _ w ⟨rfl, hBd2, hE⟩
 replace hF := hF.wrote hB hE (by simp [rowO, nb1])
 replace hX := hX.off hE
 replace hB := hB.wrote hBd2 hE
 clear hBd2 hE
 refine o_nil (e_block ?_)
 refine e_done (post_end (res_0 rfl) ?_)
 refine ⟨rfl, ?_, hF.same⟩
 rw [valS]
 first | (rw [if_pos hkk_]; exact hB.bd) | (rw [if_neg (by omega), if_pos hkk_]; exact hB.bd) | (rw [if_neg (by omega), if_neg (by omega), if_pos hkk_]; exact hB.bd) | (rw [if_neg (by omega), if_neg (by omega), if_neg (by omega), if_pos hkk_]; exact hB.bd) | (rw [if_neg (by omega), if_neg (by omega), if_neg (by omega), if_neg (by omega)]; exact hB.bd)
 refine c_iff rfl (c_seq (c_region (o_val (v := .bool (decide ((k : Int) = (6 : Int)))) (x_eql rfl rfl) (o_val (x_assign rfl) (o_nil (e_seq ?_))))))
 refine c_splitd (d := 34) (p := (k : Int) = (6 : Int)) rfl (fun hc3 => ?_) (fun hc3 => ?_)
 refine c_ift rfl (c_region (o_val (x_move rfl) (o_val (v := .agg #[.int .i64 (k), .string (bs (t)), .slice (A) (ks.length) (c), .slice (B_) (xs.length) (e)]) (x_loadS (l := [.int .i64 (k), .string (bs (t)), .slice (A) (ks.length) (c), .slice (B_) (xs.length) (e)]) Tryz.isAgg25 Tryz.sizeOf25 rfl rfl (hF.cellsAll 0 rfl)) (o_val (x_move rfl) (o_val (x_move rfl) (o_val (v := .func (.func 118) #[.pointer (some ⟨pb, 0, none⟩)] #[]) (x_makeFunc10 rfl) ?_))))))
 have hkk_ : k = 6 := by omega
 have hkl : ks.length = xs.length := (node6 (hkk_ ▸ (allT_node hn).1)).2
 refine o_call (items_c 118 en_118 k t ks xs m ind d 123 125 (memsS m ind xs ks (d + 1)) (by rw [memsS_length]) (fun j hj w1 B1 p1 s1 A1 B1_ c1 e1 hb1_ hg1 h81 hx1 hl1 => by have hj2 : j < xs.length := (by rw [memsS_length] at hj; exact hj); have hg := memsS_get m ind (d + 1) xs ks j hj2 (by omega) hj; rw [hg] at hl1 ⊢; exact member_c k t ks xs m ind (d + 1) j hj2 (by omega) w1 B1 p1 s1 A1 B1_ c1 e1 hb1_ hg1 h81 hx1 ih hok hn (by rw [depthT] at hd; exact Nat.le_trans (Nat.mul_le_mul_left ind (by omega)) hd) (by rw [depthT] at hd2; omega) hl1) _ B pb s A B_ c e hB.bd (hG.wrote hF.same h8 hBd.le) h8 hX (by have h1 := hd; rw [depthT] at h1; exact Nat.le_trans (Nat.mul_le_mul_left ind (by omega)) h1) (by rw [depthT] at hd2; omega) hxl (by rw [valS] at hl; simpa [hkk_] using hl)) (x_call5 en_116 rfl rfl rfl rfl rfl rfl) ?_
 rintro _ w ⟨rfl, hBd2, hE⟩
 replace hF := hF.wrote hB hE (by simp [rowO, nb1])
 replace hX := hX.off hE
 replace hB := hB.wrote hBd2 hE
 clear hBd2 hE
 refine o_nil (e_block ?_)
 refine e_done (post_end (res_0 rfl) ?_)
 refine ⟨rfl, ?_, hF.same⟩
 rw [valS]
 first | (rw [if_pos hkk_]; exact hB.bd) | (rw [if_neg (by omega), if_pos hkk_]; exact hB.bd) | (rw [if_neg (by omega), if_neg (by omega), if_pos hkk_]; exact hB.bd) | (rw [if_neg (by omega), if_neg (by omega), if_neg (by omega), if_pos hkk_]; exact hB.bd) | (rw [if_neg (by omega), if_neg (by omega), if_neg (by omega), if_neg (by omega)]; exact hB.bd)
 refine c_iff rfl ?_
 refine c_drawF [] (.free 0 (.free 1 (.free 2 (.free 3 (.free 4 (.act 5 .nil)))))) (by kernel_rfl) hF (by kernel_rfl) (by kernel_rfl) ?_
 clear hF; intro w hF hE
 replace hX := hX.off_ext hB.lt hE
 replace hB := hB.ext hE
 clear hE
 refine ⟨fun wq => FR w0 (Wk w0 B pb) [(b1, .cells #[.int .i64 (k), .string (bs (t)), .slice (A) (ks.length) (c), .slice (B_) (xs.length) (e)] 25)] wq, hF, ?_⟩
 refine f_free rfl (v := .pointer (some ⟨pb, 0, none⟩)) (fun w hC => x_move rfl) (f_free rfl (v := .pointer (some ⟨pb, 0, none⟩)) (fun w hC => x_nilCheck rfl) (f_free rfl (v := .pointer (some ⟨pb, 0, none⟩)) (fun w hC => x_fieldAddrO fa_124_0 rfl) (f_free rfl (v := .pointer (some ⟨b1, 1, none⟩)) (fun w hC => x_fieldAddrO fa_25_1 rfl) (f_free rfl (v := .string (bs (t))) (fun w hC => x_load Tryz.isAgg9 rfl (hC.cell 0 rfl rfl)) ?_))))
 refine f_call rfl (writeString_c hB.bd t (by rw [valS, if_neg (by omega), if_neg (by omega), if_neg (by omega), if_neg (by omega)] at hl; exact hl)) (x_call2 en_114 rfl rfl rfl) ?_
 rintro _ w ⟨rfl, hBd2, hE⟩
 replace hF := hF.wrote hB hE (by simp [rowO, nb1])
 replace hX := hX.off hE
 replace hB := hB.wrote hBd2 hE
 clear hBd2 hE
 refine ⟨hF, ?_⟩
 refine d_nil (e_block ?_)
 refine e_done (post_end (res_0 rfl) ?_)
 refine ⟨rfl, ?_, hF.same⟩
 rw [valS]
 first | (rw [if_pos hkk_]; exact hB.bd) | (rw [if_neg (by omega), if_pos hkk_]; exact hB.bd) | (rw [if_neg (by omega), if_neg (by omega), if_pos hkk_]; exact hB.bd) | (rw [if_neg (by omega), if_neg (by omega), if_neg (by omega), if_pos hkk_]; exact hB.bd) | (rw [if_neg (by omega), if_neg (by omega), if_neg (by omega), if_neg (by omega)]; exact hB.bd)
theorem value_c (x : Tree) : ValC x := Tree.ind (Q := ValC) (fun k t ks xs ih m ind d w0 B pb s cs hBd hG h8 hX hok hn hd hd2 hl => by
  obtain ⟨A, c, B_, e, rfl, -, -, -, hXs⟩ := hX.tree_inv
  have h1 := hXs.slice_len
  exact value_node k t ks xs ih m ind d w0 B pb s A B_ c e hBd hG h8 hX hok hn hd hd2 (by omega) hl) x
end Go.Scarf
namespace Go.Scarf
open Go.RowKit Go.Proofs
theorem decimal_ne {t : Str} (h : decimalB t = true) : t ≠ [] := by
  rintro rfl
  revert h
  decide
theorem valS_ne (m : Bool) (ind : Nat) (x : Tree) (d : Nat) (h : rightB x = true) : valS m ind x d ≠ [] := by
  obtain ⟨k, t, ks, xs⟩ := x
  unfold rightB at h
  rw [Bool.and_eq_true] at h
  have h1 := (allT_node h.2).1
  unfold rnodeB at h1
  rw [Bool.and_eq_true, decide_eq_true_eq] at h1
  obtain ⟨h7, h1⟩ := h1
  have h7' : k ≠ 7 := h7
  rw [valS]
  split
  · simp
  split
  · rename_i h4
    subst h4
    simp [nodeB] at h1
    rw [qS, if_pos h1.2]; simp [quoteS]
  split
  · simp [itemsS]
  split
  · simp [itemsS]
  · rename_i g1 g4 g5 g6
    simp only [nodeB, if_neg g5, if_neg g6, if_neg g1, if_neg g4, if_neg h7'] at h1
    split at h1
    · cases h1
    split at h1
    · rw [Bool.or_eq_true, decide_eq_true_eq, decide_eq_true_eq] at h1
      rcases h1 with rfl | rfl <;> simp
    split at h1
    · exact decimal_ne h1
    · cases h1
theorem right_all {x : Tree} (h : rightB x = true) : allT nodeB x = true := by
  unfold rightB at h
  rw [Bool.and_eq_true] at h
  refine Tree.ind (Q := fun x => allT rnodeB x = true → allT nodeB x = true) (fun k t ks xs ih h => ?_) x h.2
  rw [allT, Bool.and_eq_true] at h ⊢
  have h1 := h.1
  unfold rnodeB at h1
  rw [Bool.and_eq_true] at h1
  refine ⟨h1.2, ?_⟩
  have key : ∀ ys : List Tree, (∀ y ∈ ys, y ∈ xs) → allTs rnodeB ys = true → allTs nodeB ys = true := by
    intro ys
    induction ys with
    | nil => intro _ _; rfl
    | cons y ys ihy =>
      intro hm hs
      rw [allTs, Bool.and_eq_true] at hs ⊢
      exact ⟨ih y (hm y (by simp)) hs.1, ihy (fun z hz => hm z (by simp [hz])) hs.2⟩
  exact key xs (fun _ h => h) h.2
theorem right_depth {x : Tree} (h : rightB x = true) : depthT x ≤ 32 := by
  unfold rightB sizedB at h
  simp only [Bool.and_eq_true, decide_eq_true_eq] at h
  exact h.1.2
set_option maxHeartbeats 2000000 in
set_option maxRecDepth 10000 in
theorem compact_c (x : Tree) (S : Nat → Prop) (w0 : World) (cs : List Value) (rx : Rep S w0 (treeD x) cs) (hG : Gl w0) (hk : okT x) (hq : okQ x) (hsz : sizeT x ≤ 1000000000) (hlim : rightB x = true → (valS false 0 x 0).length ≤ 140737488355328) : Calls Tryz.prog 69 #[.agg cs.toArray] w0 (Ret fun v w' => v = (if rightB x = true then .tuple #[.string (bs (valS false 0 x 0)), .int .i64 0] else .tuple #[.string (bs []), .int .i64 1]) ∧ Same [] w0 w') := by
 have hl : cs.length = 4 := rx.length.trans (size_treeD x)
 have ho := rx.one_
 refine calls_start Tryz.func69 rfl Tryz.ntmps69 (Nat.le_of_ble_eq_true rfl) (args_1 _) ?_
 have hF := FR.start w0 []
 refine c_seq (c_region ?_)
 refine o_box (v := .agg (List.toArray cs)) (cs := (List.toArray cs)) hF rfl rfl ?_
 clear hF; rintro b1 w hb1 hF -
 refine o_val (x_assign rfl) (o_val (x_assign rfl) (o_nil (e_seq (c_seq (c_seq (c_region (o_val (v := .agg (List.toArray cs)) (x_loadS (l := cs) Tryz.isAgg25 Tryz.sizeOf25 rfl hl (hF.cellsAll 0 rfl)) ?_)))))))
 refine o_call (right_v x (by omega) _ _ _ (hF.rep rx) hk (hG.ext hF.same)) (x_call1 en_26 rfl rfl) ?_
 rintro _ w ⟨rfl, hE⟩
 replace hF := hF.ext hE
 clear hE
 refine o_val (v := .bool (!(rightB x))) (x_not rfl) (o_nil (e_seq ?_))
 refine c_split (d := 7) (b := !(rightB x)) rfl (fun hc0 => ?_) (fun hc0 => ?_)
 refine c_ift rfl (c_seq (c_region (o_val (x_assign rfl) (o_val (x_assign rfl) (o_nil (e_seq ?_))))))
 refine c_ret (e_ret (post_ret (res_2 (v := .string (bs ([]))) (x := .int .i64 (1)) rfl rfl rfl) ?_))
 exact ⟨by rw [if_neg (by simpa using hc0)], hF.same⟩
 refine c_iff rfl (c_skip (e_seq (c_seq (c_region ?_))))
 refine o_alloc (cs := #[.pointer none, .slice (none) (0) (0), .bool false, .int .i64 (0)]) hF Tryz.zeroValue124 rfl ?_
 clear hF; rintro b2 w hb2 hF -
 refine o_nil (e_seq (c_seq (c_region (o_val (v := .agg (List.toArray cs)) (x_loadS (l := cs) Tryz.isAgg25 Tryz.sizeOf25 rfl hl (hF.cellsAll 1 rfl)) ?_))))
 have hB : BW w0 [] w b2 b2 124 [.bool false, .int .i64 ((0 : Nat) : Int)] [] := BW.own ⟨.inr ⟨rfl, _, _, rfl⟩, Nat.le_refl _, _, _, hF.heap (i := 0) rfl, World.ownsRow_nil _ _ _ _, .inl rfl⟩ (hF.ge (i := 0) rfl) hF.same.size
 have nb1 : b1 ≠ b2 := desc_ne hF.desc (i := 1) (j := 0) rfl rfl (by decide)
 have hge := hF.ge (i := 0) rfl
 replace hF : FR w0 [] [(b1, .cells cs.toArray 25)] w := hF.drop 1
 have hXo : Rep (fun b => b ∉ Wk w b2 b2) w (treeD x) cs := (rx.old.same hF.same (by simp)).weaken fun b hb _ hm => by have h1 := hb.2; rcases mem_Wk.1 hm with rfl | ⟨-, h2, -⟩ <;> omega
 refine o_call (value_c x false 0 0 _ b2 b2 [] cs hB.bd (hG.ext hF.same) (by have := hG.size; omega) hXo hq (right_all (by simpa using hc0)) (by omega) (by have := right_depth (x := x) (by simpa using hc0); omega) (by simpa using hlim (by simpa using hc0))) (x_call3 en_89 rfl rfl rfl rfl) ?_
 rintro _ w ⟨rfl, hBd2, hE⟩
 replace hF := hF.wrote hB hE (by simp [rowO, nb1])
 replace hB := hB.wrote hBd2 hE
 clear hBd2 hE
 refine o_nil (e_seq (c_seq (c_region (o_val (v := .pointer (some ⟨b2, 0, none⟩)) (x_fieldAddrO fa_124_0 rfl) ?_))))
 refine o_call (string_c hB.bd (by simpa using valS_ne false 0 x 0 (by simpa using hc0))) (x_call1 en_90 rfl rfl) ?_
 rintro _ w ⟨rfl, hE⟩
 replace hF := hF.wrote hB hE (by simp [rowO, nb1])
 clear hE
 refine o_val (x_assign rfl) (o_val (x_assign rfl) (o_nil (e_seq ?_)))
 refine c_ret (e_ret (post_ret (res_2 (v := .string (bs ([] ++ valS false 0 x 0))) (x := .int .i64 (0)) rfl rfl rfl) ?_))
 exact ⟨by rw [if_pos (by simpa using hc0)]; rfl, hF.same⟩
end Go.Scarf
