/- A part of the proof. -/
import Derived.Test.YtpliibolgknenaaGreatDoorTie
import Derived.Test.YtpliibolgknenaaGreatDoorMem
import Derived.Test.YtpliibolgknenaaGreatDoorShelf2
import Derived.Test.YtpliibolgknenaaGreatDoorW1
import Derived.ProofKit
import Derived.Shelf.Lay
import Derived.PinnedBridge
import Derived.Lay
import Derived.LaidOnce
import Derived.SevenTiedAt
import Derived.Lib.LaidU8T
import Derived.Lib.LaidTab
import Derived.Deep.Slices
import Derived.WideKeyArgs
import Derived.Below
set_option linter.all false
namespace Go.Scarf
open Go.RowKit Go.Proofs
set_option maxRecDepth 100000
section
variable {H : Type} {enc : TypeId × Value → H} {W : World} {base : Nat} {sp : Nat → Bool} {held : Bool}
open Go.ChangeShapes Go.WideShapes Go.ChangeAt Go.Lib Go.Shelf Go.WideMaps Go.ChangeMaps
theorem wf_i64 {n : Int} (h : (Lit.int .i64 n).wf = true) : -9223372036854775808 ≤ n ∧ n ≤ 9223372036854775807 := by
  simpa [Lit.wf, IntKind.min, IntKind.max, IntKind.signed, IntKind.bits] using h
theorem cs9 : Tryz.prog.cellsOf 9 = 1 := by kernel_rfl
theorem cs3 : Tryz.prog.cellsOf 3 = 1 := by kernel_rfl
theorem bs_of (s : ByteArray) : s = bs s.data.toList := by cases s; rfl
theorem rows_of {e : TypeId} {m : Nat} {w : World} {ad : Addr} (hC : Tryz.prog.cellsOf e = m) : ∀ (len : Nat) (g : Nat → D), (∀ i, i < len → ∃ cs, w.cells? base (ad.add (i * m)) m = some cs ∧ Rep (fun _ => True) w (g i) cs) →
    ∃ es : List Value, es.length = len * m ∧ CellsAt (fun _ => True) w ad es ∧ RepL (fun _ => True) w ((List.range len).map g) es
  | 0, g, _ => ⟨[], by simp, fun i hi => absurd hi (by simp), RepL.nil_mk⟩
  | len + 1, g, h => by
    obtain ⟨es, hl, hc, hr⟩ := rows_of hC len g (fun i hi => h i (by omega))
    obtain ⟨cs, h1, h2⟩ := h len (by omega)
    obtain ⟨_, hcl, hat⟩ := World.cells?_some h1
    refine ⟨es ++ cs, by rw [List.length_append, hl, hcl, Nat.add_mul, Nat.one_mul], fun i hi => ⟨?_, trivial⟩, ?_⟩
    · by_cases hi' : i < es.length
      · rw [List.getElem_append_left hi']; exact (hc i hi').1
      · have hi2 : i - es.length < cs.length := by rw [List.length_append] at hi; omega
        rw [List.getElem_append_right (by omega)]
        have := hat (i - es.length) (by omega)
        rw [add_of_add, ← hl] at this
        rw [show es.length + (i - es.length) = i by omega] at this
        rw [this]; exact List.getElem?_eq_getElem hi2
    · rw [List.range_succ, List.map_append]
      exact RepL.append hr (by have := RepL.cons_mk h2 RepL.nil_mk; rw [List.append_nil] at this; exact this)
theorem choose_below {α : Type} [Inhabited α] {P : Nat → α → Prop} : ∀ (n : Nat), (∀ i, i < n → ∃ a, P i a) → ∃ f : Nat → α, ∀ i, i < n → P i (f i)
  | 0, _ => ⟨fun _ => default, fun i hi => absurd hi (by omega)⟩
  | n + 1, h => by
    obtain ⟨f, hf⟩ := choose_below n (fun i hi => h i (by omega))
    obtain ⟨a, ha⟩ := h n (by omega)
    refine ⟨fun i => if i = n then a else f i, fun i hi => ?_⟩
    by_cases e : i = n
    · subst e; simpa using ha
    · simp only [e, if_false]; exact hf i (by omega)
theorem slice_of {t e : TypeId} {m : Nat} {fuel : Nat} {cs : List Value} {x : DataW H × List MemPlace} {α : Type} [Inhabited α] {g : α → D} (ht : Tryz.prog.underlying t = some (.slice e)) (hC : Tryz.prog.cellsOf e = m)
    (hel : ∀ n, n < fuel → ∀ cs x, DataW.trod enc Tryz.prog W base sp held n e cs = some x → ∃ a : α, Rep (fun _ => True) W (g a) cs) (h : DataW.trod enc Tryz.prog W base sp held fuel t cs = some x) :
    ∃ l : List α, Rep (fun _ => True) W (.slice (l.map g)) cs := by
  rcases DataW.trod_slice ht h with ⟨rfl, -⟩ | ⟨a, len, cap, elems, rest, n, hn, rfl, -, hb, hl, hm, hlen, hall, -, -⟩
  · exact ⟨[], Rep.nil_slice 0 (by omega) none⟩
  · have hi : ∀ i, i < len → ∃ al : α, ∃ cs', W.cells? base (a.add (i * m)) m = some cs' ∧ Rep (fun _ => True) W (g al) cs' := by
      intro i hi
      have h1 := hall i hi
      have h2 : elems[i]? = some (elems[i]'(by omega)) := List.getElem?_eq_getElem (by omega)
      rw [h2, hC, Option.bind_eq_some_iff] at h1
      obtain ⟨cs', h3, h4⟩ := h1
      obtain ⟨al, hr⟩ := hel n (by omega) _ _ h4
      exact ⟨al, cs', h3, hr⟩
    obtain ⟨f, hf⟩ := choose_below len hi
    obtain ⟨es, -, hc, hr⟩ := rows_of hC len (fun i => g (f i)) hf
    refine ⟨(List.range len).map f, ?_⟩
    rw [List.map_map]
    exact Rep.slice_mk (by simp) hl hm (fun _ => ⟨a, rfl, es, hc, hr⟩)
theorem text_of {fuel : Nat} {cs : List Value} {x : DataW H × List MemPlace} (h : DataW.trod enc Tryz.prog W base sp held fuel 9 cs = some x) : ∃ s : Str, Rep (fun _ => True) W (strD s) cs := by
  obtain ⟨s, rfl, -, hs⟩ := DataW.trod_string Tryz.underlying9 h
  refine ⟨s.data.toList, ?_⟩
  have e : [Value.string s] = [.string (bs s.data.toList)] := by rw [← bs_of]
  rw [e]
  exact Rep.lit_mk (by show s.data.toList.length ≤ _; rw [Array.length_toList]; exact hs)
theorem num_of_ {fuel : Nat} {cs : List Value} {x : DataW H × List MemPlace} (h : DataW.trod enc Tryz.prog W base sp held fuel 3 cs = some x) : ∃ n : Int, Rep (fun _ => True) W (intD n) cs := by
  obtain ⟨n, rfl, -, hn⟩ := DataW.trod_int Tryz.underlying3 h
  exact ⟨n, Rep.lit_mk ⟨(wf_i64 hn).1, (wf_i64 hn).2⟩⟩
instance : Inhabited Tree := ⟨.node 0 [] [] []⟩
theorem laidOut_ : laidOutB Tryz.prog = true := by kernel_rfl
theorem stays_ {W' : World} {t : TypeId} (hr : Tryz.prog.readableRec t = true) (hrow : t < Tryz.prog.types.size) {v : Value} {d : DataW H} {ps : List MemPlace} (hb : Below W.heap.size W W') (hlt : ∀ p ∈ ps, p.block < W.heap.size)
    (h : DataW.Trod enc Tryz.prog W 0 (fun _ => true) true t v d ps) : DataW.Trod enc Tryz.prog W' 0 (fun b => decide (b < W.heap.size)) true t v d ps :=
  WideElems.Trod_stays laidOut_ hr hrow h (fun p hp => hb.same (hlt p hp)) (fun p hp => by simpa using hlt p hp)
end
section
open Go.Lib Go.Shelf Go.Proofs.YtpliibolgknenaaGreatDoor
def laidL : List (String × DataW Unit) := [("math/bits.deBruijn32tab", Rows.laid_math_bits_deBruijn32tab), ("math/bits.deBruijn64tab", Rows.laid_math_bits_deBruijn64tab), ("internal/strconv.uint64pow10", Rows.laid_internal_strconv_uint64pow10), ("unicode/utf8.acceptRanges", Rows.laid_unicode_utf8_acceptRanges), ("strconv.ErrRange", Rows.laid_strconv_ErrRange), ("strconv.ErrSyntax", Rows.laid_strconv_ErrSyntax), ("unicode/utf8.first", Rows.laid_unicode_utf8_first)]
theorem u8x : U8Extra Tryz.prog Tryz.lays196_ren := ⟨by kernel_rfl, by kernel_rfl, by kernel_rfl, by kernel_rfl, by kernel_rfl, by kernel_rfl, by kernel_rfl⟩
theorem heap_of_var {W : World} {n : String} {g : Nat} {cs : Array Value} (hg : Tryz.prog.globalNamed n = some g) (h : World.var? Tryz.prog W n = some cs) : ∃ e fz, W.heap[g]? = some (.cells cs e fz) := by
  unfold World.var? at h
  rw [hg] at h
  simp only [Option.bind_some] at h
  split at h
  · rename_i cs' e fz hh
    injection h with h
    subst h
    exact ⟨e, fz, hh⟩
  · cases h
theorem iface_of {enc : TypeId × Value → Unit} {W : World} {base fuel : Nat} {sp : Nat → Bool} {t : TypeId} {cs : List Value} {nm : String} {d : DataW Unit} {q : List MemPlace} (ht' : ∃ ms, Tryz.prog.underlying t = some (.interface ms))
    (h : DataW.trod enc Tryz.prog W base sp false fuel t cs = some (.iface nm d, q)) : ∃ u v, cs = [.iface u v] := by
  obtain ⟨ms, ht⟩ := ht'
  cases fuel with
  | zero => simp [DataW.trod] at h
  | succ fuel =>
    unfold DataW.trod at h
    rw [ht] at h
    split at h <;> first | (cases h; done) | (simp at h; done) | skip
    all_goals first | exact ⟨_, _, rfl⟩ | (simp_all; done)
theorem gl_of_laid {W : World} (h : laidMetH Tryz.prog laidL W) : Gl W := by
  rw [MakeChecks.laidMetH_plain _ _ _ (by kernel_rfl)] at h
  have r : ∀ n d, (n, d) ∈ laidL → VarReads Tryz.prog W n d := fun n d hm => Lib.laidMet.reads h hm
  have hT := utf8Tabs_of_readsT (U8Types.of196 Tryz.lays196) u8x (w := W) (Pinned.utf8First_eq ▸ r "unicode/utf8.first" _ (by simp [laidL, Rows.laid_unicode_utf8_first])) ((by kernel_rfl : Rows.laid_unicode_utf8_acceptRanges = acceptData) ▸ r "unicode/utf8.acceptRanges" _ (by simp [laidL]))
  refine ⟨?_, hT, ?_, ?_, ?_, ?_⟩
  · obtain ⟨g, t, cs, fuel, q, hg, hty, hvar, hd⟩ := r "math/bits.deBruijn64tab" Rows.laid_math_bits_deBruijn64tab (by simp [laidL])
    obtain rfl := Option.some.inj ((show Tryz.prog.globalNamed "math/bits.deBruijn64tab" = some 6 by kernel_rfl).symm.trans hg)
    obtain ⟨e, fz, hh⟩ := heap_of_var hg hvar
    have := lt_of_some hh
    omega
  · obtain ⟨g, t, cs, fuel, q, hg, hty, hvar, hd⟩ := r "internal/strconv.uint64pow10" Rows.laid_internal_strconv_uint64pow10 (by simp [laidL])
    obtain rfl := Option.some.inj ((show Tryz.prog.globalNamed "internal/strconv.uint64pow10" = some 2 by kernel_rfl).symm.trans hg)
    obtain rfl := Option.some.inj ((show (Tryz.prog.globals[2]?).map (·.type) = some 206 by kernel_rfl).symm.trans hty)
    have hcs := cells_of_tab (zs := Lib.pow10Tab) (k := .u64) Tryz.underlying206 Tryz.underlying173 (by kernel_rfl) (by kernel_rfl) ((by kernel_rfl : (Rows.laid_internal_strconv_uint64pow10 : DataW Unit) = tabData .u64 Lib.pow10Tab) ▸ hd)
    obtain ⟨e, fz, hh⟩ := heap_of_var hg hvar
    refine ⟨e, fz, ?_⟩
    rw [hh, ← hcs]
  · obtain ⟨g, t, cs, fuel, q, hg, hty, hvar, hd⟩ := r "strconv.ErrRange" Rows.laid_strconv_ErrRange (by simp [laidL])
    obtain rfl := Option.some.inj ((show Tryz.prog.globalNamed "strconv.ErrRange" = some 4 by kernel_rfl).symm.trans hg)
    obtain rfl := Option.some.inj ((show (Tryz.prog.globals[4]?).map (·.type) = some 149 by kernel_rfl).symm.trans hty)
    obtain ⟨u, v, hcs⟩ := iface_of ⟨_, Tryz.underlying149⟩ hd
    obtain ⟨e, fz, hh⟩ := heap_of_var hg hvar
    refine ⟨u, v, e, fz, ?_⟩
    rw [hh]; congr 1; congr 1
    exact Array.toList_inj.1 hcs
  · obtain ⟨g, t, cs, fuel, q, hg, hty, hvar, hd⟩ := r "strconv.ErrSyntax" Rows.laid_strconv_ErrSyntax (by simp [laidL])
    obtain rfl := Option.some.inj ((show Tryz.prog.globalNamed "strconv.ErrSyntax" = some 3 by kernel_rfl).symm.trans hg)
    obtain rfl := Option.some.inj ((show (Tryz.prog.globals[3]?).map (·.type) = some 149 by kernel_rfl).symm.trans hty)
    obtain ⟨u, v, hcs⟩ := iface_of ⟨_, Tryz.underlying149⟩ hd
    obtain ⟨e, fz, hh⟩ := heap_of_var hg hvar
    refine ⟨u, v, e, fz, ?_⟩
    rw [hh]; congr 1; congr 1
    exact Array.toList_inj.1 hcs
  · obtain ⟨g, t, cs, fuel, q, hg, hty, hvar, hd⟩ := r "math/bits.deBruijn64tab" Rows.laid_math_bits_deBruijn64tab (by simp [laidL])
    obtain rfl := Option.some.inj ((show Tryz.prog.globalNamed "math/bits.deBruijn64tab" = some 6 by kernel_rfl).symm.trans hg)
    obtain rfl := Option.some.inj ((show (Tryz.prog.globals[6]?).map (·.type) = some 243 by kernel_rfl).symm.trans hty)
    have hcs := cells_of_tab (zs := bruTab) (k := .u8) Tryz.underlying243 Tryz.underlying5 (by kernel_rfl) (by kernel_rfl) ((by kernel_rfl : (Rows.laid_math_bits_deBruijn64tab : DataW Unit) = tabData .u8 bruTab) ▸ hd)
    obtain ⟨e, fz, hh⟩ := heap_of_var hg hvar
    refine ⟨e, fz, ?_⟩
    rw [hh, ← hcs]
theorem own_ : ownKnob Tryz.prog.godebug = none := by kernel_rfl
theorem wit_ (os : Os) (args : Array Value) : laidMetH Tryz.prog laidL ((World.laidAll Tryz.prog os laidL).forCall (fun _ _ => 0) ⟨#[], args, []⟩).memory := by
  rw [MakeChecks.laidMetH_plain _ _ _ (by kernel_rfl)]; exact laidMet_laidAll _ (by kernel_rfl) (by kernel_rfl)
end
end Go.Scarf
