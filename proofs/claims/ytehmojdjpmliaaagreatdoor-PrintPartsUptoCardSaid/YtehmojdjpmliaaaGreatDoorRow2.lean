/- A part of the proof. -/
import Derived.Test.YtehmojdjpmliaaaGreatDoorRow
import Derived.Test.YtehmojdjpmliaaaGreatDoorP3
import Derived.JoinedCond
set_option linter.all false
namespace Go.Scarf
open Go.RowKit Go.Proofs Go.Proofs.YtehmojdjpmliaaaGreatDoor
mutual
def bulkT : Tree → Nat | .node _ t ks xs => 1 + t.length + (ks.map List.length).sum + bulkTs xs
def bulkTs : List Tree → Nat | [] => 0 | x :: xs => bulkT x + bulkTs xs
end
theorem bulkTs_sum : ∀ xs, bulkTs xs = (xs.map bulkT).sum
  | [] => rfl
  | x :: xs => by rw [bulkTs, bulkTs_sum xs]; rfl
theorem bulkTs_mem : ∀ {xs : List Tree} {x : Tree}, x ∈ xs → bulkT x ≤ bulkTs xs
  | y :: ys, x, h => by
    rw [bulkTs]
    rcases List.mem_cons.1 h with rfl | h
    · omega
    · have := bulkTs_mem h; omega
theorem lens_mem : ∀ {ks : List Str} {k : Str}, k ∈ ks → k.length ≤ (ks.map List.length).sum
  | y :: ys, x, h => by
    rw [List.map_cons, List.sum_cons]
    rcases List.mem_cons.1 h with rfl | h
    · omega
    · have := lens_mem h; omega
theorem bulk_size (x : Tree) : sizeT x ≤ bulkT x := Tree.ind (Q := fun x => sizeT x ≤ bulkT x) (fun k t ks xs ih => by
  have key : ∀ ys : List Tree, (∀ y ∈ ys, y ∈ xs) → sizeTs ys ≤ bulkTs ys := by
    intro ys
    induction ys with
    | nil => intro _; rw [sizeTs, bulkTs]; exact Nat.le_refl _
    | cons y ys ihy =>
      intro hm
      rw [sizeTs, bulkTs]
      exact Nat.add_le_add (ih y (hm y (by simp))) (ihy fun z hz => hm z (by simp [hz]))
  rw [sizeT, bulkT]
  have := key xs fun _ h => h
  omega) x
theorem bulk_max (x : Tree) : maxL x ≤ bulkT x := Tree.ind (Q := fun x => maxL x ≤ bulkT x) (fun k t ks xs ih => by
  rw [maxL, bulkT]
  have h1 : maxKs ks ≤ (ks.map List.length).sum := maxKs_le fun k hk => lens_mem hk
  have h2 : maxLs xs ≤ bulkTs xs := maxLs_le fun y hy => Nat.le_trans (ih y hy) (bulkTs_mem hy)
  omega) x
theorem range_sum_le : ∀ (L : List Nat) (f : Nat → Nat), (∀ i (h : i < L.length), f i ≤ L[i]) → ((List.range L.length).map f).sum ≤ L.sum
  | [], f, _ => by simp
  | a :: L, f, h => by
    rw [List.length_cons, List.range_succ_eq_map, List.map_cons, List.map_map, List.sum_cons, List.sum_cons]
    have h0 := h 0 (by simp)
    have := range_sum_le L (f ∘ Nat.succ) (fun i hi => h (i + 1) (by simpa using hi))
    simp at h0
    exact Nat.add_le_add h0 this
set_option maxRecDepth 100000
set_option linter.all false
section
variable {H : Type} {enc : TypeId × Value → H} {W : World} {base : Nat} {sp : Nat → Bool} {held : Bool}
open Go.ChangeShapes Go.WideShapes Go.ChangeAt Go.Lib Go.Shelf Go.WideMaps Go.ChangeMaps
theorem bulkAll_sum : ∀ l : List (DataW H), Rows.uptoBulkAll l = (l.map Rows.uptoBulk).sum
  | [] => by simp [Rows.uptoBulkAll]
  | d :: l => by rw [Rows.uptoBulkAll, bulkAll_sum l]; rfl
theorem slice_ofB {t e : TypeId} {m : Nat} {fuel : Nat} {cs : List Value} {x : DataW H × List MemPlace} {α : Type} [Inhabited α] {g : α → D} {wt : α → Nat} (ht : Tryz.prog.underlying t = some (.slice e)) (hC : Tryz.prog.cellsOf e = m)
    (hel : ∀ n, n < fuel → ∀ cs x, DataW.trod enc Tryz.prog W base sp held n e cs = some x → ∃ a : α, Rep (fun _ => True) W (g a) cs ∧ wt a ≤ Rows.uptoBulk x.1) (h : DataW.trod enc Tryz.prog W base sp held fuel t cs = some x) :
    ∃ l : List α, Rep (fun _ => True) W (.slice (l.map g)) cs ∧ (l.map wt).sum ≤ Rows.uptoBulk x.1 := by
  rcases DataW.trod_slice ht h with ⟨rfl, rfl⟩ | ⟨a, len, cap, elems, rest, n, hn, rfl, rfl, hb, hl, hm, hlen, hall, -, -⟩
  · exact ⟨[], Rep.nil_slice 0 (by omega) none, by simp⟩
  · have hi : ∀ i, i < len → ∃ al : α, (∃ cs', W.cells? base (a.add (i * m)) m = some cs' ∧ Rep (fun _ => True) W (g al) cs') ∧ wt al ≤ ((elems.map (·.1)).map Rows.uptoBulk).getD i 0 := by
      intro i hi
      have h1 := hall i hi
      have h2 : elems[i]? = some (elems[i]'(by omega)) := List.getElem?_eq_getElem (by omega)
      rw [h2, hC, Option.bind_eq_some_iff] at h1
      obtain ⟨cs', h3, h4⟩ := h1
      obtain ⟨al, hr, hw⟩ := hel n (by omega) _ _ h4
      exact ⟨al, ⟨cs', h3, hr⟩, by rw [List.getD_eq_getElem?_getD, List.getElem?_map, List.getElem?_map, h2]; exact hw⟩
    obtain ⟨f, hf⟩ := choose_below len hi
    obtain ⟨es, -, hc, hr⟩ := rows_of hC len (fun i => g (f i)) (fun i hi => (hf i hi).1)
    refine ⟨(List.range len).map f, ?_, ?_⟩
    · rw [List.map_map]; exact Rep.slice_mk (by simp) hl hm (fun _ => ⟨a, rfl, es, hc, hr⟩)
    · rw [List.map_map, Rows.uptoBulk, bulkAll_sum]
      have hlen2 : ((elems.map (·.1)).map (Rows.uptoBulk (H := H))).length = len := by rw [List.length_map, List.length_map, hlen]
      have := range_sum_le ((elems.map (·.1)).map Rows.uptoBulk) (wt ∘ f) (fun i hi => by
        have h3 := (hf i (by rw [hlen2] at hi; exact hi)).2
        rwa [List.getD_eq_getElem?_getD, List.getElem?_eq_getElem hi, Option.getD_some] at h3)
      rw [hlen2] at this
      omega
theorem text_ofB {fuel : Nat} {cs : List Value} {x : DataW H × List MemPlace} (h : DataW.trod enc Tryz.prog W base sp held fuel 9 cs = some x) : ∃ s : Str, Rep (fun _ => True) W (strD s) cs ∧ s.length ≤ Rows.uptoBulk x.1 := by
  obtain ⟨s, rfl, rfl, hs⟩ := DataW.trod_string Tryz.underlying9 h
  refine ⟨s.data.toList, ?_, ?_⟩
  · have e : [Value.string s] = [.string (bs s.data.toList)] := by rw [← bs_of]
    rw [e]
    exact Rep.lit_mk (by show s.data.toList.length ≤ _; rw [Array.length_toList]; exact hs)
  · rw [Rows.uptoBulk]; exact Nat.le_succ _
theorem tree_ofB : ∀ (fuel : Nat) (cs : List Value) (x : DataW H × List MemPlace), DataW.trod enc Tryz.prog W base sp held fuel 25 cs = some x → ∃ t : Tree, Rep (fun _ => True) W (treeD t) cs ∧ bulkT t ≤ Rows.uptoBulk x.1 := by
  intro fuel
  induction fuel using Nat.strongRecOn with
  | _ fuel ih =>
    intro cs x h
    obtain ⟨xs, n, rfl, rfl, hcl, hxl, hf⟩ := DataW.trod_struct Tryz.underlying25 h
    rw [cs25] at hcl
    obtain ⟨y0, y1, y2, y3, rfl⟩ : ∃ y0 y1 y2 y3, xs = [y0, y1, y2, y3] := by
      have hxl' : xs.length = 4 := hxl
      match xs, hxl' with
      | [a, b, c, d], _ => exact ⟨a, b, c, d, rfl⟩
    have h0 := hf 0 _ rfl
    have h1 := hf 1 _ rfl
    have h2 := hf 2 _ rfl
    have h3 := hf 3 _ rfl
    obtain ⟨k, hk⟩ := num_of_ (x := y0) h0
    obtain ⟨t, ht, wt⟩ := text_ofB (x := y1) h1
    obtain ⟨ks, hks, wks⟩ := slice_ofB (x := y2) (g := strD) (wt := List.length) Tryz.underlying22 cs9 (fun n _ cs x h => text_ofB h) h2
    obtain ⟨ys, hys, wys⟩ := slice_ofB (x := y3) (g := treeD) (wt := bulkT) Tryz.underlying23 cs25 (fun m hm cs x h => ih m (by omega) cs x h) h3
    refine ⟨.node k t ks ys, ?_, ?_⟩
    · have e : cs = (cs.drop 0).take (Tryz.prog.cellsOf 3) ++ ((cs.drop 1).take (Tryz.prog.cellsOf 9) ++ ((cs.drop 2).take (Tryz.prog.cellsOf 22) ++ ((cs.drop 3).take (Tryz.prog.cellsOf 23) ++ []))) := by
        rw [cs3, cs9, cs22, cs23]
        match cs, hcl with
        | [a, b, c, d], _ => rfl
      rw [e]
      unfold treeD
      rw [← treesD_eq] at hys
      exact Rep.agg_mk (RepL.cons_mk hk (RepL.cons_mk ht (RepL.cons_mk hks (RepL.cons_mk hys RepL.nil_mk))))
    · rw [bulkT, bulkTs_sum]
      simp only [List.map_cons, List.map_nil, Rows.uptoBulk, Rows.uptoBulkAll]
      omega
theorem open_treeB {r : Reach} {b0 : Nat} {v : Value} {d : DataW H} {q : List MemPlace} (hv : Value.okWide Tryz.prog W r b0 25 v) (h : DataW.Trod enc Tryz.prog W base sp held 25 v d q) :
    ∃ (t : Tree) (cs : List Value), v = .agg cs.toArray ∧ Rep (fun _ => True) W (treeD t) cs ∧ bulkT t ≤ Rows.uptoBulk d := by
  obtain ⟨cs, rfl, -⟩ := okWide_struct Tryz.underlying25 hv
  obtain ⟨fuel, hf⟩ := h
  obtain ⟨t, ht, hw⟩ := tree_ofB fuel _ _ hf
  exact ⟨t, cs.toList, rfl, ht, hw⟩
end
theorem handed_cond {H : Type} {enc : TypeId × Value → H} {C : Checked} {os : Os} {f : FuncId} {fn : Func} {s : OpenSpec} {k : (H : Type) → List (DataW H) → Bool} (hk : s.cond = some k) {F : Stop.Interp} {apart fresh handsOn again : Bool} {X : World → Prop}
    (hX : ∀ (w w' : World), w.heap = w'.heap → X w → X w')
    (own : ownKnob C.prog.godebug = none) (started : os.Started) (noInit : C.prog.inits.idxOf? f = none) (hfn : C.prog.funcs[f]? = some fn)
    (w0 : World) (args0 : Array Value) (fuel : Nat) (hos : w0.os = os) (hsh : (w0.forCall (fun _ _ => 0) ⟨#[], args0, []⟩).Shaped C.prog)
    (hok : Input.okWideB C.prog (w0.forCall (fun _ _ => 0) ⟨#[], args0, []⟩) f ⟨#[], args0, []⟩ = true)
    {x : List (DataW H) × List (DataW H) × List MemPlace} (hx : DataW.whole enc C.prog (w0.forCall (fun _ _ => 0) ⟨#[], args0, []⟩).memory fn.params.toList s.vars apart args0.toList fuel = some x) (hkk : k H (x.1 ++ x.2.1) = true)
    (hsz : s.bare.sizedB enc C.prog fn apart (w0.forCall (fun _ _ => 0) ⟨#[], args0, []⟩).memory args0 fuel = true) (hxx : X (w0.forCall (fun _ _ => 0) ⟨#[], args0, []⟩).memory)
    (contract : ∀ (W : World) (base : Nat) (args : Array Value) (ds gs : List (DataW H)) (before : List MemPlace),
      (∀ (j : Nat) t v, fn.params[j]? = some t → args[j]? = some v → Value.okWide C.prog W .any base t v) →
      DataW.Whole enc C.prog fn.params.toList s.vars apart W args.toList ds gs before → k H (ds ++ gs) = true → X W →
      Calls C.prog f args W fun e W' => ∃ v, e = .returned v ∧ (s.at F).post enc C.prog fn apart fresh handsOn again W args v W') :
    ReturnsInHanded {} C os f .any (fun w args => (s.pre enc C.prog fn [] apart w args ∧ X w) ∧ sizedMet enc C.prog fn s apart w args) ((s.at F).post enc C.prog fn apart fresh handsOn again) := by
  refine returnsInHanded_of_calls own started noInit ⟨w0, fun _ _ => 0, ⟨#[], args0, []⟩, hos, hsh, (Input.okWide_of_okWideB (base := 0) hok).1, (Input.okWide_of_okWideB hok).2,
    ⟨⟨(OpenSpec.pre_some hk [] apart _ _).2 ⟨x.1, x.2.1, x.2.2, DataW.Whole_of_whole hx, rfl, hkk⟩, hxx⟩, sizedMet_of_sizedB hsz⟩, ?_⟩ ?_
  · simp only [Assume.holds]
    exact ⟨by simp, by simp, fun _ => Modest.zero, by simp, by simp⟩
  · intro w tape i _ _ _ hok hpre hholds
    obtain ⟨_, _, _, fn', hfn', _, _, _, _, hval⟩ := hok
    have e : fn' = fn := Option.some.inj (hfn'.symm.trans hfn)
    subst e
    obtain ⟨⟨hp, hx⟩, hz⟩ := hpre
    obtain ⟨ds, gs, before, hw, -, hkk⟩ := (OpenSpec.pre_some hk [] apart _ _).1 hp
    have hw' := DataW.Whole.of_heap (w' := w.forCall tape i) (by rfl) hw
    refine (contract (w.forCall tape i) w.heap.size i.args ds gs before hval hw' hkk (hX _ _ (by rfl) hx)).mono fun e W' ⟨v, he, hp⟩ => ?_
    subst he
    exact ChangeSpec.post_blind hp
end Go.Scarf
