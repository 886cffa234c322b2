/- A part of the proof. -/
import Derived.Test.YtepbomjpbdbejaaGreatDoorA5
set_option linter.all false
set_option maxHeartbeats 8000000
set_option maxRecDepth 10000
namespace Go.Scarf
open Go.RowKit Go.Proofs Go.Proofs.Tryz
def Mc (m : List (Nat × Nat)) : List (Int × Int) := m.map fun z => ((z.1 : Int), (z.2 : Int))
theorem Aw (m : List (Nat × Nat)) : (Mc m).length = m.length := by simp [Mc]
theorem Tk {m : List (Nat × Nat)} {i : Nat} (h : i < (Mc m).length) (h2 : i < m.length) : (Mc m)[i] = ((m[i].1 : Int), (m[i].2 : Int)) := by simp [Mc]
def D8 {β : Type} (f : Nat → β) (k : Nat) (v : β) : Nat → β := fun x => if x = k then v else f x
theorem Si {β : Type} (f : Nat → β) (k : Nat) (v : β) : D8 f k v k = v := if_pos rfl
theorem Ih {β : Type} {f : Nat → β} {k x : Nat} {v : β} (h : x ≠ k) : D8 f k v x = f x := if_neg h
def Ff (n size : Nat) : List (Nat × Nat) → Nat → (Nat → List Int) → Nat → List Int
  | [], j, gp => D8 gp n (gp n ++ rng j size)
  | z :: m, j, gp => Ff n size m (z.2 + 1) (D8 gp z.1 (gp z.1 ++ rng j z.2))
structure Gp (w0 w : World) (N ob jb vb : Nat) (hd : Nat → Value) (gp : Nat → List Int) (sg : Nat → List (Nat × Obj)) (j : Nat) : Prop where
  top : w.heap[ob]? = some (.cells (Zh N hd) 39)
  cj : w.heap[jb]? = some (.cells #[.int .i64 (j : Nat)] 3)
  cv : w.heap[vb]? = some (.cells #[.slice (some ⟨ob, 0, none⟩) N N] 36)
  row : ∀ g, g < N → ∃ A c, hd g = .slice A (gp g).length c ∧ SlB 3 1 A (gp g).length c (Ru (gp g)) (sg g)
  mem : ∀ g, g < N → ∀ z ∈ sg g, w.heap[z.1]? = some z.2 ∧ w0.heap.size ≤ z.1 ∧ z.1 ≠ ob ∧ z.1 ≠ jb ∧ z.1 ≠ vb
  apart : ∀ g g', g < N → g' < N → g ≠ g' → ∀ z ∈ sg g, ∀ y ∈ sg g', z.1 ≠ y.1
  new : w0.heap.size ≤ ob ∧ w0.heap.size ≤ jb ∧ w0.heap.size ≤ vb
  ne : jb ≠ ob ∧ vb ≠ ob ∧ vb ≠ jb
section
variable {w0 w w' : World} {N ob jb vb j : Nat} {hd : Nat → Value} {gp : Nat → List Int} {sg : Nat → List (Nat × Obj)}
theorem Gp.keep (h : Gp w0 w N ob jb vb hd gp sg j) {E : List Nat} (hs : Same E w w') (h1 : ob ∉ E) (h2 : jb ∉ E) (h3 : vb ∉ E) (h4 : ∀ g, g < N → ∀ z ∈ sg g, z.1 ∉ E) : Gp w0 w' N ob jb vb hd gp sg j :=
  ⟨(hs.block _ (Fa h.top) h1).trans h.top, (hs.block _ (Fa h.cj) h2).trans h.cj, (hs.block _ (Fa h.cv) h3).trans h.cv, h.row,
    fun g hg z hz => ⟨(hs.block _ (Fa (h.mem g hg z hz).1) (h4 g hg z hz)).trans (h.mem g hg z hz).1, (h.mem g hg z hz).2⟩, h.apart, h.new, h.ne⟩
theorem Gp.ext (h : Gp w0 w N ob jb vb hd gp sg j) (hs : Same [] w w') : Gp w0 w' N ob jb vb hd gp sg j := h.keep hs Ga Ga Ga (fun _ _ _ _ => by simp)
theorem Gp.setj (h : Gp w0 w N ob jb vb hd gp sg j) {k : Nat} (hs : Same [jb] w w') (hn : w'.heap[jb]? = some (.cells #[.int .i64 (k : Nat)] 3)) : Gp w0 w' N ob jb vb hd gp sg k :=
  ⟨(hs.block _ (Fa h.top) (by simpa using fun e => h.ne.1 e.symm)).trans h.top, hn, (hs.block _ (Fa h.cv) (by simpa using h.ne.2.2)).trans h.cv, h.row,
    fun g hg z hz => ⟨(hs.block _ (Fa (h.mem g hg z hz).1) (by simpa using (h.mem g hg z hz).2.2.2.1)).trans (h.mem g hg z hz).1, (h.mem g hg z hz).2⟩, h.apart, h.new, h.ne⟩
theorem Gp.fill (h : Gp w0 w N ob jb vb hd gp sg j) {g k j' : Nat} (hg : g < N) {A' : Option Addr} {c' : Nat} {sg' : List (Nat × Obj)} (h1 : w'.heap[ob]? = some (.cells (Zh N (Ro hd g (.slice A' (gp g ++ rng j k).length c'))) 39)) (h2 : w'.heap[jb]? = some (.cells #[.int .i64 (j' : Nat)] 3))
    (h3 : w'.heap[vb]? = some (.cells #[.slice (some ⟨ob, 0, none⟩) N N] 36)) (h4 : SlB 3 1 A' (gp g ++ rng j k).length c' (Ru (gp g ++ rng j k)) sg') (h5 : ∀ z ∈ sg', w'.heap[z.1]? = some z.2 ∧ z.1 ≠ ob ∧ z.1 ≠ jb ∧ z.1 ≠ vb ∧ (z.1 ∈ (sg g).map (·.1) ∨ w.heap.size ≤ z.1))
    (hs : Same ([ob, jb, vb] ++ (sg g).map (·.1)) w w') (hw : w0.heap.size ≤ w.heap.size) : Gp w0 w' N ob jb vb (Ro hd g (.slice A' (gp g ++ rng j k).length c')) (D8 gp g (gp g ++ rng j k)) (D8 sg g sg') j' := by
  have hnew : ∀ z ∈ sg', w0.heap.size ≤ z.1 := fun z hz => (h5 z hz).2.2.2.2.elim (fun hm => by obtain ⟨y, hy, e⟩ := List.mem_map.1 hm; rw [← e]; exact (h.mem g hg y hy).2.1) (fun hl => Nat.le_trans hw hl)
  have hoff : ∀ g', g' < N → g' ≠ g → ∀ y ∈ sg g', ∀ z ∈ sg', y.1 ≠ z.1 := fun g' hg' hne y hy z hz e => (h5 z hz).2.2.2.2.elim (fun hm => by obtain ⟨x, hx, e2⟩ := List.mem_map.1 hm; exact h.apart g' g hg' hg hne y hy x hx (e.trans e2.symm)) (fun hl => by have := Fa (h.mem g' hg' y hy).1; omega)
  refine ⟨h1, h2, h3, fun g' hg' => ?_, fun g' hg' z hz => ?_, fun a b ha hb hab z hz y hy => ?_, h.new, h.ne⟩
  · by_cases e : g' = g
    · subst e; rw [S5, Si, Si]; exact ⟨A', c', rfl, h4⟩
    · rw [SD e, Ih e, Ih e]; exact h.row g' hg'
  · by_cases e : g' = g
    · subst e; rw [Si] at hz; exact ⟨(h5 z hz).1, hnew z hz, (h5 z hz).2.1, (h5 z hz).2.2.1, (h5 z hz).2.2.2.1⟩
    · rw [Ih e] at hz
      have hm := h.mem g' hg' z hz
      refine ⟨(hs.block _ (Fa hm.1) fun hx => ?_).trans hm.1, hm.2⟩
      rcases List.mem_append.1 hx with hx | hx
      · simp only [List.mem_cons, List.not_mem_nil, or_false] at hx
        rcases hx with hx | hx | hx
        · exact hm.2.2.1 hx
        · exact hm.2.2.2.1 hx
        · exact hm.2.2.2.2 hx
      · obtain ⟨y, hy, e2⟩ := List.mem_map.1 hx
        exact h.apart g' g hg' hg e z hz y hy e2.symm
  · by_cases ea : a = g
    · subst ea
      rw [Si] at hz
      rw [Ih (fun q => hab q.symm)] at hy
      exact fun e => hoff b hb (fun q => hab q.symm) y hy z hz e.symm
    · rw [Ih ea] at hz
      by_cases eb : b = g
      · subst eb; rw [Si] at hy; exact hoff a ha ea z hz y hy
      · rw [Ih eb] at hy; exact h.apart a b ha hb hab z hz y hy
def E0 (N : Nat) (gp : Nat → List Int) : D := .slice ((List.range N).map fun g => .slice ((gp g).map Ze))
theorem Is {S : Nat → Prop} : ∀ (N : Nat) (d : Nat → D) (f : Nat → Value), (∀ g, g < N → Rep S w (d g) [f g]) → RepL S w ((List.range N).map d) ((List.range N).map f)
  | 0, d, f, _ => RepL.nil_mk
  | N + 1, d, f, h => by
    rw [List.range_succ, List.map_append, List.map_append]
    exact RepL.append (Is N d f fun g hg => h g by_Om) (by rw [List.map_cons, List.map_nil, List.map_cons, List.map_nil, RepL]; exact ⟨[f N], [], rfl, h N by_Om, RepL.nil_mk⟩)
theorem Gp.rep (h : Gp w0 w N ob jb vb hd gp sg j) (hN : N ≤ 1000) (hb : ∀ g, g < N → ∀ z ∈ gp g, -9223372036854775808 ≤ z ∧ z ≤ 9223372036854775807) : Rep (Btw w0 w) w (E0 N gp) [.slice (some ⟨ob, 0, none⟩) N N] := by
  refine Rep.slice_mk Ga (Nat.le_refl _) by_Om fun _ => ⟨_, rfl, (List.range N).map hd, fun i hi => ⟨?_, h.new.1, Fa h.top, _, _, h.top⟩, Is N _ _ fun g hg => ?_⟩
  · have hi' : i < N := by simpa using hi
    rw [Li, Nat.zero_add, Ob h.top, Wv hi']
    simp
  · obtain ⟨A, c, e, hS⟩ := h.row g hg
    rw [e]
    refine hS.repOf (fun z hz => ?_) (Ok (hb g hg)) Ga
    have hm := h.mem g hg z hz
    obtain ⟨cur, he⟩ := hS.typ.2 z hz
    exact ⟨hm.1, hm.2.1, Fa hm.1, cur, 3, by rw [hm.1, he]⟩
end
theorem F_ {n size B : Nat} (hs : size ≤ B) : ∀ (m : List (Nat × Nat)) (j : Nat) (gp : Nat → List Int), (∀ z ∈ m, z.2 ≤ B) → (∀ g, ∀ z ∈ gp g, (0 : Int) ≤ z ∧ z < (B : Int)) → ∀ g, ∀ z ∈ Ff n size m j gp g, (0 : Int) ≤ z ∧ z < (B : Int)
  | [], j, gp, _, h, g, z, hz => by
    rw [Ff] at hz
    by_cases e : g = n
    · subst e
      rw [Si] at hz
      rcases List.mem_append.1 hz with hz | hz
      · exact h g z hz
      · have := XH z hz; omega
    · rw [Ih e] at hz; exact h g z hz
  | y :: m, j, gp, hm, h, g, z, hz => by
    rw [Ff] at hz
    refine F_ hs m _ _ (fun x hx => hm x (by simp [hx])) (fun g' x hx => ?_) g z hz
    have hy := hm y Ga
    by_cases e : g' = y.1
    · subst e
      rw [Si] at hx
      rcases List.mem_append.1 hx with hx | hx
      · exact h _ x hx
      · have := XH x hx; omega
    · rw [Ih e] at hx; exact h g' x hx
section
variable {P : Program} {R : Exit → Act → World → Prop} {n : Nat} {k : Kt} {s : Nat → Value} {w : World} {ops rest : List Oper}
variable {ty : TypeId} {pos : String} {aft : Array Edge} {g : Option (Nat × Bool)} {w0 : World} {Ds : List Nat} {bs : List (Nat × Obj)}
theorem FH {t T : TypeId} {x y : Operand} {b off : Nat} {l l' : List Value} {u : Value} (v : Value) (hF : FR w0 Ds bs w) (hs : ∀ w, (sizeOf t).run P w = .ok 1 w) (hx : ev n s x = .pointer (some ⟨b, off, none⟩)) (hy : ev n s y = v) (hh : w.heap[b]? = some (.cells l.toArray T)) (hc : AtI off l u v l') (hD : b ∈ Ds ∨ w0.heap.size ≤ b) (hn : ∀ p ∈ bs, p.1 ≠ b)
    (h : ∀ w', FR w0 Ds bs w' → Same [b] w w' → w'.heap[b]? = some (.cells l'.toArray T) → Og P R n ops k rest s w') (hv : v.cells = #[v] := by rfl) (ho : one v = true := by rfl)
    (hw : Vb ops n s ⟨none, .store t x y, ty, pos, aft, g⟩ = true := by rfl) : Og P R n ops k (⟨none, .store t x y, ty, pos, aft, g⟩ :: rest) s w := by
  have hsp := Uh b off (fz := (0, 0)) [v] 0 w l.toArray hh
  rw [Nat.add_zero, Sz, hc.set] at hsp
  refine Ry (Nt (l := [v]) hs hx hy hv (by simpa using ho) fun i hi => ?_) (h (putCells w ⟨b, off, none⟩ 0 [v]) (hF.touch hsp.2 fun b' hb => ?_) hsp.2 hsp.1) hw
  · obtain rfl : i = 0 := by simp at hi; omega
    rw [Qm, Ob hh]
    exact ⟨⟨u, by simpa using hc.get⟩, Ei hh _⟩
  · obtain rfl := List.mem_singleton.1 hb
    exact ⟨fun h => hD.resolve_right by_Om, hn⟩
end
def O0 (n : Int) (m : List (Int × Int)) (size : Int) : Bool := Io n m && (!decide (size < 0) && (!decide ((64 : Int) < size) && (match m.getLast? with | none => true | some z => !decide (size ≤ z.2))))
def MC (n : Int) (m : List (Int × Int)) : Bool := Io n m && (match m.getLast? with | none => true | some z => !decide (z.2 = 9223372036854775807))
end Go.Scarf
namespace Go.Scarf
open Go.RowKit Go.Proofs Go.Proofs.Tryz
def Tu : List (Nat × Nat) → (Nat → Int) → Nat → Int
  | [], f => f
  | z :: m, f => Tu m (Af f z.1 (z.2 : Int))
theorem ZC {B : Int} : ∀ (m : List (Nat × Nat)) (f : Nat → Int), (∀ z ∈ m, (z.2 : Int) < B) → (∀ k, -1 ≤ f k ∧ f k < B) → ∀ k, -1 ≤ Tu m f k ∧ Tu m f k < B
  | [], f, _, h, k => h k
  | z :: m, f, hm, h, k => ZC m _ (fun y hy => hm y (by simp [hy])) (fun k' => by
    have hz := hm z Ga
    by_cases e : k' = z.1
    · subst e; rw [Dt]; omega
    · rw [Rx e]; exact h k') k
theorem N_ {w0 w : World} {b n : Nat} {f : Nat → Int} (h : w.heap[b]? = some (.cells (Gb n f) 3)) (hb : w0.heap.size ≤ b) (hn : n ≤ 1000000) (hf : ∀ k, k < n → -9223372036854775808 ≤ f k ∧ f k ≤ 9223372036854775807) : Rep (Btw w0 w) w (.slice (((List.range n).map f).map Ze)) [.slice (some ⟨b, 0, none⟩) n n] := by
  refine Rep.slice_mk Ga (Nat.le_refl _) by_Om fun _ => ⟨_, rfl, ((List.range n).map f).map fun s => Value.int .i64 s, fun i hi => ⟨?_, hb, Fa h, _, _, h⟩, Ok fun s hs => ?_⟩
  · have hi' : i < n := by simpa using hi
    rw [Li, Nat.zero_add, Ob h, El hi']
    simp
  · obtain ⟨k, hk, rfl⟩ := List.mem_map.1 hs
    exact hf k (List.mem_range.1 hk)
theorem H0 (S : Nat → Prop) (w0 : World) (n : Nat) (mp : List (Nat × Nat)) (A : Option Addr) (c : Nat) (hX : Rep S w0 (Kh (Mc mp)) [.slice A (Mc mp).length c]) (hr : Io n (Mc mp) = true) (hn : n ≤ 64) (hm : mp.length ≤ 100) (size : Nat) (hs : size ≤ 64) (hmp : ∀ z ∈ mp, z.1 < n ∧ z.2 < size) : Calls prog 15 #[.int .i64 ((n : Nat) : Int), .slice A (Mc mp).length c, .int .i64 ((size : Nat) : Int)] w0 (Rd fun v w' => ∃ ob : Nat, v = .tuple #[.slice (some ⟨ob, 0, none⟩) (n + 1) (n + 1), .bool true] ∧ Rep (Btw w0 w') w' (E0 (n + 1) (Ff n size mp 0 fun _ => [])) [.slice (some ⟨ob, 0, none⟩) (n + 1) (n + 1)] ∧ Same [] w0 w') := by
 have hcl := Aw mp
 have hXl := hX.pairs_len
 refine Ma func15 rfl ntmps15 Jb (Yi _ _ _) ?_
 have hF := FR.start w0 []
 refine Ka (Ca (Il rfl) (Ca (Ec rfl) (Ea (Ia (Ia ?_)))))
 refine Gw (fun σ w => AllEq σ [(0, .int .i64 ((n : Nat))), (1, .slice (A) ((Mc mp).length) (c)), (2, .int .i64 ((size : Nat))), (40, .bool false)] ∧ FR w0 [] [] w) ?_ ?_
 refine Da (Ca (Hb rfl) (Ca (Md rfl) ?_))
 refine Pb hF (Kf (v' := .bool true) (X7 _ _ (n : Int) (Mc mp) A c (hF.rep hX)) (by rw [hr])) (Qb FO rfl rfl rfl) ?_
 clear hF; intro w hF
 refine Ca (Oo (b := true) rfl) (Ca (Fd rfl) (Ca (Hb rfl) (Ja (v := .bool false) (Sd (QC rfl rfl) by_Om) (Ca (Jd rfl rfl) (Ca (Fd rfl) (Ca (Hb rfl) (Ja (v := .bool false) (Sd (DE rfl rfl) by_Om) (Ca (Jd rfl rfl) (Ca (Fd rfl) (Ca (Md rfl) (Ca (Qe underlying29 rfl) (Ca (X0 rfl rfl) (Ca (Fd rfl) ?_)))))))))))))
 refine Cd (d := 29) rfl (fun hg0 => ?_) (fun hg0 => ?_)
 refine Ca (Md rfl) (Ca (Md rfl) (Ca (Qe underlying29 rfl) (Ca (Zu ((((Mc mp).length - 1 : Nat) : Int)) rfl rfl) ?_)))
 obtain ⟨ad1, hA1, hk1, hx1⟩ := hX.pair_elem (i := ((Mc mp).length - 1)) by_Om
 refine Ja (v := .pointer (some (ad1.add (((Mc mp).length - 1) * 2)))) (Oa (i := (((Mc mp).length - 1 : Nat) : Int)) Ik rfl hA1 rfl by_Om by_Om) (Ja (v := .pointer (some ((ad1.add (((Mc mp).length - 1) * 2)).add 1))) (Nd (a := ad1.add (((Mc mp).length - 1) * 2)) Ri rfl) (Ja (v := .int .i64 (((Mc mp)[(Mc mp).length - 1]).2)) (Cb isAgg3 rfl (hF.cell0 (hk1 1 Jb))) (Ca (Hb rfl) ?_)))
 refine Ja (v := .bool false) (Sd (XD rfl rfl) (by have h1 := hmp _ (List.getElem_mem (l := mp) (n := mp.length - 1) by_Om); have h2 := Tk (m := mp) (i := mp.length - 1) by_Om by_Om; have h3 : (Mc mp)[(Mc mp).length - 1] = (Mc mp)[mp.length - 1] := (by congr 1; omega); rw [h3, h2]; simp only; omega)) ?_
 refine Ca (Oc rfl rfl) (Ca (Jd rfl rfl) (Ya ?_))
 exact Ic ⟨Gt, hF⟩
 refine Sa (Sa (Sa (Sa (Sa (Sa (Sa (Sa (Sa (Ca (Jd rfl rfl) (Ca (Jd rfl rfl) (Ya ?_)))))))))))
 exact Ic ⟨Gt, hF⟩
 clear hF; rintro σ w ⟨hs, hF⟩
 refine Eg.slots hs ?_
 clear hs; intro σ
 refine Ha (Wq rfl (Ka (Ca (Hb rfl) (Ca (Qi (((n + 1 : Nat) : Int)) rfl rfl) ?_))))
 refine Xr (v := fun b => .slice (some ⟨b, 0, none⟩) (n + 1) (n + 1)) (o := .cells (List.replicate (n + 1) (.slice none 0 0)).toArray 39) hF (U6 (z := .slice none 0 0) Wi Ib rfl rfl rfl by_Om Ra) ?_
 clear hF; rintro b1 w hb1 hF -
 refine WS (.slice _ _ _) hF zeroValue36 sizeOf36 rfl ?_
 clear hF; rintro b2 w hb2 hF -
 refine Cc ?_
 refine WS (.int _ _) hF zeroValue3 sizeOf3 rfl ?_
 clear hF; rintro b3 w hb3 hF -
 refine Cc (Ja (v := .func (.func 31) #[] #[.pointer (some ⟨b3, 0, none⟩), .pointer (some ⟨b2, 0, none⟩)]) (Nm rfl rfl) (Ca (C1) (Ea (Ia (Ia ?_)))))
 rw [GG (n + 1)] at hF
 have hG_ : Gp w0 w (n + 1) b1 b3 b2 (fun _ => .slice none 0 0) (fun _ => []) (fun _ => []) 0 := ⟨hF.heap (i := 2) rfl, hF.heap (i := 0) rfl, hF.heap (i := 1) rfl, fun g _ => ⟨none, 0, rfl, SlB.nil _ _⟩, fun g _ z hz => (by cases hz), fun _ _ _ _ _ z hz => (by cases hz), ⟨hF.ge (i := 2) rfl, hF.ge (i := 0) rfl, hF.ge (i := 1) rfl⟩, ⟨Vg hF.desc (i := 0) (j := 2) rfl rfl Ra, Vg hF.desc (i := 1) (j := 2) rfl rfl Ra, Vg hF.desc (i := 1) (j := 0) rfl rfl Ra⟩⟩
 replace hF := hF.clear
 refine Da (Ca (Md rfl) (Ca (Qe underlying29 rfl) (Ca (Hb rfl) (Ea (Va ?_)))))
 refine Uc (fun μ σ w => ∃ (t : Nat), ∃ (hd : Nat → Value), ∃ (gp : Nat → List Int), ∃ (sg : Nat → List (Nat × Obj)), ∃ (j : Nat), μ = mp.length - t ∧ (t ≤ mp.length) ∧ (Gp w0 w (n + 1) b1 b3 b2 hd gp sg j) ∧ (Ff n size (mp.drop t) j gp = Ff n size mp 0 fun _ => []) ∧ (∀ g, g < n + 1 → (gp g).length ≤ 64 * t) ∧ (j ≤ 64) ∧ AllEq σ [(0, .int .i64 ((n : Nat))), (2, .int .i64 ((size : Nat))), (8, .pointer (some ⟨b2, 0, none⟩)), (9, .pointer (some ⟨b3, 0, none⟩)), (10, .func (.func 31) #[] #[.pointer (some ⟨b3, 0, none⟩), .pointer (some ⟨b2, 0, none⟩)]), (45, .slice (A) ((Mc mp).length) (c)), (46, .int .i64 (((Mc mp).length : Nat))), (47, .int .i64 ((t : Int)))] ∧ FR w0 [] [] w) _ ⟨0, _, _, _, 0, rfl, (Nat.zero_le _), (hG_), (rfl), (fun g _ => by simp), by_Om, K_, hF⟩ ?_
 clear hF; rintro μ σ w ⟨t, hd, gp, sg, j, rfl, ht, hG_, hrun, hlen, hj, hs, hF⟩
 refine Cg.slots hs ?_
 clear hs; intro σ
 refine Ka (Ca (Nk rfl rfl) (Ea (Ia ?_)))
 refine Pc rfl rfl (fun hc1 => ?_) (fun hc1 => ?_)
 refine Wa (Ha (Ia (Va (Ia ?_))))
 obtain ⟨a, b, hmt⟩ : ∃ a b : Nat, mp[t] = (a, b) := ⟨_, _, rfl⟩
 have hab : (Mc mp)[t] = ((a : Int), (b : Int)) := by rw [Tk by_Om by_Om, hmt]
 have hab1 := hmp _ (List.getElem_mem (l := mp) (n := t) by_Om)
 rw [hmt] at hab1
 refine Da ?_
 obtain ⟨ad2, hA2, hk2, hx2⟩ := hX.pair_elem (i := t) by_Om
 rw [hab] at hk2 hx2
 refine Ja (v := .pointer (some (ad2.add (t * 2)))) (Oa (i := (t : Int)) Ik rfl hA2 rfl by_Om by_Om) (Ja (v := .agg #[.int .i64 ((((a : Int), (b : Int))).1), .int .i64 ((((a : Int), (b : Int))).2)]) (Sb (l := Xi ((a : Int), (b : Int))) isAgg49 sizeOf49 rfl rfl (hF.cells0 hk2)) ?_)
 refine Bj hF zeroValue49 sizeOf49 rfl ?_
 clear hF; intro b4 w hb4 hF hE
 have hn_ : b1 ≠ b4 ∧ b3 ≠ b4 ∧ b2 ≠ b4 ∧ ∀ z ∈ sg a, z.1 ≠ b4 := by have e1 := Fa hG_.top; have e2 := Fa hG_.cj; have e3 := Fa hG_.cv; exact ⟨by omega, by omega, by omega, fun z hz => by have := Fa (hG_.mem a by_Om z hz).1; omega⟩
 replace hG_ := hG_.ext hE
 clear hE
 refine Cc (Ca (Z0) (Ca (Kc Ek rfl) (Qd (Zr isAgg3 rfl hF.F 0 rfl rfl) (Ca (Kc Ri rfl) (Qd (Zr isAgg3 rfl hF.F 0 rfl rfl) ?_)))))
 obtain ⟨Ax, cx, hrow⟩ := hG_.row (a) by_Om
 have hF0 := hF.same.size
 refine Db (UI _ (n + 1) (a) b1 b3 b2 (b) j hd (gp (a)) Ax cx (sg (a)) by_Om by_Om by_Om by_Om (by have := hlen (a) by_Om; omega) hG_.top hG_.cj hG_.cv hrow.1 hrow.2 (fun z hz => by have h := hG_.mem (a) by_Om z hz; exact ⟨h.1, h.2.2⟩) hG_.ne) (Ut rfl ZO rfl rfl rfl) ?_
 rintro _ w ⟨A2, c2, sg2, rfl, h1, h2, h3, h4, h5, hE⟩
 have hG2 := hG_.fill (g := a) by_Om h1 h2 h3 h4 h5 hE hF0
 replace hF := hF.touch hE (fun y hy => by rcases List.mem_append.1 hy with hy | hy; (simp only [List.mem_cons, List.not_mem_nil, or_false] at hy; have hnw := hG_.new; refine ⟨fun h => absurd h (by rcases hy with rfl | rfl | rfl <;> omega), ?_⟩; intro z hz; obtain rfl := List.mem_singleton.1 hz; rcases hy with rfl | rfl | rfl; (exact fun e => hn_.1 e.symm); (exact fun e => hn_.2.1 e.symm); (exact fun e => hn_.2.2.1 e.symm)); (obtain ⟨x, hx, rfl⟩ := List.mem_map.1 hy; have hmx := hG_.mem (a) by_Om x hx; refine ⟨fun h => absurd h by_Om, ?_⟩; intro z hz; obtain rfl := List.mem_singleton.1 hz; exact fun e => hn_.2.2.2 x hx e.symm))
 clear hG_ h1 h2 h3 h4 h5 hE hrow hF0
 have hG_ := hG2
 clear hG2
 refine Ea (Da (Ca (Kc Ri rfl) (Qd (Zr isAgg3 rfl hF.F 0 rfl rfl) (Ca (Qi (((b + 1 : Nat) : Int)) rfl rfl) ?_))))
 refine FH (.int _ _) hF sizeOf3 rfl rfl hG_.cj Gn (.inr hG_.new.2.1) (by simpa using fun e => hn_.2.1 e.symm) ?_
 clear hF; intro w hF hE hnew
 replace hG_ := hG_.setj hE hnew
 clear hE hnew
 refine Ya (Mb (Ha (Da (Ca (Qi (((t + 1 : Nat) : Int)) rfl rfl) (Ca (Hb rfl) (Ya ?_))))))
 refine Ic ⟨_, ?_, t + 1, _, _, _, b + 1, rfl, by_Om, (hG_), (by rw [← hrun, List.drop_eq_getElem_cons (show t < mp.length by omega), Ff, hmt]), (fun g hg => by by_cases e : g = a; (subst e; rw [Si, List.length_append, L5]; have := hlen g hg; omega); (rw [Ih e]; have := hlen g hg; omega)), by_Om, K_, hF.drop 1⟩
 omega
 refine Nc (Lc rfl ?_)
 refine Ha (Ka (Ca (Z0) (Ca (Hb rfl) (Ca (Hb rfl) ?_))))
 obtain ⟨Ax, cx, hrow⟩ := hG_.row (n) by_Om
 have hF0 := hF.same.size
 refine Db (UI _ (n + 1) (n) b1 b3 b2 (size) j hd (gp (n)) Ax cx (sg (n)) by_Om by_Om by_Om by_Om (by have := hlen (n) by_Om; omega) hG_.top hG_.cj hG_.cv hrow.1 hrow.2 (fun z hz => by have h := hG_.mem (n) by_Om z hz; exact ⟨h.1, h.2.2⟩) hG_.ne) (Ut rfl ZO rfl rfl rfl) ?_
 rintro _ w ⟨A2, c2, sg2, rfl, h1, h2, h3, h4, h5, hE⟩
 have hG2 := hG_.fill (g := n) by_Om h1 h2 h3 h4 h5 hE hF0
 replace hF := hF.touch hE (fun y hy => by rcases List.mem_append.1 hy with hy | hy; (simp only [List.mem_cons, List.not_mem_nil, or_false] at hy; have hnw := hG_.new; refine ⟨fun h => absurd h (by rcases hy with rfl | rfl | rfl <;> omega), ?_⟩; simp); (obtain ⟨x, hx, rfl⟩ := List.mem_map.1 hy; have hmx := hG_.mem (n) by_Om x hx; refine ⟨fun h => absurd h by_Om, ?_⟩; simp))
 clear hG_ h1 h2 h3 h4 h5 hE hrow hF0
 have hG_ := hG2
 clear hG2
 refine Cc ?_
 refine Ja (v := .slice (some ⟨b1, 0, none⟩) (n + 1) (n + 1)) (Cb isAgg36 rfl (by rw [Ob hG_.cv]; rfl)) ?_
 refine Ca (Il rfl) (Ca (Ec rfl) (Ea ?_))
 refine Fc (Bc (Za (Ye (v := .slice _ _ _) (x := .bool true) rfl rfl rfl) ?_))
 obtain rfl : t = mp.length := by omega
 rw [List.drop_length, Ff] at hrun
 rw [hrun] at hG_
 exact ⟨b1, rfl, hG_.rep by_Om (fun g _ z hz => by have := F_ (B := 64) hs mp 0 (fun _ => []) (fun y hy => by have := hmp y hy; omega) (fun _ z hz => by cases hz) g z hz; omega), hF.same⟩
theorem Rv (S : Nat → Prop) (w0 : World) (n : Nat) (mp : List (Nat × Nat)) (A : Option Addr) (c : Nat) (hX : Rep S w0 (Kh (Mc mp)) [.slice A (Mc mp).length c]) (hr : Io n (Mc mp) = true) (hn : n ≤ 64) (hm : mp.length ≤ 100) (hmp : ∀ z ∈ mp, z.1 < n ∧ (z.2 : Int) < 9223372036854775807) : Calls prog 17 #[.int .i64 ((n : Nat) : Int), .slice A (Mc mp).length c] w0 (Rd fun v w' => ∃ ob : Nat, v = .tuple #[.slice (some ⟨ob, 0, none⟩) n n, .bool true] ∧ Rep (Btw w0 w') w' (.slice (((List.range n).map (Tu mp fun _ => -1)).map Ze)) [.slice (some ⟨ob, 0, none⟩) n n] ∧ Same [] w0 w') := by
 have hcl := Aw mp
 have hXl := hX.pairs_len
 refine Ma func17 rfl ntmps17 Jb (Vd _ _) ?_
 have hF := FR.start w0 []
 refine Ka (Ca (Il rfl) (Ca (Ec rfl) (Ea (Ia (Ia ?_)))))
 refine Gw (fun σ w => AllEq σ [(0, .int .i64 ((n : Nat))), (1, .slice (A) ((Mc mp).length) (c)), (28, .bool false)] ∧ FR w0 [] [] w) ?_ ?_
 refine Da (Ca (Hb rfl) (Ca (Md rfl) ?_))
 refine Pb hF (Kf (v' := .bool true) (X7 _ _ (n : Int) (Mc mp) A c (hF.rep hX)) (by rw [hr])) (Qb FO rfl rfl rfl) ?_
 clear hF; intro w hF
 refine Ca (Oo (b := true) rfl) (Ca (Fd rfl) (Ca (Md rfl) (Ca (Qe underlying29 rfl) (Ca (X0 rfl rfl) (Ca (Fd rfl) ?_)))))
 refine Cd (d := 18) rfl (fun hg0 => ?_) (fun hg0 => ?_)
 refine Ca (Md rfl) (Ca (Md rfl) (Ca (Qe underlying29 rfl) (Ca (Zu ((((Mc mp).length - 1 : Nat) : Int)) rfl rfl) ?_)))
 obtain ⟨ad1, hA1, hk1, hx1⟩ := hX.pair_elem (i := ((Mc mp).length - 1)) by_Om
 refine Ja (v := .pointer (some (ad1.add (((Mc mp).length - 1) * 2)))) (Oa (i := (((Mc mp).length - 1 : Nat) : Int)) Ik rfl hA1 rfl by_Om by_Om) (Ja (v := .pointer (some ((ad1.add (((Mc mp).length - 1) * 2)).add 1))) (Nd (a := ad1.add (((Mc mp).length - 1) * 2)) Ri rfl) (Ja (v := .int .i64 (((Mc mp)[(Mc mp).length - 1]).2)) (Cb isAgg3 rfl (hF.cell0 (hk1 1 Jb))) ?_))
 refine Ja (v := .bool false) (Sd (Rg rfl rfl) (by have h1 := hmp _ (List.getElem_mem (l := mp) (n := mp.length - 1) by_Om); have h2 := Tk (m := mp) (i := mp.length - 1) by_Om by_Om; have h3 : (Mc mp)[(Mc mp).length - 1] = (Mc mp)[mp.length - 1] := (by congr 1; omega); rw [h3, h2]; simp only; omega)) ?_
 refine Ca (Oc rfl rfl) (Ca (Jd rfl rfl) (Ya ?_))
 exact Ic ⟨WL, hF⟩
 refine Sa (Sa (Sa (Sa (Sa (Sa (Sa (Sa (Ca (Jd rfl rfl) (Ca (Jd rfl rfl) (Ya ?_))))))))))
 exact Ic ⟨WL, hF⟩
 clear hF; rintro σ w ⟨hs, hF⟩
 refine Eg.slots hs ?_
 clear hs; intro σ
 refine Ha (Wq rfl (Ka (Ca (Hb rfl) ?_)))
 refine Xr (v := fun b => .slice (some ⟨b, 0, none⟩) n n) (o := .cells (Gb (n) fun _ => 0) 3) hF (Kk Ki Ib rfl rfl by_Om) ?_
 clear hF; rintro b1 w hb1 hF -
 refine Ca (Il rfl) (Ea (Ia (Ka (Ca (Md rfl) (Ca (Qe underlying39 rfl) (Ca (Hb rfl) (Ea (Va ?_))))))))
 refine Uc (fun μ σ w => ∃ (i : Nat), ∃ (f : Nat → Int), μ = n - i ∧ (i ≤ n) ∧ (∀ k, k < i → f k = -1) ∧ AllEq σ [(1, .slice (A) ((Mc mp).length) (c)), (6, .slice (some ⟨b1, 0, none⟩) n n), (32, .int .i64 ((n : Nat))), (33, .int .i64 ((i : Int)))] ∧ FR w0 [] [(b1, .cells (Gb (n) (f)) 3)] w) _ ⟨0, fun _ => 0, rfl, (Nat.zero_le _), (fun k hk => by omega), Gt, hF⟩ ?_
 clear hF; rintro μ σ w ⟨i, f, rfl, hi, hf, hs, hF⟩
 refine Cg.slots hs ?_
 clear hs; intro σ
 refine Ka (Ca (Nk rfl rfl) (Ea (Ia ?_)))
 refine Pc rfl rfl (fun hc1 => ?_) (fun hc1 => ?_)
 refine Wa (Ha (Ia (Va (Ka (Ca (Hb rfl) (Ca (Gc rfl) (Ea (Da (Ca (Md rfl) (Ca (Hb rfl) (Ja (v := .pointer (some ⟨b1, i, none⟩)) (Ub (i := (i : Int)) (i) Df rfl rfl by_Om by_Om by_Om) ?_)))))))))))
 refine Bf 0 (l := [.int .i64 ((-1))]) (cs' := Gb (n) (Af (f) (i) ((-1)))) hF sizeOf3 rfl (v := .int .i64 ((-1))) rfl rfl Od rfl (by rw [Lg]; simp only [List.length_singleton]; exact Nat.succ_le_of_lt by_Om) (Zf _) ?_
 clear hF; rintro w hF -
 replace hF : FR w0 [] [(b1, .cells (Gb (n) (Af (f) (i) ((-1)))) 3)] w := hF
 refine Ya (Mb (Ha (Da (Ca (Qi (((i + 1 : Nat) : Int)) rfl rfl) (Ca (Hb rfl) (Ya ?_))))))
 refine Ic ⟨_, ?_, i + 1, Af (f) (i) ((-1)), rfl, by_Om, (fun k hk => by by_cases e : k = i; (subst e; exact Dt _ _ _); (rw [Rx e]; exact hf k by_Om)), Gt, hF⟩
 omega
 refine Nc (Lc rfl ?_)
 refine Ha (Ia (Ia ?_))
 rw [F7 (N := n) (f := f) (g := fun _ => -1) (fun k hk => hf k by_Om)] at hF
 refine Da (Ca (Md rfl) (Ca (Qe underlying29 rfl) (Ca (Hb rfl) (Ea (Va ?_)))))
 refine Uc (fun μ σ w => ∃ (t : Nat), ∃ (f : Nat → Int), μ = mp.length - t ∧ (t ≤ mp.length) ∧ (Tu (mp.drop t) f = Tu mp fun _ => -1) ∧ AllEq σ [(6, .slice (some ⟨b1, 0, none⟩) n n), (40, .slice (A) ((Mc mp).length) (c)), (41, .int .i64 (((Mc mp).length : Nat))), (42, .int .i64 ((t : Int)))] ∧ FR w0 [] [(b1, .cells (Gb (n) (f)) 3)] w) _ ⟨0, fun _ => -1, rfl, (Nat.zero_le _), (rfl), Gt, hF⟩ ?_
 clear hF; rintro μ σ w ⟨t, f, rfl, ht, hrun, hs, hF⟩
 refine Cg.slots hs ?_
 clear hs; intro σ
 refine Ka (Ca (Nk rfl rfl) (Ea (Ia ?_)))
 refine Pc rfl rfl (fun hc2 => ?_) (fun hc2 => ?_)
 refine Wa (Ha (Ia (Va (Ia ?_))))
 obtain ⟨a, b, hmt⟩ : ∃ a b : Nat, mp[t] = (a, b) := ⟨_, _, rfl⟩
 have hab : (Mc mp)[t] = ((a : Int), (b : Int)) := by rw [Tk by_Om by_Om, hmt]
 have hab1 := hmp _ (List.getElem_mem (l := mp) (n := t) by_Om)
 rw [hmt] at hab1
 refine Da ?_
 obtain ⟨ad2, hA2, hk2, hx2⟩ := hX.pair_elem (i := t) by_Om
 rw [hab] at hk2 hx2
 refine Ja (v := .pointer (some (ad2.add (t * 2)))) (Oa (i := (t : Int)) Ik rfl hA2 rfl by_Om by_Om) (Ja (v := .agg #[.int .i64 ((((a : Int), (b : Int))).1), .int .i64 ((((a : Int), (b : Int))).2)]) (Sb (l := Xi ((a : Int), (b : Int))) isAgg49 sizeOf49 rfl rfl (hF.cells0 hk2)) ?_)
 refine Bj hF zeroValue49 sizeOf49 rfl ?_
 clear hF; rintro b2 w hb2 hF -
 refine Ea (Da (Ca (Md rfl) (Ca (Kc Ek rfl) (Qd (Zr isAgg3 rfl hF.F 0 rfl rfl) (Ca (Kc Ri rfl) (Qd (Zr isAgg3 rfl hF.F 0 rfl rfl) (Ja (v := .pointer (some ⟨b1, a, none⟩)) (Ub (i := (((a : Int), (b : Int))).1) (a) Df rfl rfl by_Om by_Om by_Om) ?_)))))))
 refine Bf 1 (l := [.int .i64 ((((a : Int), (b : Int))).2)]) (cs' := Gb (n) (Af (f) (a) ((((a : Int), (b : Int))).2))) hF sizeOf3 rfl (v := .int .i64 ((((a : Int), (b : Int))).2)) rfl rfl Od rfl (by rw [Lg]; simp only [List.length_singleton]; exact Nat.succ_le_of_lt by_Om) (Zf _) ?_
 clear hF; rintro w hF -
 replace hF : FR w0 [] [_, (b1, .cells (Gb (n) (Af (f) (a) ((((a : Int), (b : Int))).2))) 3)] w := hF
 refine Ya (Mb (Ha (Da (Ca (Qi (((t + 1 : Nat) : Int)) rfl rfl) (Ca (Hb rfl) (Ya ?_))))))
 refine Ic ⟨_, ?_, t + 1, Af (f) (a) ((((a : Int), (b : Int))).2), rfl, by_Om, (by rw [← hrun, List.drop_eq_getElem_cons (show t < mp.length by omega), Tu, hmt]), Gt, hF.drop 1⟩
 omega
 refine Nc (Lc rfl ?_)
 refine Ha (Ka (Ca (Md rfl) (Ca (Il rfl) (Ca (Ec rfl) (Ea ?_)))))
 refine Fc (Bc (Za (Ye (v := .slice _ _ _) (x := .bool true) rfl rfl rfl) ?_))
 obtain rfl : t = mp.length := by omega
 rw [List.drop_length, Tu] at hrun
 rw [hrun] at hF
 exact ⟨b1, rfl, N_ (hF.heap (i := 0) rfl) (hF.ge (i := 0) rfl) by_Om (fun k _ => by have := ZC (B := 9223372036854775807) mp (fun _ => -1) (fun z hz => (hmp z hz).2) (fun _ => by omega) k; omega), hF.same⟩
end Go.Scarf
