/- A part of the proof. -/
import Derived.Test.YtepbomjpbdbejaaGreatDoorTd1
import Derived.Test.YtepbomjpbdbejaaGreatDoorP3
set_option linter.all false
set_option maxHeartbeats 8000000
set_option maxRecDepth 10000
namespace Go.Scarf
def R6 (k : Str) : Str := 107 :: Qp (.node 4 k [] [])
mutual
def Vf : Tree → List Str
  | .node k t ks xs => if k = 5 then Af xs ++ [[91]] else if k = 6 then Xd xs ks ++ [[123]] else [Qp (.node k t ks xs)]
def Af : List Tree → List Str
  | [] => []
  | x :: xs => Vf x ++ Af xs
def Xd : List Tree → List Str → List Str
  | [], _ => []
  | x :: xs, ks => Vf x ++ (R6 (ks.headD []) :: Xd xs ks.tail)
end
mutual
def Wi : Tree → Nat → List Int
  | .node k _ ks xs, b => if k = 5 then Xh xs b ++ [(b : Int)] else if k = 6 then Bh xs ks b ++ [(b : Int)] else [(b : Int)]
def Xh : List Tree → Nat → List Int
  | [], _ => []
  | x :: xs, b => Wi x b ++ Xh xs (b + (Vf x).length)
def Bh : List Tree → List Str → Nat → List Int
  | [], _, _ => []
  | x :: xs, ks, b => Wi x b ++ ((b : Int) :: Bh xs ks.tail (b + (Vf x).length + 1))
end
theorem Ys : ∀ (xs : List Tree), (∀ x ∈ xs, ∀ b, (Wi x b).length = (Vf x).length) → ∀ b, (Xh xs b).length = (Af xs).length
  | [], _, b => by rw [Xh, Af]; rfl
  | x :: xs, h, b => by rw [Xh, Af, List.length_append, List.length_append, h x Fa, Ys xs (fun y hy => h y (by simp [hy]))]
theorem Hs : ∀ (xs : List Tree) (ks : List Str), (∀ x ∈ xs, ∀ b, (Wi x b).length = (Vf x).length) → ∀ b, (Bh xs ks b).length = (Xd xs ks).length
  | [], _, _, b => by rw [Bh, Xd]; rfl
  | x :: xs, ks, h, b => by
    rw [Bh, Xd, List.length_append, List.length_append, List.length_cons, List.length_cons, h x Fa, Hs xs _ (fun y hy => h y (by simp [hy]))]
theorem Sm (x : Tree) : ∀ b, (Wi x b).length = (Vf x).length := Tree.ind (Q := fun x => ∀ b, (Wi x b).length = (Vf x).length) (fun k t ks xs ih b => by
  rw [Wi, Vf]
  split
  · rw [List.length_append, List.length_append, Ys xs ih]; rfl
  · split
    · rw [List.length_append, List.length_append, Hs xs ks ih]; rfl
    · rfl) x
theorem O2 : ∀ (xs : List Tree), (∀ x ∈ xs, (Vf x).length ≤ Nc x + Xq x) → (Af xs).length ≤ Rc xs + Qm xs
  | [], _ => by rw [Af]; simp
  | x :: xs, h => by
    have h1 := h x Fa
    have h2 := O2 xs fun y hy => h y (by simp [hy])
    rw [Af, Rc, Qm, List.length_append]; omega
theorem Z1 : ∀ (xs : List Tree) (ks : List Str), (∀ x ∈ xs, (Vf x).length ≤ Nc x + Xq x) → (Xd xs ks).length ≤ Rc xs + Qm xs + xs.length
  | [], _, _ => by rw [Xd]; simp
  | x :: xs, ks, h => by
    have h1 := h x Fa
    have h2 := Z1 xs ks.tail fun y hy => h y (by simp [hy])
    rw [Xd, Rc, Qm, List.length_append, List.length_cons, List.length_cons]; omega
theorem NI (x : Tree) : Rd nodeB x = true → (Vf x).length ≤ Nc x + Xq x := Tree.ind (Q := fun x => Rd nodeB x = true → (Vf x).length ≤ Nc x + Xq x) (fun k t ks xs ih h => by
  obtain ⟨hn, hx⟩ := Gg h
  rw [Vf, Nc, Xq]
  split
  · have := O2 xs fun y hy => ih y hy (hx y hy)
    rw [List.length_append, List.length_singleton]; omega
  · split
    · rename_i h6
      subst h6
      have h2 := (Vp hn).2
      have := Z1 xs ks fun y hy => ih y hy (hx y hy)
      rw [List.length_append, List.length_singleton]; omega
    · rw [List.length_singleton]; omega) x
theorem ME (x : Tree) : 0 < (Vf x).length := by
  obtain ⟨k, t, ks, xs⟩ := x
  rw [Vf]
  split
  · simp
  · split <;> simp
def Beh (fs : List Int) (b : Nat) : Prop := ∀ j (h : j < fs.length), b ≤ j → (b : Int) ≤ fs[j]
theorem lfOk.more {fs gs : List Int} {n : Nat} (h : lfOk fs n) (hn : n ≤ fs.length) : lfOk (fs ++ gs) n := by
  intro j hj hjn
  have h1 := h j by_Om hjn
  rw [List.getElem_append_left by_Om]
  refine ⟨h1.1, h1.2.1, fun i hi hle => ?_⟩
  rw [List.getElem_append_left by_Om]
  exact h1.2.2 i hi hle
theorem Beh.more {fs gs : List Int} {b c : Nat} (h : Beh fs b) (hc : Beh (fs ++ gs) c) (h1 : b ≤ c) (h2 : c ≤ fs.length) : Beh (fs ++ gs) b := by
  intro j hj hb
  by_cases e : j < fs.length
  · rw [List.getElem_append_left e]; exact h j e hb
  · have := hc j hj by_Om; omega
theorem Y0 {fs : List Int} {b : Nat} (h : lfOk fs fs.length) (hb : Beh fs b) (hl : b ≤ fs.length) : lfOk (fs ++ [(b : Int)]) (fs ++ [(b : Int)]).length ∧ Beh (fs ++ [(b : Int)]) b := by
  have hlen : (fs ++ [(b : Int)]).length = fs.length + 1 := by simp
  refine ⟨?_, fun j hj hbj => ?_⟩
  · rw [hlen]
    refine (h.more (gs := [(b : Int)]) (Nat.le_refl _)).snoc by_Om ?_ ?_ ?_
    · rw [List.getElem_append_right (Nat.le_refl _)]; simp
    · rw [List.getElem_append_right (Nat.le_refl _)]; simp; omega
    · intro z hz hle
      rw [List.getElem_append_right (Nat.le_refl _)] at hle ⊢
      rw [List.getElem_append_left hz]
      simp only [Nat.sub_self, List.getElem_singleton] at hle ⊢
      exact hb z hz by_Om
  · by_cases e : j < fs.length
    · rw [List.getElem_append_left e]; exact hb j e hbj
    · rw [List.getElem_append_right by_Om]; simp
theorem Beh.all (fs : List Int) : Beh fs fs.length := fun j hj h => by omega
def I8 (x : Tree) : Prop := ∀ fs : List Int, lfOk fs fs.length → lfOk (fs ++ Wi x fs.length) (fs ++ Wi x fs.length).length ∧ Beh (fs ++ Wi x fs.length) fs.length
theorem OA : ∀ (xs : List Tree), (∀ x ∈ xs, I8 x) → ∀ fs : List Int, lfOk fs fs.length → lfOk (fs ++ Xh xs fs.length) (fs ++ Xh xs fs.length).length ∧ Beh (fs ++ Xh xs fs.length) fs.length
  | [], _, fs, h => by rw [Xh, List.append_nil]; exact ⟨h, Beh.all fs⟩
  | x :: xs, hx, fs, h => by
    obtain ⟨h1, h2⟩ := hx x Fa fs h
    obtain ⟨h3, h4⟩ := OA xs (fun y hy => hx y (by simp [hy])) _ h1
    have e : (fs ++ Wi x fs.length).length = fs.length + (Vf x).length := by rw [List.length_append, Sm]
    have e2 : fs ++ Xh (x :: xs) fs.length = (fs ++ Wi x fs.length) ++ Xh xs (fs ++ Wi x fs.length).length := by rw [Xh, e, List.append_assoc]
    rw [e2]
    exact ⟨h3, h2.more h4 by_Om (Nat.le_refl _)⟩
theorem DA : ∀ (xs : List Tree) (ks : List Str), (∀ x ∈ xs, I8 x) → ∀ fs : List Int, lfOk fs fs.length → lfOk (fs ++ Bh xs ks fs.length) (fs ++ Bh xs ks fs.length).length ∧ Beh (fs ++ Bh xs ks fs.length) fs.length
  | [], _, _, fs, h => by rw [Bh, List.append_nil]; exact ⟨h, Beh.all fs⟩
  | x :: xs, ks, hx, fs, h => by
    obtain ⟨h1, h2⟩ := hx x Fa fs h
    have e : (fs ++ Wi x fs.length).length = fs.length + (Vf x).length := by rw [List.length_append, Sm]
    obtain ⟨h5, h6⟩ := Y0 h1 h2 by_Om
    obtain ⟨h3, h4⟩ := DA xs ks.tail (fun y hy => hx y (by simp [hy])) _ h5
    have e3 : (fs ++ Wi x fs.length ++ [(fs.length : Int)]).length = fs.length + (Vf x).length + 1 := by rw [List.length_append, e]; rfl
    have e2 : fs ++ Bh (x :: xs) ks fs.length = (fs ++ Wi x fs.length ++ [(fs.length : Int)]) ++ Bh xs ks.tail (fs ++ Wi x fs.length ++ [(fs.length : Int)]).length := by
      rw [Bh, e3]; simp [List.append_assoc]
    rw [e2]
    exact ⟨h3, h6.more h4 by_Om (Nat.le_refl _)⟩
theorem ML (x : Tree) : I8 x := Tree.ind (Q := I8) (fun k t ks xs ih fs h => by
  rw [Wi]
  split
  · obtain ⟨h1, h2⟩ := OA xs ih fs h
    have := Y0 h1 h2 Fa
    rw [List.append_assoc] at this
    exact this
  · split
    · obtain ⟨h1, h2⟩ := DA xs ks ih fs h
      have := Y0 h1 h2 Fa
      rw [List.append_assoc] at this
      exact this
    · exact Y0 h (Beh.all fs) (Nat.le_refl _)) x
theorem J1 (x : Tree) (h : (Vf x).length ≤ 512) : Sg (Vf x) (Wi x 0) := by
  refine ⟨(Sm x 0).symm, h, ?_⟩
  have := (ML x [] (fun j hj => by simp at hj)).1
  simpa using this
end Go.Scarf
