/- A part of the proof. -/
import Derived.Test.YtepbomjpbdbejaaGreatDoorTd1
import Derived.Test.YtepbomjpbdbejaaGreatDoorP3
set_option linter.all false
set_option maxHeartbeats 8000000
set_option maxRecDepth 10000
namespace Go.Scarf
def Y6 (k : Str) : Str := 107 :: Pq (.node 4 k [] [])
mutual
def Bg : Tree → List Str
  | .node k t ks xs => if k = 5 then Ef xs ++ [[91]] else if k = 6 then Ae xs ks ++ [[123]] else [Pq (.node k t ks xs)]
def Ef : List Tree → List Str
  | [] => []
  | x :: xs => Bg x ++ Ef xs
def Ae : List Tree → List Str → List Str
  | [], _ => []
  | x :: xs, ks => Bg x ++ (Y6 (ks.headD []) :: Ae xs ks.tail)
end
mutual
def Gj : Tree → Nat → List Int
  | .node k _ ks xs, b => if k = 5 then Hi xs b ++ [(b : Int)] else if k = 6 then Ph xs ks b ++ [(b : Int)] else [(b : Int)]
def Hi : List Tree → Nat → List Int
  | [], _ => []
  | x :: xs, b => Gj x b ++ Hi xs (b + (Bg x).length)
def Ph : List Tree → List Str → Nat → List Int
  | [], _, _ => []
  | x :: xs, ks, b => Gj x b ++ ((b : Int) :: Ph xs ks.tail (b + (Bg x).length + 1))
end
theorem Nt : ∀ (xs : List Tree), (∀ x ∈ xs, ∀ b, (Gj x b).length = (Bg x).length) → ∀ b, (Hi xs b).length = (Ef xs).length
  | [], _, b => by rw [Hi, Ef]; rfl
  | x :: xs, h, b => by rw [Hi, Ef, List.length_append, List.length_append, h x Ga, Nt xs (fun y hy => h y (by simp [hy]))]
theorem Qt : ∀ (xs : List Tree) (ks : List Str), (∀ x ∈ xs, ∀ b, (Gj x b).length = (Bg x).length) → ∀ b, (Ph xs ks b).length = (Ae xs ks).length
  | [], _, _, b => by rw [Ph, Ae]; rfl
  | x :: xs, ks, h, b => by
    rw [Ph, Ae, List.length_append, List.length_append, List.length_cons, List.length_cons, h x Ga, Qt xs _ (fun y hy => h y (by simp [hy]))]
theorem Hn (x : Tree) : ∀ b, (Gj x b).length = (Bg x).length := Tree.ind (Q := fun x => ∀ b, (Gj x b).length = (Bg x).length) (fun k t ks xs ih b => by
  rw [Gj, Bg]
  split
  · rw [List.length_append, List.length_append, Nt xs ih]; rfl
  · split
    · rw [List.length_append, List.length_append, Qt xs ks ih]; rfl
    · rfl) x
theorem R3 : ∀ (xs : List Tree), (∀ x ∈ xs, (Bg x).length ≤ Qc x + Cs x) → (Ef xs).length ≤ Vc xs + Cn xs
  | [], _ => by rw [Ef]; simp
  | x :: xs, h => by
    have h1 := h x Ga
    have h2 := R3 xs fun y hy => h y (by simp [hy])
    rw [Ef, Vc, Cn, List.length_append]; omega
theorem K5 : ∀ (xs : List Tree) (ks : List Str), (∀ x ∈ xs, (Bg x).length ≤ Qc x + Cs x) → (Ae xs ks).length ≤ Vc xs + Cn xs + xs.length
  | [], _, _ => by rw [Ae]; simp
  | x :: xs, ks, h => by
    have h1 := h x Ga
    have h2 := K5 xs ks.tail fun y hy => h y (by simp [hy])
    rw [Ae, Vc, Cn, List.length_append, List.length_cons, List.length_cons]; omega
theorem KJ (x : Tree) : Xd nodeB x = true → (Bg x).length ≤ Qc x + Cs x := Tree.ind (Q := fun x => Xd nodeB x = true → (Bg x).length ≤ Qc x + Cs x) (fun k t ks xs ih h => by
  obtain ⟨hn, hx⟩ := Ng h
  rw [Bg, Qc, Cs]
  split
  · have := R3 xs fun y hy => ih y hy (hx y hy)
    rw [List.length_append, List.length_singleton]; omega
  · split
    · rename_i h6
      subst h6
      have h2 := (Nq hn).2
      have := K5 xs ks fun y hy => ih y hy (hx y hy)
      rw [List.length_append, List.length_singleton]; omega
    · rw [List.length_singleton]; omega) x
theorem UG (x : Tree) : 0 < (Bg x).length := by
  obtain ⟨k, t, ks, xs⟩ := x
  rw [Bg]
  split
  · simp
  · split <;> simp
def Beh (fs : List Int) (b : Nat) : Prop := ∀ j (h : j < fs.length), b ≤ j → (b : Int) ≤ fs[j]
theorem lfOk.more {fs gs : List Int} {n : Nat} (h : lfOk fs n) (hn : n ≤ fs.length) : lfOk (fs ++ gs) n := by
  intro j hj hjn
  have h1 := h j by_Om hjn
  rw [List.getElem_append_left by_Om]
  refine ⟨h1.1, h1.2.1, fun i hi hle => ?_⟩
  rw [List.getElem_append_left by_Om]
  exact h1.2.2 i hi hle
theorem Beh.more {fs gs : List Int} {b c : Nat} (h : Beh fs b) (hc : Beh (fs ++ gs) c) (h1 : b ≤ c) (h2 : c ≤ fs.length) : Beh (fs ++ gs) b := by
  intro j hj hb
  by_cases e : j < fs.length
  · rw [List.getElem_append_left e]; exact h j e hb
  · have := hc j hj by_Om; omega
theorem X0 {fs : List Int} {b : Nat} (h : lfOk fs fs.length) (hb : Beh fs b) (hl : b ≤ fs.length) : lfOk (fs ++ [(b : Int)]) (fs ++ [(b : Int)]).length ∧ Beh (fs ++ [(b : Int)]) b := by
  have hlen : (fs ++ [(b : Int)]).length = fs.length + 1 := by simp
  refine ⟨?_, fun j hj hbj => ?_⟩
  · rw [hlen]
    refine (h.more (gs := [(b : Int)]) (Nat.le_refl _)).snoc by_Om ?_ ?_ ?_
    · rw [List.getElem_append_right (Nat.le_refl _)]; simp
    · rw [List.getElem_append_right (Nat.le_refl _)]; simp; omega
    · intro z hz hle
      rw [List.getElem_append_right (Nat.le_refl _)] at hle ⊢
      rw [List.getElem_append_left hz]
      simp only [Nat.sub_self, List.getElem_singleton] at hle ⊢
      exact hb z hz by_Om
  · by_cases e : j < fs.length
    · rw [List.getElem_append_left e]; exact hb j e hbj
    · rw [List.getElem_append_right by_Om]; simp
theorem Beh.all (fs : List Int) : Beh fs fs.length := fun j hj h => by omega
def S9 (x : Tree) : Prop := ∀ fs : List Int, lfOk fs fs.length → lfOk (fs ++ Gj x fs.length) (fs ++ Gj x fs.length).length ∧ Beh (fs ++ Gj x fs.length) fs.length
theorem GD : ∀ (xs : List Tree), (∀ x ∈ xs, S9 x) → ∀ fs : List Int, lfOk fs fs.length → lfOk (fs ++ Hi xs fs.length) (fs ++ Hi xs fs.length).length ∧ Beh (fs ++ Hi xs fs.length) fs.length
  | [], _, fs, h => by rw [Hi, List.append_nil]; exact ⟨h, Beh.all fs⟩
  | x :: xs, hx, fs, h => by
    obtain ⟨h1, h2⟩ := hx x Ga fs h
    obtain ⟨h3, h4⟩ := GD xs (fun y hy => hx y (by simp [hy])) _ h1
    have e : (fs ++ Gj x fs.length).length = fs.length + (Bg x).length := by rw [List.length_append, Hn]
    have e2 : fs ++ Hi (x :: xs) fs.length = (fs ++ Gj x fs.length) ++ Hi xs (fs ++ Gj x fs.length).length := by rw [Hi, e, List.append_assoc]
    rw [e2]
    exact ⟨h3, h2.more h4 by_Om (Nat.le_refl _)⟩
theorem NB : ∀ (xs : List Tree) (ks : List Str), (∀ x ∈ xs, S9 x) → ∀ fs : List Int, lfOk fs fs.length → lfOk (fs ++ Ph xs ks fs.length) (fs ++ Ph xs ks fs.length).length ∧ Beh (fs ++ Ph xs ks fs.length) fs.length
  | [], _, _, fs, h => by rw [Ph, List.append_nil]; exact ⟨h, Beh.all fs⟩
  | x :: xs, ks, hx, fs, h => by
    obtain ⟨h1, h2⟩ := hx x Ga fs h
    have e : (fs ++ Gj x fs.length).length = fs.length + (Bg x).length := by rw [List.length_append, Hn]
    obtain ⟨h5, h6⟩ := X0 h1 h2 by_Om
    obtain ⟨h3, h4⟩ := NB xs ks.tail (fun y hy => hx y (by simp [hy])) _ h5
    have e3 : (fs ++ Gj x fs.length ++ [(fs.length : Int)]).length = fs.length + (Bg x).length + 1 := by rw [List.length_append, e]; rfl
    have e2 : fs ++ Ph (x :: xs) ks fs.length = (fs ++ Gj x fs.length ++ [(fs.length : Int)]) ++ Ph xs ks.tail (fs ++ Gj x fs.length ++ [(fs.length : Int)]).length := by
      rw [Ph, e3]; simp [List.append_assoc]
    rw [e2]
    exact ⟨h3, h6.more h4 by_Om (Nat.le_refl _)⟩
theorem TM (x : Tree) : S9 x := Tree.ind (Q := S9) (fun k t ks xs ih fs h => by
  rw [Gj]
  split
  · obtain ⟨h1, h2⟩ := GD xs ih fs h
    have := X0 h1 h2 Ga
    rw [List.append_assoc] at this
    exact this
  · split
    · obtain ⟨h1, h2⟩ := NB xs ks ih fs h
      have := X0 h1 h2 Ga
      rw [List.append_assoc] at this
      exact this
    · exact X0 h (Beh.all fs) (Nat.le_refl _)) x
theorem X4 (x : Tree) (h : (Bg x).length ≤ 512) : Ch (Bg x) (Gj x 0) := by
  refine ⟨(Hn x 0).symm, h, ?_⟩
  have := (TM x [] (fun j hj => by simp at hj)).1
  simpa using this
end Go.Scarf
