/- A part of the proof. -/
import Derived.Test.YtehigfneiofjnaaGreatDoorTd1
import Derived.Test.YtehigfneiofjnaaGreatDoorP3
set_option linter.all false
set_option maxHeartbeats 8000000
set_option maxRecDepth 10000
namespace Go.Scarf
def Km (k : Str) : Str := 107 :: Fg (.node 4 k [] [])
mutual
def Ge : Tree → List Str
  | .node k t ks xs => if k = 5 then Gg xs ++ [[91]] else if k = 6 then Df xs ks ++ [[123]] else [Fg (.node k t ks xs)]
def Gg : List Tree → List Str
  | [] => []
  | x :: xs => Ge x ++ Gg xs
def Df : List Tree → List Str → List Str
  | [], _ => []
  | x :: xs, ks => Ge x ++ (Km (ks.headD []) :: Df xs ks.tail)
end
mutual
def Jf : Tree → Nat → List Int
  | .node k _ ks xs, b => if k = 5 then Gj xs b ++ [(b : Int)] else if k = 6 then Si xs ks b ++ [(b : Int)] else [(b : Int)]
def Gj : List Tree → Nat → List Int
  | [], _ => []
  | x :: xs, b => Jf x b ++ Gj xs (b + (Ge x).length)
def Si : List Tree → List Str → Nat → List Int
  | [], _, _ => []
  | x :: xs, ks, b => Jf x b ++ ((b : Int) :: Si xs ks.tail (b + (Ge x).length + 1))
end
theorem Kw : ∀ (xs : List Tree), (∀ x ∈ xs, ∀ b, (Jf x b).length = (Ge x).length) → ∀ b, (Gj xs b).length = (Gg xs).length
  | [], _, b => by rw [Gj, Gg]; rfl
  | x :: xs, h, b => by rw [Gj, Gg, List.length_append, List.length_append, h x Sa, Kw xs (fun y hy => h y (by simp [hy]))]
theorem Pw : ∀ (xs : List Tree) (ks : List Str), (∀ x ∈ xs, ∀ b, (Jf x b).length = (Ge x).length) → ∀ b, (Si xs ks b).length = (Df xs ks).length
  | [], _, _, b => by rw [Si, Df]; rfl
  | x :: xs, ks, h, b => by
    rw [Si, Df, List.length_append, List.length_append, List.length_cons, List.length_cons, h x Sa, Pw xs _ (fun y hy => h y (by simp [hy]))]
theorem Gf (x : Tree) : ∀ b, (Jf x b).length = (Ge x).length := Tree.ind (Q := fun x => ∀ b, (Jf x b).length = (Ge x).length) (fun k t ks xs ih b => by
  rw [Jf, Ge]
  split
  · rw [List.length_append, List.length_append, Kw xs ih]; rfl
  · split
    · rw [List.length_append, List.length_append, Pw xs ks ih]; rfl
    · rfl) x
theorem U6 : ∀ (xs : List Tree), (∀ x ∈ xs, (Ge x).length ≤ Ec x + Jo x) → (Gg xs).length ≤ Zc xs + Hm xs
  | [], _ => by rw [Gg]; simp
  | x :: xs, h => by
    have h1 := h x Sa
    have h2 := U6 xs fun y hy => h y (by simp [hy])
    rw [Gg, Zc, Hm, List.length_append]; omega
theorem D8 : ∀ (xs : List Tree) (ks : List Str), (∀ x ∈ xs, (Ge x).length ≤ Ec x + Jo x) → (Df xs ks).length ≤ Zc xs + Hm xs + xs.length
  | [], _, _ => by rw [Df]; simp
  | x :: xs, ks, h => by
    have h1 := h x Sa
    have h2 := D8 xs ks.tail fun y hy => h y (by simp [hy])
    rw [Df, Zc, Hm, List.length_append, List.length_cons, List.length_cons]; omega
theorem FQ (x : Tree) : Yd nodeB x = true → (Ge x).length ≤ Ec x + Jo x := Tree.ind (Q := fun x => Yd nodeB x = true → (Ge x).length ≤ Ec x + Jo x) (fun k t ks xs ih h => by
  obtain ⟨hn, hx⟩ := Uf h
  rw [Ge, Ec, Jo]
  split
  · have := U6 xs fun y hy => ih y hy (hx y hy)
    rw [List.length_append, List.length_singleton]; omega
  · split
    · rename_i h6
      subst h6
      have h2 := (Kq hn).2
      have := D8 xs ks fun y hy => ih y hy (hx y hy)
      rw [List.length_append, List.length_singleton]; omega
    · rw [List.length_singleton]; omega) x
theorem Ey (x : Tree) : 0 < (Ge x).length := by
  obtain ⟨k, t, ks, xs⟩ := x
  rw [Ge]
  split
  · simp
  · split <;> simp
def Beh (fs : List Int) (b : Nat) : Prop := ∀ j (h : j < fs.length), b ≤ j → (b : Int) ≤ fs[j]
theorem lfOk.more {fs gs : List Int} {n : Nat} (h : lfOk fs n) (hn : n ≤ fs.length) : lfOk (fs ++ gs) n := by
  intro j hj hjn
  have h1 := h j by_Om hjn
  rw [List.getElem_append_left by_Om]
  refine ⟨h1.1, h1.2.1, fun i hi hle => ?_⟩
  rw [List.getElem_append_left by_Om]
  exact h1.2.2 i hi hle
theorem Beh.more {fs gs : List Int} {b c : Nat} (h : Beh fs b) (hc : Beh (fs ++ gs) c) (h1 : b ≤ c) (h2 : c ≤ fs.length) : Beh (fs ++ gs) b := by
  intro j hj hb
  by_cases e : j < fs.length
  · rw [List.getElem_append_left e]; exact h j e hb
  · have := hc j hj by_Om; omega
theorem X4 {fs : List Int} {b : Nat} (h : lfOk fs fs.length) (hb : Beh fs b) (hl : b ≤ fs.length) : lfOk (fs ++ [(b : Int)]) (fs ++ [(b : Int)]).length ∧ Beh (fs ++ [(b : Int)]) b := by
  have hlen : (fs ++ [(b : Int)]).length = fs.length + 1 := by simp
  refine ⟨?_, fun j hj hbj => ?_⟩
  · rw [hlen]
    refine (h.more (gs := [(b : Int)]) (Nat.le_refl _)).snoc by_Om ?_ ?_ ?_
    · rw [List.getElem_append_right (Nat.le_refl _)]; simp
    · rw [List.getElem_append_right (Nat.le_refl _)]; simp; omega
    · intro z hz hle
      rw [List.getElem_append_right (Nat.le_refl _)] at hle ⊢
      rw [List.getElem_append_left hz]
      simp only [Nat.sub_self, List.getElem_singleton] at hle ⊢
      exact hb z hz by_Om
  · by_cases e : j < fs.length
    · rw [List.getElem_append_left e]; exact hb j e hbj
    · rw [List.getElem_append_right by_Om]; simp
theorem Beh.all (fs : List Int) : Beh fs fs.length := fun j hj h => by omega
def FC (x : Tree) : Prop := ∀ fs : List Int, lfOk fs fs.length → lfOk (fs ++ Jf x fs.length) (fs ++ Jf x fs.length).length ∧ Beh (fs ++ Jf x fs.length) fs.length
theorem WG : ∀ (xs : List Tree), (∀ x ∈ xs, FC x) → ∀ fs : List Int, lfOk fs fs.length → lfOk (fs ++ Gj xs fs.length) (fs ++ Gj xs fs.length).length ∧ Beh (fs ++ Gj xs fs.length) fs.length
  | [], _, fs, h => by rw [Gj, List.append_nil]; exact ⟨h, Beh.all fs⟩
  | x :: xs, hx, fs, h => by
    obtain ⟨h1, h2⟩ := hx x Sa fs h
    obtain ⟨h3, h4⟩ := WG xs (fun y hy => hx y (by simp [hy])) _ h1
    have e : (fs ++ Jf x fs.length).length = fs.length + (Ge x).length := by rw [List.length_append, Gf]
    have e2 : fs ++ Gj (x :: xs) fs.length = (fs ++ Jf x fs.length) ++ Gj xs (fs ++ Jf x fs.length).length := by rw [Gj, e, List.append_assoc]
    rw [e2]
    exact ⟨h3, h2.more h4 by_Om (Nat.le_refl _)⟩
theorem RI : ∀ (xs : List Tree) (ks : List Str), (∀ x ∈ xs, FC x) → ∀ fs : List Int, lfOk fs fs.length → lfOk (fs ++ Si xs ks fs.length) (fs ++ Si xs ks fs.length).length ∧ Beh (fs ++ Si xs ks fs.length) fs.length
  | [], _, _, fs, h => by rw [Si, List.append_nil]; exact ⟨h, Beh.all fs⟩
  | x :: xs, ks, hx, fs, h => by
    obtain ⟨h1, h2⟩ := hx x Sa fs h
    have e : (fs ++ Jf x fs.length).length = fs.length + (Ge x).length := by rw [List.length_append, Gf]
    obtain ⟨h5, h6⟩ := X4 h1 h2 by_Om
    obtain ⟨h3, h4⟩ := RI xs ks.tail (fun y hy => hx y (by simp [hy])) _ h5
    have e3 : (fs ++ Jf x fs.length ++ [(fs.length : Int)]).length = fs.length + (Ge x).length + 1 := by rw [List.length_append, e]; rfl
    have e2 : fs ++ Si (x :: xs) ks fs.length = (fs ++ Jf x fs.length ++ [(fs.length : Int)]) ++ Si xs ks.tail (fs ++ Jf x fs.length ++ [(fs.length : Int)]).length := by
      rw [Si, e3]; simp [List.append_assoc]
    rw [e2]
    exact ⟨h3, h6.more h4 by_Om (Nat.le_refl _)⟩
theorem MT (x : Tree) : FC x := Tree.ind (Q := FC) (fun k t ks xs ih fs h => by
  rw [Jf]
  split
  · obtain ⟨h1, h2⟩ := WG xs ih fs h
    have := X4 h1 h2 Sa
    rw [List.append_assoc] at this
    exact this
  · split
    · obtain ⟨h1, h2⟩ := RI xs ks ih fs h
      have := X4 h1 h2 Sa
      rw [List.append_assoc] at this
      exact this
    · exact X4 h (Beh.all fs) (Nat.le_refl _)) x
theorem S7 (x : Tree) (h : (Ge x).length ≤ 512) : Lk (Ge x) (Jf x 0) := by
  refine ⟨(Gf x 0).symm, h, ?_⟩
  have := (MT x [] (fun j hj => by simp at hj)).1
  simpa using this
end Go.Scarf
