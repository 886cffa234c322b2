/- A part of the proof. -/
import Derived.Test.YtepbomjpbdbejaaGreatDoorTd1
import Derived.Test.YtepbomjpbdbejaaGreatDoorP3
set_option linter.all false
set_option maxHeartbeats 8000000
set_option maxRecDepth 10000
namespace Go.Scarf
def W6 (k : Str) : Str := 107 :: Vp (.node 4 k [] [])
mutual
def Rf : Tree → List Str
  | .node k t ks xs => if k = 5 then Ff xs ++ [[91]] else if k = 6 then Be xs ks ++ [[123]] else [Vp (.node k t ks xs)]
def Ff : List Tree → List Str
  | [] => []
  | x :: xs => Rf x ++ Ff xs
def Be : List Tree → List Str → List Str
  | [], _ => []
  | x :: xs, ks => Rf x ++ (W6 (ks.headD []) :: Be xs ks.tail)
end
mutual
def Zi : Tree → Nat → List Int
  | .node k _ ks xs, b => if k = 5 then Zh xs b ++ [(b : Int)] else if k = 6 then Kh xs ks b ++ [(b : Int)] else [(b : Int)]
def Zh : List Tree → Nat → List Int
  | [], _ => []
  | x :: xs, b => Zi x b ++ Zh xs (b + (Rf x).length)
def Kh : List Tree → List Str → Nat → List Int
  | [], _, _ => []
  | x :: xs, ks, b => Zi x b ++ ((b : Int) :: Kh xs ks.tail (b + (Rf x).length + 1))
end
theorem Rs : ∀ (xs : List Tree), (∀ x ∈ xs, ∀ b, (Zi x b).length = (Rf x).length) → ∀ b, (Zh xs b).length = (Ff xs).length
  | [], _, b => by rw [Zh, Ff]; rfl
  | x :: xs, h, b => by rw [Zh, Ff, List.length_append, List.length_append, h x Fa, Rs xs (fun y hy => h y (by simp [hy]))]
theorem Qs : ∀ (xs : List Tree) (ks : List Str), (∀ x ∈ xs, ∀ b, (Zi x b).length = (Rf x).length) → ∀ b, (Kh xs ks b).length = (Be xs ks).length
  | [], _, _, b => by rw [Kh, Be]; rfl
  | x :: xs, ks, h, b => by
    rw [Kh, Be, List.length_append, List.length_append, List.length_cons, List.length_cons, h x Fa, Qs xs _ (fun y hy => h y (by simp [hy]))]
theorem En (x : Tree) : ∀ b, (Zi x b).length = (Rf x).length := Tree.ind (Q := fun x => ∀ b, (Zi x b).length = (Rf x).length) (fun k t ks xs ih b => by
  rw [Zi, Rf]
  split
  · rw [List.length_append, List.length_append, Rs xs ih]; rfl
  · split
    · rw [List.length_append, List.length_append, Qs xs ks ih]; rfl
    · rfl) x
theorem H4 : ∀ (xs : List Tree), (∀ x ∈ xs, (Rf x).length ≤ Kc x + Om x) → (Ff xs).length ≤ Rc xs + Fk xs
  | [], _ => by rw [Ff]; simp
  | x :: xs, h => by
    have h1 := h x Fa
    have h2 := H4 xs fun y hy => h y (by simp [hy])
    rw [Ff, Rc, Fk, List.length_append]; omega
theorem J2 : ∀ (xs : List Tree) (ks : List Str), (∀ x ∈ xs, (Rf x).length ≤ Kc x + Om x) → (Be xs ks).length ≤ Rc xs + Fk xs + xs.length
  | [], _, _ => by rw [Be]; simp
  | x :: xs, ks, h => by
    have h1 := h x Fa
    have h2 := J2 xs ks.tail fun y hy => h y (by simp [hy])
    rw [Be, Rc, Fk, List.length_append, List.length_cons, List.length_cons]; omega
theorem HJ (x : Tree) : Ud nodeB x = true → (Rf x).length ≤ Kc x + Om x := Tree.ind (Q := fun x => Ud nodeB x = true → (Rf x).length ≤ Kc x + Om x) (fun k t ks xs ih h => by
  obtain ⟨hn, hx⟩ := Gg h
  rw [Rf, Kc, Om]
  split
  · have := H4 xs fun y hy => ih y hy (hx y hy)
    rw [List.length_append, List.length_singleton]; omega
  · split
    · rename_i h6
      subst h6
      have h2 := (Dq hn).2
      have := J2 xs ks fun y hy => ih y hy (hx y hy)
      rw [List.length_append, List.length_singleton]; omega
    · rw [List.length_singleton]; omega) x
theorem H8 (x : Tree) : 0 < (Rf x).length := by
  obtain ⟨k, t, ks, xs⟩ := x
  rw [Rf]
  split
  · simp
  · split <;> simp
def Beh (fs : List Int) (b : Nat) : Prop := ∀ j (h : j < fs.length), b ≤ j → (b : Int) ≤ fs[j]
theorem lfOk.more {fs gs : List Int} {n : Nat} (h : lfOk fs n) (hn : n ≤ fs.length) : lfOk (fs ++ gs) n := by
  intro j hj hjn
  have h1 := h j by_Om hjn
  rw [List.getElem_append_left by_Om]
  refine ⟨h1.1, h1.2.1, fun i hi hle => ?_⟩
  rw [List.getElem_append_left by_Om]
  exact h1.2.2 i hi hle
theorem Beh.more {fs gs : List Int} {b c : Nat} (h : Beh fs b) (hc : Beh (fs ++ gs) c) (h1 : b ≤ c) (h2 : c ≤ fs.length) : Beh (fs ++ gs) b := by
  intro j hj hb
  by_cases e : j < fs.length
  · rw [List.getElem_append_left e]; exact h j e hb
  · have := hc j hj by_Om; omega
theorem G2 {fs : List Int} {b : Nat} (h : lfOk fs fs.length) (hb : Beh fs b) (hl : b ≤ fs.length) : lfOk (fs ++ [(b : Int)]) (fs ++ [(b : Int)]).length ∧ Beh (fs ++ [(b : Int)]) b := by
  have hlen : (fs ++ [(b : Int)]).length = fs.length + 1 := by simp
  refine ⟨?_, fun j hj hbj => ?_⟩
  · rw [hlen]
    refine (h.more (gs := [(b : Int)]) (Nat.le_refl _)).snoc by_Om ?_ ?_ ?_
    · rw [List.getElem_append_right (Nat.le_refl _)]; simp
    · rw [List.getElem_append_right (Nat.le_refl _)]; simp; omega
    · intro z hz hle
      rw [List.getElem_append_right (Nat.le_refl _)] at hle ⊢
      rw [List.getElem_append_left hz]
      simp only [Nat.sub_self, List.getElem_singleton] at hle ⊢
      exact hb z hz by_Om
  · by_cases e : j < fs.length
    · rw [List.getElem_append_left e]; exact hb j e hbj
    · rw [List.getElem_append_right by_Om]; simp
theorem Beh.all (fs : List Int) : Beh fs fs.length := fun j hj h => by omega
def D9 (x : Tree) : Prop := ∀ fs : List Int, lfOk fs fs.length → lfOk (fs ++ Zi x fs.length) (fs ++ Zi x fs.length).length ∧ Beh (fs ++ Zi x fs.length) fs.length
theorem NC : ∀ (xs : List Tree), (∀ x ∈ xs, D9 x) → ∀ fs : List Int, lfOk fs fs.length → lfOk (fs ++ Zh xs fs.length) (fs ++ Zh xs fs.length).length ∧ Beh (fs ++ Zh xs fs.length) fs.length
  | [], _, fs, h => by rw [Zh, List.append_nil]; exact ⟨h, Beh.all fs⟩
  | x :: xs, hx, fs, h => by
    obtain ⟨h1, h2⟩ := hx x Fa fs h
    obtain ⟨h3, h4⟩ := NC xs (fun y hy => hx y (by simp [hy])) _ h1
    have e : (fs ++ Zi x fs.length).length = fs.length + (Rf x).length := by rw [List.length_append, En]
    have e2 : fs ++ Zh (x :: xs) fs.length = (fs ++ Zi x fs.length) ++ Zh xs (fs ++ Zi x fs.length).length := by rw [Zh, e, List.append_assoc]
    rw [e2]
    exact ⟨h3, h2.more h4 by_Om (Nat.le_refl _)⟩
theorem SB : ∀ (xs : List Tree) (ks : List Str), (∀ x ∈ xs, D9 x) → ∀ fs : List Int, lfOk fs fs.length → lfOk (fs ++ Kh xs ks fs.length) (fs ++ Kh xs ks fs.length).length ∧ Beh (fs ++ Kh xs ks fs.length) fs.length
  | [], _, _, fs, h => by rw [Kh, List.append_nil]; exact ⟨h, Beh.all fs⟩
  | x :: xs, ks, hx, fs, h => by
    obtain ⟨h1, h2⟩ := hx x Fa fs h
    have e : (fs ++ Zi x fs.length).length = fs.length + (Rf x).length := by rw [List.length_append, En]
    obtain ⟨h5, h6⟩ := G2 h1 h2 by_Om
    obtain ⟨h3, h4⟩ := SB xs ks.tail (fun y hy => hx y (by simp [hy])) _ h5
    have e3 : (fs ++ Zi x fs.length ++ [(fs.length : Int)]).length = fs.length + (Rf x).length + 1 := by rw [List.length_append, e]; rfl
    have e2 : fs ++ Kh (x :: xs) ks fs.length = (fs ++ Zi x fs.length ++ [(fs.length : Int)]) ++ Kh xs ks.tail (fs ++ Zi x fs.length ++ [(fs.length : Int)]).length := by
      rw [Kh, e3]; simp [List.append_assoc]
    rw [e2]
    exact ⟨h3, h6.more h4 by_Om (Nat.le_refl _)⟩
theorem CN (x : Tree) : D9 x := Tree.ind (Q := D9) (fun k t ks xs ih fs h => by
  rw [Zi]
  split
  · obtain ⟨h1, h2⟩ := NC xs ih fs h
    have := G2 h1 h2 Fa
    rw [List.append_assoc] at this
    exact this
  · split
    · obtain ⟨h1, h2⟩ := SB xs ks ih fs h
      have := G2 h1 h2 Fa
      rw [List.append_assoc] at this
      exact this
    · exact G2 h (Beh.all fs) (Nat.le_refl _)) x
theorem E3 (x : Tree) (h : (Rf x).length ≤ 512) : Ig (Rf x) (Zi x 0) := by
  refine ⟨(En x 0).symm, h, ?_⟩
  have := (CN x [] (fun j hj => by simp at hj)).1
  simpa using this
end Go.Scarf
