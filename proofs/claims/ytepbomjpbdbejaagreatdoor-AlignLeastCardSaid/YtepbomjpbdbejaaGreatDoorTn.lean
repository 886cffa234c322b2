/- A part of the proof. -/
import Derived.Test.YtepbomjpbdbejaaGreatDoorTd1
import Derived.Test.YtepbomjpbdbejaaGreatDoorP3
set_option linter.all false
set_option maxHeartbeats 8000000
set_option maxRecDepth 10000
namespace Go.Scarf
def K6 (k : Str) : Str := 107 :: Fm (.node 4 k [] [])
mutual
def Nf : Tree → List Str
  | .node k t ks xs => if k = 5 then Oe xs ++ [[91]] else if k = 6 then Yd xs ks ++ [[123]] else [Fm (.node k t ks xs)]
def Oe : List Tree → List Str
  | [] => []
  | x :: xs => Nf x ++ Oe xs
def Yd : List Tree → List Str → List Str
  | [], _ => []
  | x :: xs, ks => Nf x ++ (K6 (ks.headD []) :: Yd xs ks.tail)
end
mutual
def Oh : Tree → Nat → List Int
  | .node k _ ks xs, b => if k = 5 then Qg xs b ++ [(b : Int)] else if k = 6 then Qf xs ks b ++ [(b : Int)] else [(b : Int)]
def Qg : List Tree → Nat → List Int
  | [], _ => []
  | x :: xs, b => Oh x b ++ Qg xs (b + (Nf x).length)
def Qf : List Tree → List Str → Nat → List Int
  | [], _, _ => []
  | x :: xs, ks, b => Oh x b ++ ((b : Int) :: Qf xs ks.tail (b + (Nf x).length + 1))
end
theorem Fw : ∀ (xs : List Tree), (∀ x ∈ xs, ∀ b, (Oh x b).length = (Nf x).length) → ∀ b, (Qg xs b).length = (Oe xs).length
  | [], _, b => by rw [Qg, Oe]; rfl
  | x :: xs, h, b => by rw [Qg, Oe, List.length_append, List.length_append, h x Ga, Fw xs (fun y hy => h y (by simp [hy]))]
theorem Lv : ∀ (xs : List Tree) (ks : List Str), (∀ x ∈ xs, ∀ b, (Oh x b).length = (Nf x).length) → ∀ b, (Qf xs ks b).length = (Yd xs ks).length
  | [], _, _, b => by rw [Qf, Yd]; rfl
  | x :: xs, ks, h, b => by
    rw [Qf, Yd, List.length_append, List.length_append, List.length_cons, List.length_cons, h x Ga, Lv xs _ (fun y hy => h y (by simp [hy]))]
theorem Pi (x : Tree) : ∀ b, (Oh x b).length = (Nf x).length := Tree.ind (Q := fun x => ∀ b, (Oh x b).length = (Nf x).length) (fun k t ks xs ih b => by
  rw [Oh, Nf]
  split
  · rw [List.length_append, List.length_append, Fw xs ih]; rfl
  · split
    · rw [List.length_append, List.length_append, Lv xs ks ih]; rfl
    · rfl) x
theorem E8 : ∀ (xs : List Tree), (∀ x ∈ xs, (Nf x).length ≤ Ac x + Lo x) → (Oe xs).length ≤ Xc xs + Em xs
  | [], _ => by rw [Oe]; simp
  | x :: xs, h => by
    have h1 := h x Ga
    have h2 := E8 xs fun y hy => h y (by simp [hy])
    rw [Oe, Xc, Em, List.length_append]; omega
theorem X8 : ∀ (xs : List Tree) (ks : List Str), (∀ x ∈ xs, (Nf x).length ≤ Ac x + Lo x) → (Yd xs ks).length ≤ Xc xs + Em xs + xs.length
  | [], _, _ => by rw [Yd]; simp
  | x :: xs, ks, h => by
    have h1 := h x Ga
    have h2 := X8 xs ks.tail fun y hy => h y (by simp [hy])
    rw [Yd, Xc, Em, List.length_append, List.length_cons, List.length_cons]; omega
theorem UR (x : Tree) : Vc nodeB x = true → (Nf x).length ≤ Ac x + Lo x := Tree.ind (Q := fun x => Vc nodeB x = true → (Nf x).length ≤ Ac x + Lo x) (fun k t ks xs ih h => by
  obtain ⟨hn, hx⟩ := Td h
  rw [Nf, Ac, Lo]
  split
  · have := E8 xs fun y hy => ih y hy (hx y hy)
    rw [List.length_append, List.length_singleton]; omega
  · split
    · rename_i h6
      subst h6
      have h2 := (Tl hn).2
      have := X8 xs ks fun y hy => ih y hy (hx y hy)
      rw [List.length_append, List.length_singleton]; omega
    · rw [List.length_singleton]; omega) x
theorem Wn (x : Tree) : 0 < (Nf x).length := by
  obtain ⟨k, t, ks, xs⟩ := x
  rw [Nf]
  split
  · simp
  · split <;> simp
def Beh (fs : List Int) (b : Nat) : Prop := ∀ j (h : j < fs.length), b ≤ j → (b : Int) ≤ fs[j]
theorem lfOk.more {fs gs : List Int} {n : Nat} (h : lfOk fs n) (hn : n ≤ fs.length) : lfOk (fs ++ gs) n := by
  intro j hj hjn
  have h1 := h j by_Om hjn
  rw [List.getElem_append_left by_Om]
  refine ⟨h1.1, h1.2.1, fun i hi hle => ?_⟩
  rw [List.getElem_append_left by_Om]
  exact h1.2.2 i hi hle
theorem Beh.more {fs gs : List Int} {b c : Nat} (h : Beh fs b) (hc : Beh (fs ++ gs) c) (h1 : b ≤ c) (h2 : c ≤ fs.length) : Beh (fs ++ gs) b := by
  intro j hj hb
  by_cases e : j < fs.length
  · rw [List.getElem_append_left e]; exact h j e hb
  · have := hc j hj by_Om; omega
theorem J5 {fs : List Int} {b : Nat} (h : lfOk fs fs.length) (hb : Beh fs b) (hl : b ≤ fs.length) : lfOk (fs ++ [(b : Int)]) (fs ++ [(b : Int)]).length ∧ Beh (fs ++ [(b : Int)]) b := by
  have hlen : (fs ++ [(b : Int)]).length = fs.length + 1 := by simp
  refine ⟨?_, fun j hj hbj => ?_⟩
  · rw [hlen]
    refine (h.more (gs := [(b : Int)]) (Nat.le_refl _)).snoc by_Om ?_ ?_ ?_
    · rw [List.getElem_append_right (Nat.le_refl _)]; simp
    · rw [List.getElem_append_right (Nat.le_refl _)]; simp; omega
    · intro z hz hle
      rw [List.getElem_append_right (Nat.le_refl _)] at hle ⊢
      rw [List.getElem_append_left hz]
      simp only [Nat.sub_self, List.getElem_singleton] at hle ⊢
      exact hb z hz by_Om
  · by_cases e : j < fs.length
    · rw [List.getElem_append_left e]; exact hb j e hbj
    · rw [List.getElem_append_right by_Om]; simp
theorem Beh.all (fs : List Int) : Beh fs fs.length := fun j hj h => by omega
def EE (x : Tree) : Prop := ∀ fs : List Int, lfOk fs fs.length → lfOk (fs ++ Oh x fs.length) (fs ++ Oh x fs.length).length ∧ Beh (fs ++ Oh x fs.length) fs.length
theorem VK : ∀ (xs : List Tree), (∀ x ∈ xs, EE x) → ∀ fs : List Int, lfOk fs fs.length → lfOk (fs ++ Qg xs fs.length) (fs ++ Qg xs fs.length).length ∧ Beh (fs ++ Qg xs fs.length) fs.length
  | [], _, fs, h => by rw [Qg, List.append_nil]; exact ⟨h, Beh.all fs⟩
  | x :: xs, hx, fs, h => by
    obtain ⟨h1, h2⟩ := hx x Ga fs h
    obtain ⟨h3, h4⟩ := VK xs (fun y hy => hx y (by simp [hy])) _ h1
    have e : (fs ++ Oh x fs.length).length = fs.length + (Nf x).length := by rw [List.length_append, Pi]
    have e2 : fs ++ Qg (x :: xs) fs.length = (fs ++ Oh x fs.length) ++ Qg xs (fs ++ Oh x fs.length).length := by rw [Qg, e, List.append_assoc]
    rw [e2]
    exact ⟨h3, h2.more h4 by_Om (Nat.le_refl _)⟩
theorem LH : ∀ (xs : List Tree) (ks : List Str), (∀ x ∈ xs, EE x) → ∀ fs : List Int, lfOk fs fs.length → lfOk (fs ++ Qf xs ks fs.length) (fs ++ Qf xs ks fs.length).length ∧ Beh (fs ++ Qf xs ks fs.length) fs.length
  | [], _, _, fs, h => by rw [Qf, List.append_nil]; exact ⟨h, Beh.all fs⟩
  | x :: xs, ks, hx, fs, h => by
    obtain ⟨h1, h2⟩ := hx x Ga fs h
    have e : (fs ++ Oh x fs.length).length = fs.length + (Nf x).length := by rw [List.length_append, Pi]
    obtain ⟨h5, h6⟩ := J5 h1 h2 by_Om
    obtain ⟨h3, h4⟩ := LH xs ks.tail (fun y hy => hx y (by simp [hy])) _ h5
    have e3 : (fs ++ Oh x fs.length ++ [(fs.length : Int)]).length = fs.length + (Nf x).length + 1 := by rw [List.length_append, e]; rfl
    have e2 : fs ++ Qf (x :: xs) ks fs.length = (fs ++ Oh x fs.length ++ [(fs.length : Int)]) ++ Qf xs ks.tail (fs ++ Oh x fs.length ++ [(fs.length : Int)]).length := by
      rw [Qf, e3]; simp [List.append_assoc]
    rw [e2]
    exact ⟨h3, h6.more h4 by_Om (Nat.le_refl _)⟩
theorem NU (x : Tree) : EE x := Tree.ind (Q := EE) (fun k t ks xs ih fs h => by
  rw [Oh]
  split
  · obtain ⟨h1, h2⟩ := VK xs ih fs h
    have := J5 h1 h2 Ga
    rw [List.append_assoc] at this
    exact this
  · split
    · obtain ⟨h1, h2⟩ := LH xs ks ih fs h
      have := J5 h1 h2 Ga
      rw [List.append_assoc] at this
      exact this
    · exact J5 h (Beh.all fs) (Nat.le_refl _)) x
theorem O9 (x : Tree) (h : (Nf x).length ≤ 512) : Yf (Nf x) (Oh x 0) := by
  refine ⟨(Pi x 0).symm, h, ?_⟩
  have := (NU x [] (fun j hj => by simp at hj)).1
  simpa using this
end Go.Scarf
