/- A part of the proof. -/
import Derived.Test.YtpliibolgknenaaGreatDoorTd1
import Derived.Test.YtpliibolgknenaaGreatDoorP3
set_option linter.all false
namespace Go.Scarf
def keyL (k : Str) : Str := 107 :: compS (.node 4 k [] [])
mutual
def labT : Tree → List Str
  | .node k t ks xs => if k = 5 then labTs xs ++ [[91]] else if k = 6 then labKs xs ks ++ [[123]] else [compS (.node k t ks xs)]
def labTs : List Tree → List Str
  | [] => []
  | x :: xs => labT x ++ labTs xs
def labKs : List Tree → List Str → List Str
  | [], _ => []
  | x :: xs, ks => labT x ++ (keyL (ks.headD []) :: labKs xs ks.tail)
end
mutual
def lefT : Tree → Nat → List Int
  | .node k _ ks xs, b => if k = 5 then lefTs xs b ++ [(b : Int)] else if k = 6 then lefKs xs ks b ++ [(b : Int)] else [(b : Int)]
def lefTs : List Tree → Nat → List Int
  | [], _ => []
  | x :: xs, b => lefT x b ++ lefTs xs (b + (labT x).length)
def lefKs : List Tree → List Str → Nat → List Int
  | [], _, _ => []
  | x :: xs, ks, b => lefT x b ++ ((b : Int) :: lefKs xs ks.tail (b + (labT x).length + 1))
end
theorem lefTs_len : ∀ (xs : List Tree), (∀ x ∈ xs, ∀ b, (lefT x b).length = (labT x).length) → ∀ b, (lefTs xs b).length = (labTs xs).length
  | [], _, b => by rw [lefTs, labTs]; rfl
  | x :: xs, h, b => by rw [lefTs, labTs, List.length_append, List.length_append, h x (by simp), lefTs_len xs (fun y hy => h y (by simp [hy]))]
theorem lefKs_len : ∀ (xs : List Tree) (ks : List Str), (∀ x ∈ xs, ∀ b, (lefT x b).length = (labT x).length) → ∀ b, (lefKs xs ks b).length = (labKs xs ks).length
  | [], _, _, b => by rw [lefKs, labKs]; rfl
  | x :: xs, ks, h, b => by
    rw [lefKs, labKs, List.length_append, List.length_append, List.length_cons, List.length_cons, h x (by simp), lefKs_len xs _ (fun y hy => h y (by simp [hy]))]
theorem lef_len (x : Tree) : ∀ b, (lefT x b).length = (labT x).length := Tree.ind (Q := fun x => ∀ b, (lefT x b).length = (labT x).length) (fun k t ks xs ih b => by
  rw [lefT, labT]
  split
  · rw [List.length_append, List.length_append, lefTs_len xs ih]; rfl
  · split
    · rw [List.length_append, List.length_append, lefKs_len xs ks ih]; rfl
    · rfl) x
theorem labTs_le : ∀ (xs : List Tree), (∀ x ∈ xs, (labT x).length ≤ sizeT x + keysT x) → (labTs xs).length ≤ sizeTs xs + keysTs xs
  | [], _ => by rw [labTs]; simp
  | x :: xs, h => by
    have h1 := h x (by simp)
    have h2 := labTs_le xs fun y hy => h y (by simp [hy])
    rw [labTs, sizeTs, keysTs, List.length_append]; omega
theorem labKs_le : ∀ (xs : List Tree) (ks : List Str), (∀ x ∈ xs, (labT x).length ≤ sizeT x + keysT x) → (labKs xs ks).length ≤ sizeTs xs + keysTs xs + xs.length
  | [], _, _ => by rw [labKs]; simp
  | x :: xs, ks, h => by
    have h1 := h x (by simp)
    have h2 := labKs_le xs ks.tail fun y hy => h y (by simp [hy])
    rw [labKs, sizeTs, keysTs, List.length_append, List.length_cons, List.length_cons]; omega
theorem lab_le (x : Tree) : allT nodeB x = true → (labT x).length ≤ sizeT x + keysT x := Tree.ind (Q := fun x => allT nodeB x = true → (labT x).length ≤ sizeT x + keysT x) (fun k t ks xs ih h => by
  obtain ⟨hn, hx⟩ := allT_node h
  rw [labT, sizeT, keysT]
  split
  · have := labTs_le xs fun y hy => ih y hy (hx y hy)
    rw [List.length_append, List.length_singleton]; omega
  · split
    · rename_i h6
      subst h6
      have h2 := (node6 hn).2
      have := labKs_le xs ks fun y hy => ih y hy (hx y hy)
      rw [List.length_append, List.length_singleton]; omega
    · rw [List.length_singleton]; omega) x
theorem lab_pos (x : Tree) : 0 < (labT x).length := by
  obtain ⟨k, t, ks, xs⟩ := x
  rw [labT]
  split
  · simp
  · split <;> simp
def Beh (fs : List Int) (b : Nat) : Prop := ∀ j (h : j < fs.length), b ≤ j → (b : Int) ≤ fs[j]
theorem lfOk.more {fs gs : List Int} {n : Nat} (h : lfOk fs n) (hn : n ≤ fs.length) : lfOk (fs ++ gs) n := by
  intro j hj hjn
  have h1 := h j (by omega) hjn
  rw [List.getElem_append_left (by omega)]
  refine ⟨h1.1, h1.2.1, fun i hi hle => ?_⟩
  rw [List.getElem_append_left (by omega)]
  exact h1.2.2 i hi hle
theorem Beh.more {fs gs : List Int} {b c : Nat} (h : Beh fs b) (hc : Beh (fs ++ gs) c) (h1 : b ≤ c) (h2 : c ≤ fs.length) : Beh (fs ++ gs) b := by
  intro j hj hb
  by_cases e : j < fs.length
  · rw [List.getElem_append_left e]; exact h j e hb
  · have := hc j hj (by omega); omega
theorem top_ok {fs : List Int} {b : Nat} (h : lfOk fs fs.length) (hb : Beh fs b) (hl : b ≤ fs.length) : lfOk (fs ++ [(b : Int)]) (fs ++ [(b : Int)]).length ∧ Beh (fs ++ [(b : Int)]) b := by
  have hlen : (fs ++ [(b : Int)]).length = fs.length + 1 := by simp
  refine ⟨?_, fun j hj hbj => ?_⟩
  · rw [hlen]
    refine (h.more (gs := [(b : Int)]) (Nat.le_refl _)).snoc (by omega) ?_ ?_ ?_
    · rw [List.getElem_append_right (Nat.le_refl _)]; simp
    · rw [List.getElem_append_right (Nat.le_refl _)]; simp; omega
    · intro z hz hle
      rw [List.getElem_append_right (Nat.le_refl _)] at hle ⊢
      rw [List.getElem_append_left hz]
      simp only [Nat.sub_self, List.getElem_singleton] at hle ⊢
      exact hb z hz (by omega)
  · by_cases e : j < fs.length
    · rw [List.getElem_append_left e]; exact hb j e hbj
    · rw [List.getElem_append_right (by omega)]; simp
theorem Beh.all (fs : List Int) : Beh fs fs.length := fun j hj h => by omega
def GoodT (x : Tree) : Prop := ∀ fs : List Int, lfOk fs fs.length → lfOk (fs ++ lefT x fs.length) (fs ++ lefT x fs.length).length ∧ Beh (fs ++ lefT x fs.length) fs.length
theorem goodTs : ∀ (xs : List Tree), (∀ x ∈ xs, GoodT x) → ∀ fs : List Int, lfOk fs fs.length → lfOk (fs ++ lefTs xs fs.length) (fs ++ lefTs xs fs.length).length ∧ Beh (fs ++ lefTs xs fs.length) fs.length
  | [], _, fs, h => by rw [lefTs, List.append_nil]; exact ⟨h, Beh.all fs⟩
  | x :: xs, hx, fs, h => by
    obtain ⟨h1, h2⟩ := hx x (by simp) fs h
    obtain ⟨h3, h4⟩ := goodTs xs (fun y hy => hx y (by simp [hy])) _ h1
    have e : (fs ++ lefT x fs.length).length = fs.length + (labT x).length := by rw [List.length_append, lef_len]
    have e2 : fs ++ lefTs (x :: xs) fs.length = (fs ++ lefT x fs.length) ++ lefTs xs (fs ++ lefT x fs.length).length := by rw [lefTs, e, List.append_assoc]
    rw [e2]
    exact ⟨h3, h2.more h4 (by omega) (Nat.le_refl _)⟩
theorem goodKs : ∀ (xs : List Tree) (ks : List Str), (∀ x ∈ xs, GoodT x) → ∀ fs : List Int, lfOk fs fs.length → lfOk (fs ++ lefKs xs ks fs.length) (fs ++ lefKs xs ks fs.length).length ∧ Beh (fs ++ lefKs xs ks fs.length) fs.length
  | [], _, _, fs, h => by rw [lefKs, List.append_nil]; exact ⟨h, Beh.all fs⟩
  | x :: xs, ks, hx, fs, h => by
    obtain ⟨h1, h2⟩ := hx x (by simp) fs h
    have e : (fs ++ lefT x fs.length).length = fs.length + (labT x).length := by rw [List.length_append, lef_len]
    obtain ⟨h5, h6⟩ := top_ok h1 h2 (by omega)
    obtain ⟨h3, h4⟩ := goodKs xs ks.tail (fun y hy => hx y (by simp [hy])) _ h5
    have e3 : (fs ++ lefT x fs.length ++ [(fs.length : Int)]).length = fs.length + (labT x).length + 1 := by rw [List.length_append, e]; rfl
    have e2 : fs ++ lefKs (x :: xs) ks fs.length = (fs ++ lefT x fs.length ++ [(fs.length : Int)]) ++ lefKs xs ks.tail (fs ++ lefT x fs.length ++ [(fs.length : Int)]).length := by
      rw [lefKs, e3]; simp [List.append_assoc]
    rw [e2]
    exact ⟨h3, h6.more h4 (by omega) (Nat.le_refl _)⟩
theorem good (x : Tree) : GoodT x := Tree.ind (Q := GoodT) (fun k t ks xs ih fs h => by
  rw [lefT]
  split
  · obtain ⟨h1, h2⟩ := goodTs xs ih fs h
    have := top_ok h1 h2 (by simp)
    rw [List.append_assoc] at this
    exact this
  · split
    · obtain ⟨h1, h2⟩ := goodKs xs ks ih fs h
      have := top_ok h1 h2 (by simp)
      rw [List.append_assoc] at this
      exact this
    · exact top_ok h (Beh.all fs) (Nat.le_refl _)) x
theorem right_nodes (x : Tree) (h : (labT x).length ≤ 512) : RightT (labT x) (lefT x 0) := by
  refine ⟨(lef_len x 0).symm, h, ?_⟩
  have := (good x [] (fun j hj => by simp at hj)).1
  simpa using this
end Go.Scarf
