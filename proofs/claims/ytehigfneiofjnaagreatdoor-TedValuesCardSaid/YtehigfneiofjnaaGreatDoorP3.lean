/- A part of the proof. -/
import Derived.Test.YtehigfneiofjnaaGreatDoorBd
import Derived.Test.YtehigfneiofjnaaGreatDoorP1
set_option linter.all false
set_option maxHeartbeats 8000000
set_option maxRecDepth 10000
namespace Go.Scarf
theorem CB : ∀ {xs : List Tree}, (∀ x ∈ xs, TC x) → F_ xs
  | [], _ => by rw [F_]; trivial
  | x :: xs, h => by rw [F_]; exact ⟨h x Sa, CB (fun y hy => h y (by simp [hy]))⟩
mutual
def Ae : Tree → Nat | .node _ t ks xs => max t.length (max (Ok ks) (Oj xs))
def Oj : List Tree → Nat | [] => 0 | x :: xs => max (Ae x) (Oj xs)
def Ok : List Str → Nat | [] => 0 | k :: ks => max k.length (Ok ks)
end
theorem Ch : ∀ {ks : List Str} {k : Str}, k ∈ ks → k.length ≤ Ok ks
  | y :: ys, k, h => by
    rw [Ok]
    rcases List.mem_cons.1 h with rfl | h
    · omega
    · have := Ch h; omega
theorem Pg : ∀ {xs : List Tree} {x : Tree}, x ∈ xs → Ae x ≤ Oj xs
  | y :: ys, k, h => by
    rw [Oj]
    rcases List.mem_cons.1 h with rfl | h
    · omega
    · have := Pg h; omega
theorem Uz {n : Nat} : ∀ {ks : List Str}, (∀ k ∈ ks, k.length ≤ n) → Ok ks ≤ n
  | [], _ => by rw [Ok]; omega
  | k :: ks, h => by
    rw [Ok]
    have h1 := h k Sa
    have h2 := Uz (fun y hy => h y (by simp [hy]) : ∀ k ∈ ks, k.length ≤ n)
    omega
theorem Pz {n : Nat} : ∀ {xs : List Tree}, (∀ x ∈ xs, Ae x ≤ n) → Oj xs ≤ n
  | [], _ => by rw [Oj]; omega
  | k :: ks, h => by
    rw [Oj]
    have h1 := h k Sa
    have h2 := Pz (fun y hy => h y (by simp [hy]) : ∀ x ∈ ks, Ae x ≤ n)
    omega
theorem GL (x : Tree) : Ae x ≤ 17592186044416 → TC x := Tree.ind (Q := fun x => Ae x ≤ 17592186044416 → TC x) (fun k t ks xs ih h => by
  rw [Ae] at h
  rw [TC]
  exact ⟨by omega, fun k hk => by have := Ch hk; omega, CB fun y hy => ih y hy (by have := Pg hy; omega)⟩) x
theorem Fy (x : Tree) : Ae x ≤ 17592186044416 → H5 x := Tree.ind (Q := fun x => Ae x ≤ 17592186044416 → H5 x) (fun k t ks xs ih h => by
  rw [Ae] at h
  rw [H5]
  exact ⟨by omega, fun k hk => by have := Ch hk; omega, GB fun y hy => ih y hy (by have := Pg hy; omega)⟩) x
theorem Ek (x : Tree) : Zj x = true → Ae x ≤ 2048 := Tree.ind (Q := fun x => Zj x = true → Ae x ≤ 2048) (fun k t ks xs ih h => by
  rw [Zj, Bool.and_eq_true, Bool.and_eq_true, decide_eq_true_eq, List.all_eq_true] at h
  rw [Ae]
  have h1 : Ok ks ≤ 2048 := Uz fun k hk => by have := h.1.2 k hk; simp only [decide_eq_true_eq] at this; omega
  have key : ∀ ys : List Tree, (∀ y ∈ ys, y ∈ xs) → Ao ys = true → Oj ys ≤ 2048 := by
    intro ys
    induction ys with
    | nil => intro _ _; rw [Oj]; omega
    | cons y ys ihy =>
      intro hm hs
      rw [Ao, Bool.and_eq_true] at hs
      rw [Oj]
      have a := ih y (hm y Sa) hs.1
      have b := ihy (fun z hz => hm z (by simp [hz])) hs.2
      omega
  have h2 := key xs (fun _ h => h) h.2
  omega) x
theorem PG (x : Tree) : Ae (Mh x) ≤ Ae x := Tree.ind (Q := fun x => Ae (Mh x) ≤ Ae x) (fun k t ks xs ih => by
  have hs : ∀ y ∈ Jg xs, Ae y ≤ Oj xs := by
    intro y hy
    rw [Aj] at hy
    obtain ⟨z, hz, rfl⟩ := List.mem_map.1 hy
    exact Nat.le_trans (ih z hz) (Pg hz)
  rw [Mh]
  split
  · rw [Ae, Ae]
    have h1 : Ok (Sf ks) ≤ Ok ks := Uz fun k hk => Ch (Wo.1 hk)
    have h2 : Oj ((Sf ks).map fun key => (Ai ks (Jg xs) key).getD (.node 0 [] [] [])) ≤ Oj xs := Pz fun y hy => by
      obtain ⟨key, _, rfl⟩ := List.mem_map.1 hy
      cases hl : Ai ks (Jg xs) key with
      | none => simp [Ae, Ok, Oj]
      | some z => exact hs z (J2 hl)
    omega
  · rw [Ae, Ae]
    have h2 := Pz hs
    have h3 : Ok [] = 0 := by rw [Ok]
    omega) x
theorem Mu (m : Bool) (ind d : Nat) (D : Nat) (hD : d + 1 ≤ D) : ∀ (ps : List Str) (b : Bool), (Ii m ind d b ps).length ≤ (ps.map fun p => p.length + (2 + ind * D)).sum
  | [], b => by rw [Ii]; simp
  | p :: ps, b => by
    have h1 := Mu m ind d D hD ps false
    have h2 := Su m ind (d + 1)
    have h3 : ind * (d + 1) ≤ ind * D := Nat.mul_le_mul_left _ hD
    have h4 : (if b = true then ([] : Str) else [44]).length ≤ 1 := by split <;> simp
    rw [Ii, List.map_cons, List.sum_cons]
    simp only [List.length_append]
    omega
theorem N1 (m : Bool) (ind L D : Nat) (x : Tree) : ∀ d, Ae x ≤ L → d + Wc x ≤ D → (Ig m ind x d).length + (6 * L + 6 + ind * D) ≤ Ec x * (12 * L + 40 + 2 * (ind * D)) :=
  Tree.ind (Q := fun x => ∀ d, Ae x ≤ L → d + Wc x ≤ D → (Ig m ind x d).length + (6 * L + 6 + ind * D) ≤ Ec x * (12 * L + 40 + 2 * (ind * D))) (fun k t ks xs ih d hL hd => by
  rw [Ae] at hL
  rw [Wc] at hd
  have hq := Nw t
  have hl := Su m ind d
  have hid : ind * d ≤ ind * D := Nat.mul_le_mul_left _ by_Om
  have key1 : ∀ ys : List Tree, (∀ y ∈ ys, y ∈ xs) → ((Bo m ind ys (d + 1)).map fun p => p.length + (2 + ind * D)).sum ≤ Zc ys * (12 * L + 40 + 2 * (ind * D)) := by
    intro ys
    induction ys with
    | nil => intro _; simp [Bo]
    | cons y ys ihy =>
      intro hm
      have h1 := ih y (hm y Sa) (d + 1) (by have := Pg (hm y Sa); omega) (by have := Lg (hm y Sa); omega)
      have h2 := ihy (fun z hz => hm z (by simp [hz]))
      rw [Bo, List.map_cons, List.sum_cons, Zc, Nat.add_mul]
      omega
  have key2 : ∀ (ys : List Tree) (js : List Str), (∀ y ∈ ys, y ∈ xs) → (∀ k ∈ js, k.length ≤ L) → ((Hl m ind ys js (d + 1)).map fun p => p.length + (2 + ind * D)).sum ≤ Zc ys * (12 * L + 40 + 2 * (ind * D)) := by
    intro ys
    induction ys with
    | nil => intro _ _ _; simp [Hl]
    | cons y ys ihy =>
      intro js hm hj
      have h1 := ih y (hm y Sa) (d + 1) (by have := Pg (hm y Sa); omega) (by have := Lg (hm y Sa); omega)
      have h2 := ihy js.tail (fun z hz => hm z (by simp [hz])) (fun k hk => hj k (List.mem_of_mem_tail hk))
      have h3 : (js.headD []).length ≤ L := by
        cases js with
        | nil => simp
        | cons a b => exact hj a Sa
      have h4 := Nw (js.headD [])
      have h5 : (if m = true then ([32] : Str) else []).length ≤ 1 := by split <;> simp
      rw [Hl, List.map_cons, List.sum_cons, Zc, Nat.add_mul]
      simp only [List.length_append, List.length_cons, List.length_nil]
      omega
  have fin : ∀ (o c : UInt8) (ps : List Str) (N : Nat), (xs = [] → ps = []) → (ps.map fun p => p.length + (2 + ind * D)).sum ≤ N → (Pl m ind d o c ps).length + (6 * L + 6 + ind * D) ≤ 1 * (12 * L + 40 + 2 * (ind * D)) + N := by
    intro o c ps N he hN
    have h5 : (if ps = [] then ([] : Str) else Zg m ind d).length ≤ 1 + ind * D := by
      split
      · simp
      · omega
    have h6 : (Ii m ind d true ps).length ≤ N := by
      by_cases hp : ps = []
      · subst hp; rw [Ii]; simp
      · have hx : xs ≠ [] := fun h => hp (he h)
        have h7 : 1 ≤ Hd xs := by
          cases xs with
          | nil => exact absurd rfl hx
          | cons a b => rw [Hd]; have : 1 ≤ Wc a := by (obtain ⟨_, _, _, _⟩ := a; rw [Wc]; omega)
                        omega
        exact Nat.le_trans (Mu m ind d D by_Om ps true) hN
    rw [Pl]
    simp only [List.length_append, List.length_cons, List.length_nil]
    omega
  rw [Ig, Ec, Nat.add_mul]
  split
  · simp only [List.length_cons, List.length_nil]; omega
  split
  · omega
  split
  · exact fin _ _ _ _ (fun h => by rw [h, Bo]) (key1 xs (fun _ h => h))
  split
  · exact fin _ _ _ _ (fun h => by rw [h, Hl]) (key2 xs ks (fun _ h => h) (fun k hk => by have := Ch hk; omega))
  · omega) x
end Go.Scarf
namespace Go.Scarf
def Fg (x : Tree) : Str := if Yc x = true then Ig false 0 x 0 else []
def T5 (x : Tree) : Int := if Yc x = true then 0 else 1
theorem Ip (q : Tree → Bool) : ∀ xs : List Tree, Jp q xs = xs.all (Yd q)
  | [] => rfl
  | x :: xs => by rw [Jp, Ip q xs]; rfl
def AT (x : Tree) : Bool := decide (x.kind ≠ 7)
theorem ZF (p q : Tree → Bool) (x : Tree) : Yd (fun x => p x && q x) x = (Yd p x && Yd q x) := Tree.ind (Q := fun x => Yd (fun x => p x && q x) x = (Yd p x && Yd q x)) (fun k t ks xs ih => by
  rw [Yd, Yd, Yd, Ip, Ip, Ip]
  have h : xs.all (Yd fun x => p x && q x) = (xs.all (Yd p) && xs.all (Yd q)) := by
    rw [Bool.eq_iff_iff, Bool.and_eq_true, List.all_eq_true, List.all_eq_true, List.all_eq_true]
    refine ⟨fun g => ⟨fun y hy => ?_, fun y hy => ?_⟩, fun g y hy => ?_⟩
    · have := g y hy; rw [ih y hy, Bool.and_eq_true] at this; exact this.1
    · have := g y hy; rw [ih y hy, Bool.and_eq_true] at this; exact this.2
    · rw [ih y hy, Bool.and_eq_true]; exact ⟨g.1 y hy, g.2 y hy⟩
  rw [h]
  cases p (.node k t ks xs) <;> cases q (.node k t ks xs) <;> simp) x
theorem GH (x : Tree) : Yc x = (Ti x && Yd AT x) := by
  have h : Yd rnodeB x = (Yd AT x && Yd nodeB x) := ZF AT nodeB x
  rw [Yc, Ti, h]
  cases Yj x <;> cases Yd AT x <;> simp
theorem Ol {x : Tree} (h : Yc x = true) : Ti x = true := by
  rw [GH, Bool.and_eq_true] at h; exact h.1
theorem Ix (x : Tree) (h : Ec x ≤ 1000000000) : Ec (Cf x) ≤ 1000000000 := by
  by_cases ho : Ti x = true
  · rw [Yn ho, (Sw x (Tn ho)).1]; exact h
  · rw [Cf, if_neg ho]; decide
theorem Io (x : Tree) : Ae (Cf x) ≤ Ae x := by
  by_cases ho : Ti x = true
  · rw [Yn ho]; exact PG x
  · rw [Cf, if_neg ho]
    have : Ae YG = 0 := by decide
    omega
end Go.Scarf
namespace Go.Scarf
open Go.RowKit Go.Proofs Go.Proofs.Tryz
def OI (x : Tree) (ind d : Int) : Prop := Yc x = true ∧ (0 ≤ ind ∧ ind ≤ 8) ∧ (0 ≤ d ∧ d ≤ 32)
instance (x : Tree) (ind d : Int) : Decidable (OI x ind d) := by unfold OI; infer_instance
theorem F2 {x : Tree} (h : Yc x = true) (hm : Ae x ≤ 1073741824) (m : Bool) (ind d : Nat) (hi : ind ≤ 8) (hd : d ≤ 32) : (Ig m ind x d).length ≤ 140737488355328 := by
  have h1 := Eo h
  have h2 := N1 m ind (Ae x) 64 x d (Nat.le_refl _) by_Om
  have h3 : Ec x ≤ 4096 := F1 (Ol h)
  have h4 : ind * 64 ≤ 8 * 64 := Nat.mul_le_mul_right _ hi
  have h5 : Ec x * (12 * Ae x + 40 + 2 * (ind * 64)) ≤ 4096 * (12 * 1073741824 + 40 + 2 * 512) := Nat.mul_le_mul h3 by_Om
  omega
theorem QQ (x : Tree) (S : Nat → Prop) (w0 : World) (cs : List Value) (rx : Rep S w0 (Gc x) cs) (hG : Gl w0) (hsz : Ec x ≤ 1000000000) (hm : Ae x ≤ 1073741824) : Calls prog 55 #[.agg cs.toArray] w0 (Ce fun v w' => v = .tuple #[.string (bs (Fg x)), .int .i64 (T5 x)] ∧ Same [] w0 w') := by
  refine To (BF x S w0 cs rx hG (Fy x by_Om) (GL x by_Om) hsz (fun h => F2 h hm _ _ _ by_Om by_Om)) fun v w' ⟨h1, h2⟩ => ⟨?_, h2⟩
  rw [h1, Fg, T5]
  split <;> rfl
end Go.Scarf
