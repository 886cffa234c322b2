/- A part of the proof. -/
import Derived.Test.YtepbomjpbdbejaaGreatDoorA18
set_option linter.all false
set_option maxHeartbeats 8000000
set_option maxRecDepth 10000
namespace Go.Scarf
open Go.RowKit Go.Proofs Go.Proofs.Tryz
abbrev AL (a b : List Tree) : Nat := al Jg pN (a.map Fb) (b.map Fb)
abbrev PT (a b : List Tree) : List (Int × Int) := Y0 0 0 (a.map Fb) (b.map Fb)
theorem RiseN.len {n size : Nat} : ∀ {m : List (Nat × Nat)} {k j : Nat}, RiseN n size k j m → k ≤ n → k + m.length ≤ n
  | [], _, _, _, h => by simpa using h
  | z :: m, k, _, h, _ => by have h1 := h.1; have h2 := h.2.1; have := RiseN.len h.2.2.2.2 by_Om; rw [List.length_cons]; omega
theorem XM {n size : Nat} {mp : List (Nat × Nat)} (h : RiseN n size 0 0 mp) (hn : n ≤ 64) : Wg n (Mc mp) size = true := by
  rw [Wg, Rr mp 0 0 (-1, -1) h Ra Ra, decide_eq_true by_Om]; rfl
theorem Zz (w0 : World) (hG : Gl w0) {a b : List Tree} {A B Cm : Option Addr} {c e cm nm : Nat} (hA_ : Rep (fun _ => True) w0 (.slice (Dd a)) [.slice A a.length c]) (hB_ : Rep (fun _ => True) w0 (.slice (Dd b)) [.slice B b.length e]) (S : Nat → Prop) (hM : Rep S w0 (Kh (PT a b)) [.slice Cm nm cm]) (hn : nm = (PT a b).length) (hxn : a.length ≤ 12) (hyn : b.length ≤ 12) (hokx : (∀ x ∈ a, Zb x = true ∧ Jg (Fb x) ≤ 512 ∧ Ac x ≤ 256 ∧ Ee x ≤ 16777216)) (hoky : (∀ x ∈ b, Zb x = true ∧ Jg (Fb x) ≤ 512 ∧ Ac x ≤ 256 ∧ Ee x ≤ 16777216)) :
    Calls prog 21 #[.slice A a.length c, .slice B b.length e, .slice Cm nm cm] w0 (Rd fun v w' => v = .int .i64 ((AL a b : Nat) : Int) ∧ Same [] w0 w') := by
  obtain ⟨mp, e1, hr, hp⟩ := TE a b
  subst hn
  rw [show PT a b = Mc mp from e1] at hM ⊢
  have := H4 w0 hG a A c hA_ b B e hB_ S mp Cm cm hM (XM hr by_Om) (by have := hr.len (Nat.zero_le _); omega) by_Om by_Om hr.all hokx hoky
  rwa [hp] at this
theorem N4 (w0 : World) (hG : Gl w0) {a b : List Tree} {A B Cm : Option Addr} {c e cm nm : Nat} (hA_ : Rep (fun _ => True) w0 (.slice (Dd a)) [.slice A a.length c]) (hB_ : Rep (fun _ => True) w0 (.slice (Dd b)) [.slice B b.length e]) (S : Nat → Prop) (m : List (Int × Int)) (hM : Rep S w0 (Kh m) [.slice Cm nm cm]) (hn : nm = m.length) (hxn : a.length ≤ 12) (hyn : b.length ≤ 12) (hokx : (∀ x ∈ a, Zb x = true ∧ Jg (Fb x) ≤ 512 ∧ Ac x ≤ 256 ∧ Ee x ≤ 16777216)) (hoky : (∀ x ∈ b, Zb x = true ∧ Jg (Fb x) ≤ 512 ∧ Ac x ≤ 256 ∧ Ee x ≤ 16777216)) :
    Calls prog 21 #[.slice A a.length c, .slice B b.length e, .slice Cm nm cm] w0 (Rd fun v w' => ∃ x : Int, v = .int .i64 x ∧ (x < 0 ∨ ((AL a b : Nat) : Int) ≤ x) ∧ Same [] w0 w') := by
  subst hn
  by_cases hr : Wg a.length m b.length = true
  · have hg : O0 a.length m b.length = true := by rw [W5, hr, decide_eq_false by_Om, decide_eq_false by_Om]; rfl
    obtain ⟨k, s, mp, h1, h2, -, -, rfl, h3, -, -⟩ := BC hg
    obtain rfl : k = a.length := by omega
    obtain rfl : s = b.length := by omega
    exact Zg (H4 w0 hG a A c hA_ b B e hB_ S mp Cm cm hM hr (by have := h3.len (Nat.zero_le _); omega) by_Om by_Om h3.all hokx hoky) fun v w' ⟨hv, hs⟩ => ⟨_, hv, .inr (by have h : AL a b ≤ Xz a b mp := NJ h3; omega), hs⟩
  · exact Zg (XJ w0 hG a A c hA_ b B e hB_ S m Cm cm hM (by simpa using hr)) fun v w' ⟨hv, hs⟩ => ⟨_, hv, .inl Ra, hs⟩
theorem D9 {l : List Tree} (h : Oi l = 0) (hf : Nq l = true) : (∀ x ∈ l, Zb x = true ∧ Jg (Fb x) ≤ 512 ∧ Ac x ≤ 256 ∧ Ee x ≤ 16777216) := fun x hx => by
  have hi := Cr hf x hx
  exact ⟨(At h).1 x hx, (Nz h (Cr hf)).2 _ (List.mem_map_of_mem hx), hi.2.1, hi.2.2⟩
theorem U_ {a b : List Tree} (ha : (∀ x ∈ a, Zb x = true ∧ Jg (Fb x) ≤ 512 ∧ Ac x ≤ 256 ∧ Ee x ≤ 16777216)) (hb : (∀ x ∈ b, Zb x = true ∧ Jg (Fb x) ≤ 512 ∧ Ac x ≤ 256 ∧ Ee x ≤ 16777216)) : AL a b = 0 ↔ a.length = b.length ∧ ∀ i (h1 : i < a.length) (h2 : i < b.length), Gm a[i] b[i] = true :=
  N6 (fun z hz => ⟨(ha z hz).1, (ha z hz).2.2.1⟩) (fun z hz => ⟨(hb z hz).1, (hb z hz).2.2.1⟩)
theorem M3 {a b : List Tree} {n1 : Int} {sm : Bool} {i : Nat} (hls : AL a b = 0 ↔ a.length = b.length ∧ ∀ i (h1 : i < a.length) (h2 : i < b.length), Gm a[i] b[i] = true) (e2 : n1 = ((AL a b : Nat) : Int))
    (hs1 : sm = true → a.length = b.length ∧ ∀ k, k < i → ∀ (h1 : k < a.length) (h2 : k < b.length), Gm a[k] b[k] = true) (hs0 : sm = false → ¬ (a.length = b.length ∧ ∀ k (h1 : k < a.length) (h2 : k < b.length), Gm a[k] b[k] = true))
    (hi : sm = false ∨ a.length ≤ i) : (decide (n1 = 0) == sm) = true := by
  cases sm with
  | true =>
    have h := hs1 rfl
    have h0 : AL a b = 0 := hls.2 ⟨h.1, fun k h1 h2 => h.2 k (by rcases hi with hi | hi; (cases hi); (omega)) h1 h2⟩
    rw [decide_eq_true (by rw [e2, h0]; rfl)]; rfl
  | false =>
    have h0 : AL a b ≠ 0 := fun q => hs0 rfl (hls.1 q)
    rw [decide_eq_false (by rw [e2]; omega)]; rfl
end Go.Scarf
