/- A part of the proof. -/
import Derived.Test.YtehmojdjpmliaaaGreatDoorP3
import Derived.Lib.BufferRead
set_option linter.all false
namespace Go.Scarf
open Go.RowKit Go.Proofs
def nq (q : Bool) (c : UInt8) : Bool := if c = 34 then !q else q
def keepB (q : Bool) (c : UInt8) (l : Str) : Str := if nq q c = true ∨ (c ≠ 32 ∧ c ≠ 10) then c :: l else l
def bareL : Bool → Str → Str
  | _, [] => []
  | q, [c] => keepB q c []
  | q, c :: d :: r => if q = true ∧ c = 92 then c :: d :: bareL q r else keepB q c (bareL (nq q c) (d :: r))
theorem bare_esc {s : Str} {j : Nat} {q : Bool} (h1 : j + 1 < s.length) (hq : q = true) (hc : s[j] = 92) : bareL q (s.drop j) = s[j] :: s[j + 1] :: bareL q (s.drop (j + 2)) := by
  rw [List.drop_eq_getElem_cons (by omega), List.drop_eq_getElem_cons h1, bareL, if_pos ⟨hq, hc⟩]
theorem bare_one {s : Str} {j : Nat} {q : Bool} (h : j < s.length) (hn : ¬ (q = true ∧ s[j] = 92 ∧ j + 1 < s.length)) : bareL q (s.drop j) = keepB q s[j] (bareL (nq q s[j]) (s.drop (j + 1))) := by
  rw [List.drop_eq_getElem_cons h]
  by_cases h1 : j + 1 < s.length
  · rw [List.drop_eq_getElem_cons h1, bareL, if_neg (fun hh => hn ⟨hh.1, hh.2, h1⟩)]
  · rw [List.drop_eq_nil_of_le (by omega), bareL, bareL]
theorem u8_is (c : UInt8) (k : Nat) (hk : k < 256) : (((c.toNat : Nat) : Int) = (k : Int)) ↔ c = UInt8.ofNat k := by
  constructor
  · intro h
    apply UInt8.toNat.inj
    rw [UInt8.toNat_ofNat']
    omega
  · rintro rfl
    rw [UInt8.toNat_ofNat']
    omega
theorem x_convSl {P : Program} {w0 w : World} {Ds : List Nat} {ρ : Operand → Value} {dst : Option Nat} {ty : TypeId} {pos : String} {aft : Array Edge} {g : Option (Nat × Bool)} {t t' : Nat} {x : Operand} {A : Option Addr} {c : Nat} {s : Str} {pre post sb : List (Nat × Obj)}
    (hS : SlB 5 1 A s.length c (Lib.byteCells s) sb) (hF : FR w0 Ds (pre ++ (sb ++ post)) w) (ht : P.underlying t = some (.slice 5)) (he : P.underlying 5 = some (.int .u8)) (hd : P.underlying t' = some .string) (hx : ρ x = .slice A s.length c) :
    (execOp ρ ⟨dst, .convert t t' x, ty, pos, aft, g⟩).run P w = .ok (.value (.string (bs s))) w := by
  cases A with
  | some a => exact x_convBs s ht he hd hx rfl fun j hj => hS.cells hF a rfl j _ (by simp [Lib.byteCells, hj])
  | none =>
    have h0 : s.length = 0 := by
      rcases hS.2 with ⟨h, -⟩ | ⟨g, cur, h, -⟩
      · exact h
      · cases h
    obtain rfl := List.eq_nil_of_length_eq_zero h0
    have h := Lib.run_convert_nil_bytes (P := P) w t t' 5 c ht he hd
    simp only [execOp, hx]
    rw [show (([] : Str).length) = 0 from rfl, Sem.run_bind, h]
    rfl
set_option maxHeartbeats 4000000 in
set_option maxRecDepth 10000 in
theorem bare_c (s : Str) (hl : s.length ≤ 70368744177664) (w0 : World) : Calls Tryz.prog 23 #[.string (bs s)] w0 (Ret fun v w' => v = .string (bs (bareL false s)) ∧ Same [] w0 w') := by
  refine calls_start Tryz.func23 rfl Tryz.ntmps23 (Nat.le_of_ble_eq_true rfl) (args_1 _) ?_
  have hF := FR.start w0 []
  refine c_seq ?_
  refine c_region ?_
  refine o_val (v := .string (bs ([]))) (x_assign rfl) ?_
  refine o_nil ?_
  refine e_seq ?_
  refine c_seq ?_
  refine c_region ?_
  refine o_val (v := .slice (none) (0) (0)) (x_assign rfl) ?_
  refine o_nil ?_
  refine e_seq ?_
  refine c_seq ?_
  refine c_region ?_
  refine o_val (v := .bool false) (x_assign rfl) ?_
  refine o_nil ?_
  refine e_seq ?_
  refine c_seq ?_
  refine c_seq ?_
  refine c_region ?_
  refine o_val (v := .int .i64 (0)) (x_assign rfl) ?_
  refine o_nil ?_
  refine e_seq ?_
  refine c_block ?_
  refine c_loop (fun μ σ w => ∃ (j : Nat), ∃ (q : Bool), ∃ (acc : Str), ∃ (A : Option Addr), ∃ (c : Nat), ∃ (sb : List (Nat × Obj)), μ = s.length - j ∧ (j ≤ s.length) ∧ (acc.length ≤ j) ∧ (acc ++ bareL q (s.drop j) = bareL false s) ∧ (SlB 5 1 A acc.length c (Lib.byteCells acc) sb) ∧ AllEq σ [(0, .string (bs (s))), (3, .slice (A) (acc.length) (c)), (4, .bool (q)), (5, .int .i64 ((j : Int)))] ∧ FR w0 [] ([] ++ (sb ++ [])) w) _ ⟨0, false, [], none, 0, [], rfl, (Nat.zero_le _), (Nat.zero_le _), (rfl), (SlB.nil _ _), ⟨rfl, rfl, rfl, rfl, trivial⟩, hF⟩ ?_
  clear hF; rintro μ σ w ⟨j, q, acc, A, c, sb, rfl, hj, ha, hq, hS, hs, hF⟩
  refine Cg.slots hs ?_
  clear hs; intro σ
  refine c_seq ?_
  refine c_seq ?_
  refine c_region ?_
  refine o_val (v := .int .i64 ((j : Int))) (x_move rfl) ?_
  refine o_val (v := .string (bs (s))) (x_move rfl) ?_
  refine o_val (v := .int .i64 ((((s) : Str).length : Int))) (x_len_string Tryz.underlying9 rfl) ?_
  refine o_val (v := .bool (decide (((j : Int) : Int) < ((((s) : Str).length : Int) : Int)))) (x_lss rfl rfl) ?_
  refine o_nil ?_
  refine e_seq ?_
  refine c_splitd (d := 10) (p := ((j : Int) : Int) < ((((s) : Str).length : Int) : Int)) rfl (fun hc0 => ?_) (fun hc0 => ?_)
  ·
    have hjn : j < s.length := by omega
    have e92 : (((s[j].toNat : Nat) : Int) = 92) ↔ s[j] = 92 := u8_is s[j] 92 (by decide)
    have e34 : (((s[j].toNat : Nat) : Int) = 34) ↔ s[j] = 34 := u8_is s[j] 34 (by decide)
    have e32 : (((s[j].toNat : Nat) : Int) = 32) ↔ s[j] = 32 := u8_is s[j] 32 (by decide)
    have e10 : (((s[j].toNat : Nat) : Int) = 10) ↔ s[j] = 10 := u8_is s[j] 10 (by decide)
    refine c_ift rfl ?_
    refine c_skip ?_
    refine e_seq ?_
    refine c_seq ?_
    refine c_block ?_
    refine c_seq ?_
    refine c_region ?_
    refine o_val (v := .string (bs (s))) (x_move rfl) ?_
    refine o_val (v := .int .i64 ((j : Int))) (x_move rfl) ?_
    refine o_val (v := .int .u8 ((((s : Str)[j]'(by omega)).toNat : Int))) (x_index (j) Tryz.underlying9 rfl rfl (by omega)) ?_
    refine o_val (v := .int .u8 ((((s : Str)[j]'(by omega)).toNat : Int))) (x_assign rfl) ?_
    refine o_nil ?_
    refine e_seq ?_
    refine c_seq ?_
    refine c_seq ?_
    refine c_region ?_
    refine o_val (v := .bool (q)) (x_move rfl) ?_
    refine o_val (v := .bool (q)) (x_move rfl) ?_
    refine o_split (d := 17) (b := q) rfl (fun hg0 => ?_) (fun hg0 => ?_)
    ·
      refine o_val (v := .int .u8 ((((s : Str)[j]'(by omega)).toNat : Int))) (x_move rfl) ?_
      refine o_val (v := .bool (decide (((((s : Str)[j]'(by omega)).toNat : Int) : Int) = (92 : Int)))) (x_eql rfl rfl) ?_
      refine o_val (v := .bool (decide (((((s : Str)[j]'(by omega)).toNat : Int) : Int) = (92 : Int)))) (x_pickt rfl rfl) ?_
      refine o_val (v := .bool (decide (((((s : Str)[j]'(by omega)).toNat : Int) : Int) = (92 : Int)))) (x_move rfl) ?_
      refine o_splitd (d := 21) (p := ((((s : Str)[j]'(by omega)).toNat : Int) : Int) = (92 : Int)) rfl (fun hg1 => ?_) (fun hg1 => ?_)
      ·
        refine o_val (v := .int .i64 ((j : Int))) (x_move rfl) ?_
        refine o_val (v := .int .i64 (((j + 1 : Nat) : Int))) (x_add rfl rfl (wrap_to (by omega) (by omega) (by omega))) ?_
        refine o_val (v := .string (bs (s))) (x_move rfl) ?_
        refine o_val (v := .int .i64 ((((s) : Str).length : Int))) (x_len_string Tryz.underlying9 rfl) ?_
        refine o_val (v := .bool (decide ((((j + 1 : Nat) : Int) : Int) < ((((s) : Str).length : Int) : Int)))) (x_lss rfl rfl) ?_
        refine o_val (v := .bool (decide ((((j + 1 : Nat) : Int) : Int) < ((((s) : Str).length : Int) : Int)))) (x_pickt rfl rfl) ?_
        refine o_nil ?_
        refine e_seq ?_
        refine c_splitd (d := 27) (p := (((j + 1 : Nat) : Int) : Int) < ((((s) : Str).length : Int) : Int)) rfl (fun hc1 => ?_) (fun hc1 => ?_)
        ·
          refine c_ift rfl ?_
          refine c_seq ?_
          refine c_region ?_
          refine o_val (v := .slice (A) (acc.length) (c)) (x_move rfl) ?_
          refine o_val (v := .int .u8 ((((s : Str)[j]'(by omega)).toNat : Int))) (x_move rfl) ?_
          refine o_val (v := .string (bs (s))) (x_move rfl) ?_
          refine o_val (v := .int .i64 ((j : Int))) (x_move rfl) ?_
          refine o_val (v := .int .i64 (((j + 1 : Nat) : Int))) (x_add rfl rfl (wrap_to (by omega) (by omega) (by omega))) ?_
          refine o_val (v := .int .u8 ((((s : Str)[j + 1]'(by omega)).toNat : Int))) (x_index (j + 1) Tryz.underlying9 rfl rfl (by omega)) ?_
          refine o_new (v := fun b => .slice (some ⟨b, 0, none⟩) 2 2) hF (x_buildSlice (cs := #[.int .u8 ((((s : Str)[j]'(by omega)).toNat : Int)), .int .u8 ((((s : Str)[j + 1]'(by omega)).toNat : Int))]) Tryz.underlying50 Tryz.sizeOf5 Tryz.zeroValue5 (by decide) (by decide) (by kernel_rfl)) ?_
          clear hF; intro b1 w hb1 hF hE
          clear hE
          refine o_append [(b1, .cells #[.int .u8 ((((s : Str)[j]'(by omega)).toNat : Int)), .int .u8 ((((s : Str)[j + 1]'(by omega)).toNat : Int))] 5)] [] (news := [.int .u8 ((((s : Str)[j]'(by omega)).toNat : Int)), .int .u8 ((((s : Str)[j + 1]'(by omega)).toNat : Int))]) (len' := (acc ++ [s[j], s[j + 1]]).length) (ys := Lib.byteCells (acc ++ [s[j], s[j + 1]])) el_50 hF hS rfl rfl (rfl) (fun _ => ⟨_, rfl, cells_opt (hF.cellsAll 0 rfl)⟩) (by simp [Value.oneCell']) (by simp only [maxLen]; omega) (by simp) (by simp [Lib.byteCells]) (by omega) ?_
          clear hF; intro A2 c2 o_2 w hS2_o hF hE hnew
          clear hE hnew
          refine o_val (v := .slice (A2) ((acc ++ [s[j], s[j + 1]]).length) (c2)) (x_assign rfl) ?_
          refine o_nil ?_
          refine e_seq ?_
          refine c_seq ?_
          refine c_region ?_
          refine o_val (v := .int .i64 ((j : Int))) (x_move rfl) ?_
          refine o_val (v := .int .i64 (((j + 1 : Nat) : Int))) (x_add rfl rfl (wrap_to (by omega) (by omega) (by omega))) ?_
          refine o_val (v := .int .i64 (((j + 1 : Nat) : Int))) (x_assign rfl) ?_
          refine o_nil ?_
          refine e_seq ?_
          refine c_exit (e_exit rfl ?_)
          refine e_seq ?_
          refine c_region ?_
          refine o_val (v := .int .i64 (((j + 1 : Nat) : Int))) (x_move rfl) ?_
          refine o_val (v := .int .i64 (((j + 2 : Nat) : Int))) (x_add rfl rfl (wrap_to (by omega) (by omega) (by omega))) ?_
          refine o_val (v := .int .i64 (((j + 2 : Nat) : Int))) (x_assign rfl) ?_
          refine o_nil ?_
          refine e_inv ⟨_, ?_, j + 2, q, acc ++ [s[j], s[j + 1]], A2, c2, o_2, rfl, (by omega), (by (try simp); omega), (by have h := hq; rw [bare_esc (by omega) (by assumption) (e92.1 (by assumption))] at h; simpa using h), (hS2_o), ⟨rfl, rfl, rfl, rfl, trivial⟩, hF.drop 1⟩
          omega
        ·
          refine c_iff rfl ?_
          refine c_skip ?_
          refine e_seq ?_
          refine c_seq ?_
          refine c_seq ?_
          refine c_region ?_
          refine o_val (v := .int .u8 ((((s : Str)[j]'(by omega)).toNat : Int))) (x_move rfl) ?_
          refine o_val (v := .bool (decide (((((s : Str)[j]'(by omega)).toNat : Int) : Int) = (34 : Int)))) (x_eql rfl rfl) ?_
          refine o_nil ?_
          refine e_seq ?_
          refine c_splitd (d := 39) (p := ((((s : Str)[j]'(by omega)).toNat : Int) : Int) = (34 : Int)) rfl (fun hc2 => ?_) (fun hc2 => ?_)
          ·
            refine c_ift rfl ?_
            refine c_region ?_
            refine o_val (v := .bool (q)) (x_move rfl) ?_
            refine o_val (v := .bool (!(q))) (x_not rfl) ?_
            refine o_val (v := .bool (!(q))) (x_assign rfl) ?_
            refine o_nil ?_
            refine e_seq ?_
            refine c_seq ?_
            refine c_region ?_
            refine o_val (v := .bool (!(q))) (x_move rfl) ?_
            refine o_val (v := .bool (!(q))) (x_move rfl) ?_
            refine o_split (d := 43) (b := !(q)) rfl (fun hg3 => ?_) (fun hg3 => ?_)
            ·
              refine o_off ?_
              refine o_off ?_
              refine o_off ?_
              refine o_off ?_
              refine o_off ?_
              refine o_off ?_
              refine o_val (v := .bool true) (x_pickt rfl rfl) ?_
              refine o_nil ?_
              refine e_seq ?_
              refine c_ift rfl ?_
              refine c_region ?_
              refine o_val (v := .slice (A) (acc.length) (c)) (x_move rfl) ?_
              refine o_val (v := .int .u8 ((((s : Str)[j]'(by omega)).toNat : Int))) (x_move rfl) ?_
              refine o_new (v := fun b => .slice (some ⟨b, 0, none⟩) 1 1) hF (x_buildSlice (cs := #[.int .u8 ((((s : Str)[j]'(by omega)).toNat : Int))]) Tryz.underlying50 Tryz.sizeOf5 Tryz.zeroValue5 (by decide) (by decide) (by kernel_rfl)) ?_
              clear hF; intro b2 w hb2 hF hE
              clear hE
              refine o_append [(b2, .cells #[.int .u8 ((((s : Str)[j]'(by omega)).toNat : Int))] 5)] [] (news := [.int .u8 ((((s : Str)[j]'(by omega)).toNat : Int))]) (len' := (acc ++ [s[j]]).length) (ys := Lib.byteCells (acc ++ [s[j]])) el_50 hF hS rfl rfl (rfl) (fun _ => ⟨_, rfl, cells_opt (hF.cellsAll 0 rfl)⟩) (by simp [Value.oneCell']) (by simp only [maxLen]; omega) (by simp) (by simp [Lib.byteCells]) (by omega) ?_
              clear hF; intro A4 c4 o_4 w hS4_o hF hE hnew
              clear hE hnew
              refine o_val (v := .slice (A4) ((acc ++ [s[j]]).length) (c4)) (x_assign rfl) ?_
              refine o_nil ?_
              refine e_block ?_
              refine e_seq ?_
              refine c_region ?_
              refine o_val (v := .int .i64 ((j : Int))) (x_move rfl) ?_
              refine o_val (v := .int .i64 (((j + 1 : Nat) : Int))) (x_add rfl rfl (wrap_to (by omega) (by omega) (by omega))) ?_
              refine o_val (v := .int .i64 (((j + 1 : Nat) : Int))) (x_assign rfl) ?_
              refine o_nil ?_
              refine e_inv ⟨_, ?_, j + 1, !(q), acc ++ [s[j]], A4, c4, o_4, rfl, (by omega), (by (try simp); omega), (by have h := hq; rw [bare_one hjn (by grind)] at h; unfold keepB nq at h; grind), (hS4_o), ⟨rfl, rfl, rfl, rfl, trivial⟩, hF.drop 1⟩
              omega
            ·
              refine o_val (v := .int .u8 ((((s : Str)[j]'(by omega)).toNat : Int))) (x_move rfl) ?_
              refine o_val (v := .bool (decide (((((s : Str)[j]'(by omega)).toNat : Int) : Int) ≠ (32 : Int)))) (x_neq rfl rfl) ?_
              refine o_val (v := .bool (decide (((((s : Str)[j]'(by omega)).toNat : Int) : Int) ≠ (32 : Int)))) (x_move rfl) ?_
              refine o_splitd (d := 46) (p := ((((s : Str)[j]'(by omega)).toNat : Int) : Int) ≠ (32 : Int)) rfl (fun hg5 => ?_) (fun hg5 => ?_)
              ·
                refine o_val (v := .int .u8 ((((s : Str)[j]'(by omega)).toNat : Int))) (x_move rfl) ?_
                refine o_val (v := .bool (decide (((((s : Str)[j]'(by omega)).toNat : Int) : Int) ≠ (10 : Int)))) (x_neq rfl rfl) ?_
                refine o_val (v := .bool (decide (((((s : Str)[j]'(by omega)).toNat : Int) : Int) ≠ (10 : Int)))) (x_pickt rfl rfl) ?_
                refine o_val (v := .bool (decide (((((s : Str)[j]'(by omega)).toNat : Int) : Int) ≠ (10 : Int)))) (x_pickf rfl rfl) ?_
                refine o_nil ?_
                refine e_seq ?_
                refine c_splitd (d := 50) (p := ((((s : Str)[j]'(by omega)).toNat : Int) : Int) ≠ (10 : Int)) rfl (fun hc3 => ?_) (fun hc3 => ?_)
                ·
                  refine c_ift rfl ?_
                  refine c_region ?_
                  refine o_val (v := .slice (A) (acc.length) (c)) (x_move rfl) ?_
                  refine o_val (v := .int .u8 ((((s : Str)[j]'(by omega)).toNat : Int))) (x_move rfl) ?_
                  refine o_new (v := fun b => .slice (some ⟨b, 0, none⟩) 1 1) hF (x_buildSlice (cs := #[.int .u8 ((((s : Str)[j]'(by omega)).toNat : Int))]) Tryz.underlying50 Tryz.sizeOf5 Tryz.zeroValue5 (by decide) (by decide) (by kernel_rfl)) ?_
                  clear hF; intro b3 w hb3 hF hE
                  clear hE
                  refine o_append [(b3, .cells #[.int .u8 ((((s : Str)[j]'(by omega)).toNat : Int))] 5)] [] (news := [.int .u8 ((((s : Str)[j]'(by omega)).toNat : Int))]) (len' := (acc ++ [s[j]]).length) (ys := Lib.byteCells (acc ++ [s[j]])) el_50 hF hS rfl rfl (rfl) (fun _ => ⟨_, rfl, cells_opt (hF.cellsAll 0 rfl)⟩) (by simp [Value.oneCell']) (by simp only [maxLen]; omega) (by simp) (by simp [Lib.byteCells]) (by omega) ?_
                  clear hF; intro A6 c6 o_6 w hS6_o hF hE hnew
                  clear hE hnew
                  refine o_val (v := .slice (A6) ((acc ++ [s[j]]).length) (c6)) (x_assign rfl) ?_
                  refine o_nil ?_
                  refine e_block ?_
                  refine e_seq ?_
                  refine c_region ?_
                  refine o_val (v := .int .i64 ((j : Int))) (x_move rfl) ?_
                  refine o_val (v := .int .i64 (((j + 1 : Nat) : Int))) (x_add rfl rfl (wrap_to (by omega) (by omega) (by omega))) ?_
                  refine o_val (v := .int .i64 (((j + 1 : Nat) : Int))) (x_assign rfl) ?_
                  refine o_nil ?_
                  refine e_inv ⟨_, ?_, j + 1, !(q), acc ++ [s[j]], A6, c6, o_6, rfl, (by omega), (by (try simp); omega), (by have h := hq; rw [bare_one hjn (by grind)] at h; unfold keepB nq at h; grind), (hS6_o), ⟨rfl, rfl, rfl, rfl, trivial⟩, hF.drop 1⟩
                  omega
                ·
                  refine c_iff rfl ?_
                  refine c_skip ?_
                  refine e_block ?_
                  refine e_seq ?_
                  refine c_region ?_
                  refine o_val (v := .int .i64 ((j : Int))) (x_move rfl) ?_
                  refine o_val (v := .int .i64 (((j + 1 : Nat) : Int))) (x_add rfl rfl (wrap_to (by omega) (by omega) (by omega))) ?_
                  refine o_val (v := .int .i64 (((j + 1 : Nat) : Int))) (x_assign rfl) ?_
                  refine o_nil ?_
                  refine e_inv ⟨_, ?_, j + 1, !(q), acc, A, c, sb, rfl, (by omega), (by (try simp); omega), (by have h := hq; rw [bare_one hjn (by grind)] at h; unfold keepB nq at h; grind), (hS), ⟨rfl, rfl, rfl, rfl, trivial⟩, hF⟩
                  omega
              ·
                refine o_off ?_
                refine o_off ?_
                refine o_val (v := .bool false) (x_pickf rfl rfl) ?_
                refine o_val (v := .bool false) (x_pickf rfl rfl) ?_
                refine o_nil ?_
                refine e_seq ?_
                refine c_iff rfl ?_
                refine c_skip ?_
                refine e_block ?_
                refine e_seq ?_
                refine c_region ?_
                refine o_val (v := .int .i64 ((j : Int))) (x_move rfl) ?_
                refine o_val (v := .int .i64 (((j + 1 : Nat) : Int))) (x_add rfl rfl (wrap_to (by omega) (by omega) (by omega))) ?_
                refine o_val (v := .int .i64 (((j + 1 : Nat) : Int))) (x_assign rfl) ?_
                refine o_nil ?_
                refine e_inv ⟨_, ?_, j + 1, !(q), acc, A, c, sb, rfl, (by omega), (by (try simp); omega), (by have h := hq; rw [bare_one hjn (by grind)] at h; unfold keepB nq at h; grind), (hS), ⟨rfl, rfl, rfl, rfl, trivial⟩, hF⟩
                omega
          ·
            refine c_iff rfl ?_
            refine c_skip ?_
            refine e_seq ?_
            refine c_seq ?_
            refine c_region ?_
            refine o_val (v := .bool (q)) (x_move rfl) ?_
            refine o_val (v := .bool (q)) (x_move rfl) ?_
            refine o_split (d := 43) (b := q) rfl (fun hg7 => ?_) (fun hg7 => ?_)
            ·
              refine o_off ?_
              refine o_off ?_
              refine o_off ?_
              refine o_off ?_
              refine o_off ?_
              refine o_off ?_
              refine o_val (v := .bool true) (x_pickt rfl rfl) ?_
              refine o_nil ?_
              refine e_seq ?_
              refine c_ift rfl ?_
              refine c_region ?_
              refine o_val (v := .slice (A) (acc.length) (c)) (x_move rfl) ?_
              refine o_val (v := .int .u8 ((((s : Str)[j]'(by omega)).toNat : Int))) (x_move rfl) ?_
              refine o_new (v := fun b => .slice (some ⟨b, 0, none⟩) 1 1) hF (x_buildSlice (cs := #[.int .u8 ((((s : Str)[j]'(by omega)).toNat : Int))]) Tryz.underlying50 Tryz.sizeOf5 Tryz.zeroValue5 (by decide) (by decide) (by kernel_rfl)) ?_
              clear hF; intro b4 w hb4 hF hE
              clear hE
              refine o_append [(b4, .cells #[.int .u8 ((((s : Str)[j]'(by omega)).toNat : Int))] 5)] [] (news := [.int .u8 ((((s : Str)[j]'(by omega)).toNat : Int))]) (len' := (acc ++ [s[j]]).length) (ys := Lib.byteCells (acc ++ [s[j]])) el_50 hF hS rfl rfl (rfl) (fun _ => ⟨_, rfl, cells_opt (hF.cellsAll 0 rfl)⟩) (by simp [Value.oneCell']) (by simp only [maxLen]; omega) (by simp) (by simp [Lib.byteCells]) (by omega) ?_
              clear hF; intro A8 c8 o_8 w hS8_o hF hE hnew
              clear hE hnew
              refine o_val (v := .slice (A8) ((acc ++ [s[j]]).length) (c8)) (x_assign rfl) ?_
              refine o_nil ?_
              refine e_block ?_
              refine e_seq ?_
              refine c_region ?_
              refine o_val (v := .int .i64 ((j : Int))) (x_move rfl) ?_
              refine o_val (v := .int .i64 (((j + 1 : Nat) : Int))) (x_add rfl rfl (wrap_to (by omega) (by omega) (by omega))) ?_
              refine o_val (v := .int .i64 (((j + 1 : Nat) : Int))) (x_assign rfl) ?_
              refine o_nil ?_
              refine e_inv ⟨_, ?_, j + 1, q, acc ++ [s[j]], A8, c8, o_8, rfl, (by omega), (by (try simp); omega), (by have h := hq; rw [bare_one hjn (by grind)] at h; unfold keepB nq at h; grind), (hS8_o), ⟨rfl, rfl, rfl, rfl, trivial⟩, hF.drop 1⟩
              omega
            ·
              refine o_val (v := .int .u8 ((((s : Str)[j]'(by omega)).toNat : Int))) (x_move rfl) ?_
              refine o_val (v := .bool (decide (((((s : Str)[j]'(by omega)).toNat : Int) : Int) ≠ (32 : Int)))) (x_neq rfl rfl) ?_
              refine o_val (v := .bool (decide (((((s : Str)[j]'(by omega)).toNat : Int) : Int) ≠ (32 : Int)))) (x_move rfl) ?_
              refine o_splitd (d := 46) (p := ((((s : Str)[j]'(by omega)).toNat : Int) : Int) ≠ (32 : Int)) rfl (fun hg9 => ?_) (fun hg9 => ?_)
              ·
                refine o_val (v := .int .u8 ((((s : Str)[j]'(by omega)).toNat : Int))) (x_move rfl) ?_
                refine o_val (v := .bool (decide (((((s : Str)[j]'(by omega)).toNat : Int) : Int) ≠ (10 : Int)))) (x_neq rfl rfl) ?_
                refine o_val (v := .bool (decide (((((s : Str)[j]'(by omega)).toNat : Int) : Int) ≠ (10 : Int)))) (x_pickt rfl rfl) ?_
                refine o_val (v := .bool (decide (((((s : Str)[j]'(by omega)).toNat : Int) : Int) ≠ (10 : Int)))) (x_pickf rfl rfl) ?_
                refine o_nil ?_
                refine e_seq ?_
                refine c_splitd (d := 50) (p := ((((s : Str)[j]'(by omega)).toNat : Int) : Int) ≠ (10 : Int)) rfl (fun hc3 => ?_) (fun hc3 => ?_)
                ·
                  refine c_ift rfl ?_
                  refine c_region ?_
                  refine o_val (v := .slice (A) (acc.length) (c)) (x_move rfl) ?_
                  refine o_val (v := .int .u8 ((((s : Str)[j]'(by omega)).toNat : Int))) (x_move rfl) ?_
                  refine o_new (v := fun b => .slice (some ⟨b, 0, none⟩) 1 1) hF (x_buildSlice (cs := #[.int .u8 ((((s : Str)[j]'(by omega)).toNat : Int))]) Tryz.underlying50 Tryz.sizeOf5 Tryz.zeroValue5 (by decide) (by decide) (by kernel_rfl)) ?_
                  clear hF; intro b5 w hb5 hF hE
                  clear hE
                  refine o_append [(b5, .cells #[.int .u8 ((((s : Str)[j]'(by omega)).toNat : Int))] 5)] [] (news := [.int .u8 ((((s : Str)[j]'(by omega)).toNat : Int))]) (len' := (acc ++ [s[j]]).length) (ys := Lib.byteCells (acc ++ [s[j]])) el_50 hF hS rfl rfl (rfl) (fun _ => ⟨_, rfl, cells_opt (hF.cellsAll 0 rfl)⟩) (by simp [Value.oneCell']) (by simp only [maxLen]; omega) (by simp) (by simp [Lib.byteCells]) (by omega) ?_
                  clear hF; intro A10 c10 o_10 w hS10_o hF hE hnew
                  clear hE hnew
                  refine o_val (v := .slice (A10) ((acc ++ [s[j]]).length) (c10)) (x_assign rfl) ?_
                  refine o_nil ?_
                  refine e_block ?_
                  refine e_seq ?_
                  refine c_region ?_
                  refine o_val (v := .int .i64 ((j : Int))) (x_move rfl) ?_
                  refine o_val (v := .int .i64 (((j + 1 : Nat) : Int))) (x_add rfl rfl (wrap_to (by omega) (by omega) (by omega))) ?_
                  refine o_val (v := .int .i64 (((j + 1 : Nat) : Int))) (x_assign rfl) ?_
                  refine o_nil ?_
                  refine e_inv ⟨_, ?_, j + 1, q, acc ++ [s[j]], A10, c10, o_10, rfl, (by omega), (by (try simp); omega), (by have h := hq; rw [bare_one hjn (by grind)] at h; unfold keepB nq at h; grind), (hS10_o), ⟨rfl, rfl, rfl, rfl, trivial⟩, hF.drop 1⟩
                  omega
                ·
                  refine c_iff rfl ?_
                  refine c_skip ?_
                  refine e_block ?_
                  refine e_seq ?_
                  refine c_region ?_
                  refine o_val (v := .int .i64 ((j : Int))) (x_move rfl) ?_
                  refine o_val (v := .int .i64 (((j + 1 : Nat) : Int))) (x_add rfl rfl (wrap_to (by omega) (by omega) (by omega))) ?_
                  refine o_val (v := .int .i64 (((j + 1 : Nat) : Int))) (x_assign rfl) ?_
                  refine o_nil ?_
                  refine e_inv ⟨_, ?_, j + 1, q, acc, A, c, sb, rfl, (by omega), (by (try simp); omega), (by have h := hq; rw [bare_one hjn (by grind)] at h; unfold keepB nq at h; grind), (hS), ⟨rfl, rfl, rfl, rfl, trivial⟩, hF⟩
                  omega
              ·
                refine o_off ?_
                refine o_off ?_
                refine o_val (v := .bool false) (x_pickf rfl rfl) ?_
                refine o_val (v := .bool false) (x_pickf rfl rfl) ?_
                refine o_nil ?_
                refine e_seq ?_
                refine c_iff rfl ?_
                refine c_skip ?_
                refine e_block ?_
                refine e_seq ?_
                refine c_region ?_
                refine o_val (v := .int .i64 ((j : Int))) (x_move rfl) ?_
                refine o_val (v := .int .i64 (((j + 1 : Nat) : Int))) (x_add rfl rfl (wrap_to (by omega) (by omega) (by omega))) ?_
                refine o_val (v := .int .i64 (((j + 1 : Nat) : Int))) (x_assign rfl) ?_
                refine o_nil ?_
                refine e_inv ⟨_, ?_, j + 1, q, acc, A, c, sb, rfl, (by omega), (by (try simp); omega), (by have h := hq; rw [bare_one hjn (by grind)] at h; unfold keepB nq at h; grind), (hS), ⟨rfl, rfl, rfl, rfl, trivial⟩, hF⟩
                omega
      ·
        refine o_off ?_
        refine o_off ?_
        refine o_off ?_
        refine o_off ?_
        refine o_off ?_
        refine o_val (v := .bool false) (x_pickf rfl rfl) ?_
        refine o_nil ?_
        refine e_seq ?_
        refine c_iff rfl ?_
        refine c_skip ?_
        refine e_seq ?_
        refine c_seq ?_
        refine c_seq ?_
        refine c_region ?_
        refine o_val (v := .int .u8 ((((s : Str)[j]'(by omega)).toNat : Int))) (x_move rfl) ?_
        refine o_val (v := .bool (decide (((((s : Str)[j]'(by omega)).toNat : Int) : Int) = (34 : Int)))) (x_eql rfl rfl) ?_
        refine o_nil ?_
        refine e_seq ?_
        refine c_splitd (d := 39) (p := ((((s : Str)[j]'(by omega)).toNat : Int) : Int) = (34 : Int)) rfl (fun hc2 => ?_) (fun hc2 => ?_)
        ·
          refine c_ift rfl ?_
          refine c_region ?_
          refine o_val (v := .bool (q)) (x_move rfl) ?_
          refine o_val (v := .bool (!(q))) (x_not rfl) ?_
          refine o_val (v := .bool (!(q))) (x_assign rfl) ?_
          refine o_nil ?_
          refine e_seq ?_
          refine c_seq ?_
          refine c_region ?_
          refine o_val (v := .bool (!(q))) (x_move rfl) ?_
          refine o_val (v := .bool (!(q))) (x_move rfl) ?_
          refine o_split (d := 43) (b := !(q)) rfl (fun hg11 => ?_) (fun hg11 => ?_)
          ·
            refine o_off ?_
            refine o_off ?_
            refine o_off ?_
            refine o_off ?_
            refine o_off ?_
            refine o_off ?_
            refine o_val (v := .bool true) (x_pickt rfl rfl) ?_
            refine o_nil ?_
            refine e_seq ?_
            refine c_ift rfl ?_
            refine c_region ?_
            refine o_val (v := .slice (A) (acc.length) (c)) (x_move rfl) ?_
            refine o_val (v := .int .u8 ((((s : Str)[j]'(by omega)).toNat : Int))) (x_move rfl) ?_
            refine o_new (v := fun b => .slice (some ⟨b, 0, none⟩) 1 1) hF (x_buildSlice (cs := #[.int .u8 ((((s : Str)[j]'(by omega)).toNat : Int))]) Tryz.underlying50 Tryz.sizeOf5 Tryz.zeroValue5 (by decide) (by decide) (by kernel_rfl)) ?_
            clear hF; intro b6 w hb6 hF hE
            clear hE
            refine o_append [(b6, .cells #[.int .u8 ((((s : Str)[j]'(by omega)).toNat : Int))] 5)] [] (news := [.int .u8 ((((s : Str)[j]'(by omega)).toNat : Int))]) (len' := (acc ++ [s[j]]).length) (ys := Lib.byteCells (acc ++ [s[j]])) el_50 hF hS rfl rfl (rfl) (fun _ => ⟨_, rfl, cells_opt (hF.cellsAll 0 rfl)⟩) (by simp [Value.oneCell']) (by simp only [maxLen]; omega) (by simp) (by simp [Lib.byteCells]) (by omega) ?_
            clear hF; intro A12 c12 o_12 w hS12_o hF hE hnew
            clear hE hnew
            refine o_val (v := .slice (A12) ((acc ++ [s[j]]).length) (c12)) (x_assign rfl) ?_
            refine o_nil ?_
            refine e_block ?_
            refine e_seq ?_
            refine c_region ?_
            refine o_val (v := .int .i64 ((j : Int))) (x_move rfl) ?_
            refine o_val (v := .int .i64 (((j + 1 : Nat) : Int))) (x_add rfl rfl (wrap_to (by omega) (by omega) (by omega))) ?_
            refine o_val (v := .int .i64 (((j + 1 : Nat) : Int))) (x_assign rfl) ?_
            refine o_nil ?_
            refine e_inv ⟨_, ?_, j + 1, !(q), acc ++ [s[j]], A12, c12, o_12, rfl, (by omega), (by (try simp); omega), (by have h := hq; rw [bare_one hjn (by grind)] at h; unfold keepB nq at h; grind), (hS12_o), ⟨rfl, rfl, rfl, rfl, trivial⟩, hF.drop 1⟩
            omega
          ·
            refine o_val (v := .int .u8 ((((s : Str)[j]'(by omega)).toNat : Int))) (x_move rfl) ?_
            refine o_val (v := .bool (decide (((((s : Str)[j]'(by omega)).toNat : Int) : Int) ≠ (32 : Int)))) (x_neq rfl rfl) ?_
            refine o_val (v := .bool (decide (((((s : Str)[j]'(by omega)).toNat : Int) : Int) ≠ (32 : Int)))) (x_move rfl) ?_
            refine o_splitd (d := 46) (p := ((((s : Str)[j]'(by omega)).toNat : Int) : Int) ≠ (32 : Int)) rfl (fun hg13 => ?_) (fun hg13 => ?_)
            ·
              refine o_val (v := .int .u8 ((((s : Str)[j]'(by omega)).toNat : Int))) (x_move rfl) ?_
              refine o_val (v := .bool (decide (((((s : Str)[j]'(by omega)).toNat : Int) : Int) ≠ (10 : Int)))) (x_neq rfl rfl) ?_
              refine o_val (v := .bool (decide (((((s : Str)[j]'(by omega)).toNat : Int) : Int) ≠ (10 : Int)))) (x_pickt rfl rfl) ?_
              refine o_val (v := .bool (decide (((((s : Str)[j]'(by omega)).toNat : Int) : Int) ≠ (10 : Int)))) (x_pickf rfl rfl) ?_
              refine o_nil ?_
              refine e_seq ?_
              refine c_splitd (d := 50) (p := ((((s : Str)[j]'(by omega)).toNat : Int) : Int) ≠ (10 : Int)) rfl (fun hc3 => ?_) (fun hc3 => ?_)
              ·
                refine c_ift rfl ?_
                refine c_region ?_
                refine o_val (v := .slice (A) (acc.length) (c)) (x_move rfl) ?_
                refine o_val (v := .int .u8 ((((s : Str)[j]'(by omega)).toNat : Int))) (x_move rfl) ?_
                refine o_new (v := fun b => .slice (some ⟨b, 0, none⟩) 1 1) hF (x_buildSlice (cs := #[.int .u8 ((((s : Str)[j]'(by omega)).toNat : Int))]) Tryz.underlying50 Tryz.sizeOf5 Tryz.zeroValue5 (by decide) (by decide) (by kernel_rfl)) ?_
                clear hF; intro b7 w hb7 hF hE
                clear hE
                refine o_append [(b7, .cells #[.int .u8 ((((s : Str)[j]'(by omega)).toNat : Int))] 5)] [] (news := [.int .u8 ((((s : Str)[j]'(by omega)).toNat : Int))]) (len' := (acc ++ [s[j]]).length) (ys := Lib.byteCells (acc ++ [s[j]])) el_50 hF hS rfl rfl (rfl) (fun _ => ⟨_, rfl, cells_opt (hF.cellsAll 0 rfl)⟩) (by simp [Value.oneCell']) (by simp only [maxLen]; omega) (by simp) (by simp [Lib.byteCells]) (by omega) ?_
                clear hF; intro A14 c14 o_14 w hS14_o hF hE hnew
                clear hE hnew
                refine o_val (v := .slice (A14) ((acc ++ [s[j]]).length) (c14)) (x_assign rfl) ?_
                refine o_nil ?_
                refine e_block ?_
                refine e_seq ?_
                refine c_region ?_
                refine o_val (v := .int .i64 ((j : Int))) (x_move rfl) ?_
                refine o_val (v := .int .i64 (((j + 1 : Nat) : Int))) (x_add rfl rfl (wrap_to (by omega) (by omega) (by omega))) ?_
                refine o_val (v := .int .i64 (((j + 1 : Nat) : Int))) (x_assign rfl) ?_
                refine o_nil ?_
                refine e_inv ⟨_, ?_, j + 1, !(q), acc ++ [s[j]], A14, c14, o_14, rfl, (by omega), (by (try simp); omega), (by have h := hq; rw [bare_one hjn (by grind)] at h; unfold keepB nq at h; grind), (hS14_o), ⟨rfl, rfl, rfl, rfl, trivial⟩, hF.drop 1⟩
                omega
              ·
                refine c_iff rfl ?_
                refine c_skip ?_
                refine e_block ?_
                refine e_seq ?_
                refine c_region ?_
                refine o_val (v := .int .i64 ((j : Int))) (x_move rfl) ?_
                refine o_val (v := .int .i64 (((j + 1 : Nat) : Int))) (x_add rfl rfl (wrap_to (by omega) (by omega) (by omega))) ?_
                refine o_val (v := .int .i64 (((j + 1 : Nat) : Int))) (x_assign rfl) ?_
                refine o_nil ?_
                refine e_inv ⟨_, ?_, j + 1, !(q), acc, A, c, sb, rfl, (by omega), (by (try simp); omega), (by have h := hq; rw [bare_one hjn (by grind)] at h; unfold keepB nq at h; grind), (hS), ⟨rfl, rfl, rfl, rfl, trivial⟩, hF⟩
                omega
            ·
              refine o_off ?_
              refine o_off ?_
              refine o_val (v := .bool false) (x_pickf rfl rfl) ?_
              refine o_val (v := .bool false) (x_pickf rfl rfl) ?_
              refine o_nil ?_
              refine e_seq ?_
              refine c_iff rfl ?_
              refine c_skip ?_
              refine e_block ?_
              refine e_seq ?_
              refine c_region ?_
              refine o_val (v := .int .i64 ((j : Int))) (x_move rfl) ?_
              refine o_val (v := .int .i64 (((j + 1 : Nat) : Int))) (x_add rfl rfl (wrap_to (by omega) (by omega) (by omega))) ?_
              refine o_val (v := .int .i64 (((j + 1 : Nat) : Int))) (x_assign rfl) ?_
              refine o_nil ?_
              refine e_inv ⟨_, ?_, j + 1, !(q), acc, A, c, sb, rfl, (by omega), (by (try simp); omega), (by have h := hq; rw [bare_one hjn (by grind)] at h; unfold keepB nq at h; grind), (hS), ⟨rfl, rfl, rfl, rfl, trivial⟩, hF⟩
              omega
        ·
          refine c_iff rfl ?_
          refine c_skip ?_
          refine e_seq ?_
          refine c_seq ?_
          refine c_region ?_
          refine o_val (v := .bool (q)) (x_move rfl) ?_
          refine o_val (v := .bool (q)) (x_move rfl) ?_
          refine o_split (d := 43) (b := q) rfl (fun hg15 => ?_) (fun hg15 => ?_)
          ·
            refine o_off ?_
            refine o_off ?_
            refine o_off ?_
            refine o_off ?_
            refine o_off ?_
            refine o_off ?_
            refine o_val (v := .bool true) (x_pickt rfl rfl) ?_
            refine o_nil ?_
            refine e_seq ?_
            refine c_ift rfl ?_
            refine c_region ?_
            refine o_val (v := .slice (A) (acc.length) (c)) (x_move rfl) ?_
            refine o_val (v := .int .u8 ((((s : Str)[j]'(by omega)).toNat : Int))) (x_move rfl) ?_
            refine o_new (v := fun b => .slice (some ⟨b, 0, none⟩) 1 1) hF (x_buildSlice (cs := #[.int .u8 ((((s : Str)[j]'(by omega)).toNat : Int))]) Tryz.underlying50 Tryz.sizeOf5 Tryz.zeroValue5 (by decide) (by decide) (by kernel_rfl)) ?_
            clear hF; intro b8 w hb8 hF hE
            clear hE
            refine o_append [(b8, .cells #[.int .u8 ((((s : Str)[j]'(by omega)).toNat : Int))] 5)] [] (news := [.int .u8 ((((s : Str)[j]'(by omega)).toNat : Int))]) (len' := (acc ++ [s[j]]).length) (ys := Lib.byteCells (acc ++ [s[j]])) el_50 hF hS rfl rfl (rfl) (fun _ => ⟨_, rfl, cells_opt (hF.cellsAll 0 rfl)⟩) (by simp [Value.oneCell']) (by simp only [maxLen]; omega) (by simp) (by simp [Lib.byteCells]) (by omega) ?_
            clear hF; intro A16 c16 o_16 w hS16_o hF hE hnew
            clear hE hnew
            refine o_val (v := .slice (A16) ((acc ++ [s[j]]).length) (c16)) (x_assign rfl) ?_
            refine o_nil ?_
            refine e_block ?_
            refine e_seq ?_
            refine c_region ?_
            refine o_val (v := .int .i64 ((j : Int))) (x_move rfl) ?_
            refine o_val (v := .int .i64 (((j + 1 : Nat) : Int))) (x_add rfl rfl (wrap_to (by omega) (by omega) (by omega))) ?_
            refine o_val (v := .int .i64 (((j + 1 : Nat) : Int))) (x_assign rfl) ?_
            refine o_nil ?_
            refine e_inv ⟨_, ?_, j + 1, q, acc ++ [s[j]], A16, c16, o_16, rfl, (by omega), (by (try simp); omega), (by have h := hq; rw [bare_one hjn (by grind)] at h; unfold keepB nq at h; grind), (hS16_o), ⟨rfl, rfl, rfl, rfl, trivial⟩, hF.drop 1⟩
            omega
          ·
            refine o_val (v := .int .u8 ((((s : Str)[j]'(by omega)).toNat : Int))) (x_move rfl) ?_
            refine o_val (v := .bool (decide (((((s : Str)[j]'(by omega)).toNat : Int) : Int) ≠ (32 : Int)))) (x_neq rfl rfl) ?_
            refine o_val (v := .bool (decide (((((s : Str)[j]'(by omega)).toNat : Int) : Int) ≠ (32 : Int)))) (x_move rfl) ?_
            refine o_splitd (d := 46) (p := ((((s : Str)[j]'(by omega)).toNat : Int) : Int) ≠ (32 : Int)) rfl (fun hg17 => ?_) (fun hg17 => ?_)
            ·
              refine o_val (v := .int .u8 ((((s : Str)[j]'(by omega)).toNat : Int))) (x_move rfl) ?_
              refine o_val (v := .bool (decide (((((s : Str)[j]'(by omega)).toNat : Int) : Int) ≠ (10 : Int)))) (x_neq rfl rfl) ?_
              refine o_val (v := .bool (decide (((((s : Str)[j]'(by omega)).toNat : Int) : Int) ≠ (10 : Int)))) (x_pickt rfl rfl) ?_
              refine o_val (v := .bool (decide (((((s : Str)[j]'(by omega)).toNat : Int) : Int) ≠ (10 : Int)))) (x_pickf rfl rfl) ?_
              refine o_nil ?_
              refine e_seq ?_
              refine c_splitd (d := 50) (p := ((((s : Str)[j]'(by omega)).toNat : Int) : Int) ≠ (10 : Int)) rfl (fun hc3 => ?_) (fun hc3 => ?_)
              ·
                refine c_ift rfl ?_
                refine c_region ?_
                refine o_val (v := .slice (A) (acc.length) (c)) (x_move rfl) ?_
                refine o_val (v := .int .u8 ((((s : Str)[j]'(by omega)).toNat : Int))) (x_move rfl) ?_
                refine o_new (v := fun b => .slice (some ⟨b, 0, none⟩) 1 1) hF (x_buildSlice (cs := #[.int .u8 ((((s : Str)[j]'(by omega)).toNat : Int))]) Tryz.underlying50 Tryz.sizeOf5 Tryz.zeroValue5 (by decide) (by decide) (by kernel_rfl)) ?_
                clear hF; intro b9 w hb9 hF hE
                clear hE
                refine o_append [(b9, .cells #[.int .u8 ((((s : Str)[j]'(by omega)).toNat : Int))] 5)] [] (news := [.int .u8 ((((s : Str)[j]'(by omega)).toNat : Int))]) (len' := (acc ++ [s[j]]).length) (ys := Lib.byteCells (acc ++ [s[j]])) el_50 hF hS rfl rfl (rfl) (fun _ => ⟨_, rfl, cells_opt (hF.cellsAll 0 rfl)⟩) (by simp [Value.oneCell']) (by simp only [maxLen]; omega) (by simp) (by simp [Lib.byteCells]) (by omega) ?_
                clear hF; intro A18 c18 o_18 w hS18_o hF hE hnew
                clear hE hnew
                refine o_val (v := .slice (A18) ((acc ++ [s[j]]).length) (c18)) (x_assign rfl) ?_
                refine o_nil ?_
                refine e_block ?_
                refine e_seq ?_
                refine c_region ?_
                refine o_val (v := .int .i64 ((j : Int))) (x_move rfl) ?_
                refine o_val (v := .int .i64 (((j + 1 : Nat) : Int))) (x_add rfl rfl (wrap_to (by omega) (by omega) (by omega))) ?_
                refine o_val (v := .int .i64 (((j + 1 : Nat) : Int))) (x_assign rfl) ?_
                refine o_nil ?_
                refine e_inv ⟨_, ?_, j + 1, q, acc ++ [s[j]], A18, c18, o_18, rfl, (by omega), (by (try simp); omega), (by have h := hq; rw [bare_one hjn (by grind)] at h; unfold keepB nq at h; grind), (hS18_o), ⟨rfl, rfl, rfl, rfl, trivial⟩, hF.drop 1⟩
                omega
              ·
                refine c_iff rfl ?_
                refine c_skip ?_
                refine e_block ?_
                refine e_seq ?_
                refine c_region ?_
                refine o_val (v := .int .i64 ((j : Int))) (x_move rfl) ?_
                refine o_val (v := .int .i64 (((j + 1 : Nat) : Int))) (x_add rfl rfl (wrap_to (by omega) (by omega) (by omega))) ?_
                refine o_val (v := .int .i64 (((j + 1 : Nat) : Int))) (x_assign rfl) ?_
                refine o_nil ?_
                refine e_inv ⟨_, ?_, j + 1, q, acc, A, c, sb, rfl, (by omega), (by (try simp); omega), (by have h := hq; rw [bare_one hjn (by grind)] at h; unfold keepB nq at h; grind), (hS), ⟨rfl, rfl, rfl, rfl, trivial⟩, hF⟩
                omega
            ·
              refine o_off ?_
              refine o_off ?_
              refine o_val (v := .bool false) (x_pickf rfl rfl) ?_
              refine o_val (v := .bool false) (x_pickf rfl rfl) ?_
              refine o_nil ?_
              refine e_seq ?_
              refine c_iff rfl ?_
              refine c_skip ?_
              refine e_block ?_
              refine e_seq ?_
              refine c_region ?_
              refine o_val (v := .int .i64 ((j : Int))) (x_move rfl) ?_
              refine o_val (v := .int .i64 (((j + 1 : Nat) : Int))) (x_add rfl rfl (wrap_to (by omega) (by omega) (by omega))) ?_
              refine o_val (v := .int .i64 (((j + 1 : Nat) : Int))) (x_assign rfl) ?_
              refine o_nil ?_
              refine e_inv ⟨_, ?_, j + 1, q, acc, A, c, sb, rfl, (by omega), (by (try simp); omega), (by have h := hq; rw [bare_one hjn (by grind)] at h; unfold keepB nq at h; grind), (hS), ⟨rfl, rfl, rfl, rfl, trivial⟩, hF⟩
              omega
    ·
      refine o_off ?_
      refine o_off ?_
      refine o_val (v := .bool false) (x_pickf rfl rfl) ?_
      refine o_val (v := .bool false) (x_move rfl) ?_
      refine o_off ?_
      refine o_off ?_
      refine o_off ?_
      refine o_off ?_
      refine o_off ?_
      refine o_val (v := .bool false) (x_pickf rfl rfl) ?_
      refine o_nil ?_
      refine e_seq ?_
      refine c_iff rfl ?_
      refine c_skip ?_
      refine e_seq ?_
      refine c_seq ?_
      refine c_seq ?_
      refine c_region ?_
      refine o_val (v := .int .u8 ((((s : Str)[j]'(by omega)).toNat : Int))) (x_move rfl) ?_
      refine o_val (v := .bool (decide (((((s : Str)[j]'(by omega)).toNat : Int) : Int) = (34 : Int)))) (x_eql rfl rfl) ?_
      refine o_nil ?_
      refine e_seq ?_
      refine c_splitd (d := 39) (p := ((((s : Str)[j]'(by omega)).toNat : Int) : Int) = (34 : Int)) rfl (fun hc2 => ?_) (fun hc2 => ?_)
      ·
        refine c_ift rfl ?_
        refine c_region ?_
        refine o_val (v := .bool (q)) (x_move rfl) ?_
        refine o_val (v := .bool (!(q))) (x_not rfl) ?_
        refine o_val (v := .bool (!(q))) (x_assign rfl) ?_
        refine o_nil ?_
        refine e_seq ?_
        refine c_seq ?_
        refine c_region ?_
        refine o_val (v := .bool (!(q))) (x_move rfl) ?_
        refine o_val (v := .bool (!(q))) (x_move rfl) ?_
        refine o_split (d := 43) (b := !(q)) rfl (fun hg19 => ?_) (fun hg19 => ?_)
        ·
          refine o_off ?_
          refine o_off ?_
          refine o_off ?_
          refine o_off ?_
          refine o_off ?_
          refine o_off ?_
          refine o_val (v := .bool true) (x_pickt rfl rfl) ?_
          refine o_nil ?_
          refine e_seq ?_
          refine c_ift rfl ?_
          refine c_region ?_
          refine o_val (v := .slice (A) (acc.length) (c)) (x_move rfl) ?_
          refine o_val (v := .int .u8 ((((s : Str)[j]'(by omega)).toNat : Int))) (x_move rfl) ?_
          refine o_new (v := fun b => .slice (some ⟨b, 0, none⟩) 1 1) hF (x_buildSlice (cs := #[.int .u8 ((((s : Str)[j]'(by omega)).toNat : Int))]) Tryz.underlying50 Tryz.sizeOf5 Tryz.zeroValue5 (by decide) (by decide) (by kernel_rfl)) ?_
          clear hF; intro b10 w hb10 hF hE
          clear hE
          refine o_append [(b10, .cells #[.int .u8 ((((s : Str)[j]'(by omega)).toNat : Int))] 5)] [] (news := [.int .u8 ((((s : Str)[j]'(by omega)).toNat : Int))]) (len' := (acc ++ [s[j]]).length) (ys := Lib.byteCells (acc ++ [s[j]])) el_50 hF hS rfl rfl (rfl) (fun _ => ⟨_, rfl, cells_opt (hF.cellsAll 0 rfl)⟩) (by simp [Value.oneCell']) (by simp only [maxLen]; omega) (by simp) (by simp [Lib.byteCells]) (by omega) ?_
          clear hF; intro A20 c20 o_20 w hS20_o hF hE hnew
          clear hE hnew
          refine o_val (v := .slice (A20) ((acc ++ [s[j]]).length) (c20)) (x_assign rfl) ?_
          refine o_nil ?_
          refine e_block ?_
          refine e_seq ?_
          refine c_region ?_
          refine o_val (v := .int .i64 ((j : Int))) (x_move rfl) ?_
          refine o_val (v := .int .i64 (((j + 1 : Nat) : Int))) (x_add rfl rfl (wrap_to (by omega) (by omega) (by omega))) ?_
          refine o_val (v := .int .i64 (((j + 1 : Nat) : Int))) (x_assign rfl) ?_
          refine o_nil ?_
          refine e_inv ⟨_, ?_, j + 1, !(q), acc ++ [s[j]], A20, c20, o_20, rfl, (by omega), (by (try simp); omega), (by have h := hq; rw [bare_one hjn (by grind)] at h; unfold keepB nq at h; grind), (hS20_o), ⟨rfl, rfl, rfl, rfl, trivial⟩, hF.drop 1⟩
          omega
        ·
          refine o_val (v := .int .u8 ((((s : Str)[j]'(by omega)).toNat : Int))) (x_move rfl) ?_
          refine o_val (v := .bool (decide (((((s : Str)[j]'(by omega)).toNat : Int) : Int) ≠ (32 : Int)))) (x_neq rfl rfl) ?_
          refine o_val (v := .bool (decide (((((s : Str)[j]'(by omega)).toNat : Int) : Int) ≠ (32 : Int)))) (x_move rfl) ?_
          refine o_splitd (d := 46) (p := ((((s : Str)[j]'(by omega)).toNat : Int) : Int) ≠ (32 : Int)) rfl (fun hg21 => ?_) (fun hg21 => ?_)
          ·
            refine o_val (v := .int .u8 ((((s : Str)[j]'(by omega)).toNat : Int))) (x_move rfl) ?_
            refine o_val (v := .bool (decide (((((s : Str)[j]'(by omega)).toNat : Int) : Int) ≠ (10 : Int)))) (x_neq rfl rfl) ?_
            refine o_val (v := .bool (decide (((((s : Str)[j]'(by omega)).toNat : Int) : Int) ≠ (10 : Int)))) (x_pickt rfl rfl) ?_
            refine o_val (v := .bool (decide (((((s : Str)[j]'(by omega)).toNat : Int) : Int) ≠ (10 : Int)))) (x_pickf rfl rfl) ?_
            refine o_nil ?_
            refine e_seq ?_
            refine c_splitd (d := 50) (p := ((((s : Str)[j]'(by omega)).toNat : Int) : Int) ≠ (10 : Int)) rfl (fun hc3 => ?_) (fun hc3 => ?_)
            ·
              refine c_ift rfl ?_
              refine c_region ?_
              refine o_val (v := .slice (A) (acc.length) (c)) (x_move rfl) ?_
              refine o_val (v := .int .u8 ((((s : Str)[j]'(by omega)).toNat : Int))) (x_move rfl) ?_
              refine o_new (v := fun b => .slice (some ⟨b, 0, none⟩) 1 1) hF (x_buildSlice (cs := #[.int .u8 ((((s : Str)[j]'(by omega)).toNat : Int))]) Tryz.underlying50 Tryz.sizeOf5 Tryz.zeroValue5 (by decide) (by decide) (by kernel_rfl)) ?_
              clear hF; intro b11 w hb11 hF hE
              clear hE
              refine o_append [(b11, .cells #[.int .u8 ((((s : Str)[j]'(by omega)).toNat : Int))] 5)] [] (news := [.int .u8 ((((s : Str)[j]'(by omega)).toNat : Int))]) (len' := (acc ++ [s[j]]).length) (ys := Lib.byteCells (acc ++ [s[j]])) el_50 hF hS rfl rfl (rfl) (fun _ => ⟨_, rfl, cells_opt (hF.cellsAll 0 rfl)⟩) (by simp [Value.oneCell']) (by simp only [maxLen]; omega) (by simp) (by simp [Lib.byteCells]) (by omega) ?_
              clear hF; intro A22 c22 o_22 w hS22_o hF hE hnew
              clear hE hnew
              refine o_val (v := .slice (A22) ((acc ++ [s[j]]).length) (c22)) (x_assign rfl) ?_
              refine o_nil ?_
              refine e_block ?_
              refine e_seq ?_
              refine c_region ?_
              refine o_val (v := .int .i64 ((j : Int))) (x_move rfl) ?_
              refine o_val (v := .int .i64 (((j + 1 : Nat) : Int))) (x_add rfl rfl (wrap_to (by omega) (by omega) (by omega))) ?_
              refine o_val (v := .int .i64 (((j + 1 : Nat) : Int))) (x_assign rfl) ?_
              refine o_nil ?_
              refine e_inv ⟨_, ?_, j + 1, !(q), acc ++ [s[j]], A22, c22, o_22, rfl, (by omega), (by (try simp); omega), (by have h := hq; rw [bare_one hjn (by grind)] at h; unfold keepB nq at h; grind), (hS22_o), ⟨rfl, rfl, rfl, rfl, trivial⟩, hF.drop 1⟩
              omega
            ·
              refine c_iff rfl ?_
              refine c_skip ?_
              refine e_block ?_
              refine e_seq ?_
              refine c_region ?_
              refine o_val (v := .int .i64 ((j : Int))) (x_move rfl) ?_
              refine o_val (v := .int .i64 (((j + 1 : Nat) : Int))) (x_add rfl rfl (wrap_to (by omega) (by omega) (by omega))) ?_
              refine o_val (v := .int .i64 (((j + 1 : Nat) : Int))) (x_assign rfl) ?_
              refine o_nil ?_
              refine e_inv ⟨_, ?_, j + 1, !(q), acc, A, c, sb, rfl, (by omega), (by (try simp); omega), (by have h := hq; rw [bare_one hjn (by grind)] at h; unfold keepB nq at h; grind), (hS), ⟨rfl, rfl, rfl, rfl, trivial⟩, hF⟩
              omega
          ·
            refine o_off ?_
            refine o_off ?_
            refine o_val (v := .bool false) (x_pickf rfl rfl) ?_
            refine o_val (v := .bool false) (x_pickf rfl rfl) ?_
            refine o_nil ?_
            refine e_seq ?_
            refine c_iff rfl ?_
            refine c_skip ?_
            refine e_block ?_
            refine e_seq ?_
            refine c_region ?_
            refine o_val (v := .int .i64 ((j : Int))) (x_move rfl) ?_
            refine o_val (v := .int .i64 (((j + 1 : Nat) : Int))) (x_add rfl rfl (wrap_to (by omega) (by omega) (by omega))) ?_
            refine o_val (v := .int .i64 (((j + 1 : Nat) : Int))) (x_assign rfl) ?_
            refine o_nil ?_
            refine e_inv ⟨_, ?_, j + 1, !(q), acc, A, c, sb, rfl, (by omega), (by (try simp); omega), (by have h := hq; rw [bare_one hjn (by grind)] at h; unfold keepB nq at h; grind), (hS), ⟨rfl, rfl, rfl, rfl, trivial⟩, hF⟩
            omega
      ·
        refine c_iff rfl ?_
        refine c_skip ?_
        refine e_seq ?_
        refine c_seq ?_
        refine c_region ?_
        refine o_val (v := .bool (q)) (x_move rfl) ?_
        refine o_val (v := .bool (q)) (x_move rfl) ?_
        refine o_split (d := 43) (b := q) rfl (fun hg23 => ?_) (fun hg23 => ?_)
        ·
          refine o_off ?_
          refine o_off ?_
          refine o_off ?_
          refine o_off ?_
          refine o_off ?_
          refine o_off ?_
          refine o_val (v := .bool true) (x_pickt rfl rfl) ?_
          refine o_nil ?_
          refine e_seq ?_
          refine c_ift rfl ?_
          refine c_region ?_
          refine o_val (v := .slice (A) (acc.length) (c)) (x_move rfl) ?_
          refine o_val (v := .int .u8 ((((s : Str)[j]'(by omega)).toNat : Int))) (x_move rfl) ?_
          refine o_new (v := fun b => .slice (some ⟨b, 0, none⟩) 1 1) hF (x_buildSlice (cs := #[.int .u8 ((((s : Str)[j]'(by omega)).toNat : Int))]) Tryz.underlying50 Tryz.sizeOf5 Tryz.zeroValue5 (by decide) (by decide) (by kernel_rfl)) ?_
          clear hF; intro b12 w hb12 hF hE
          clear hE
          refine o_append [(b12, .cells #[.int .u8 ((((s : Str)[j]'(by omega)).toNat : Int))] 5)] [] (news := [.int .u8 ((((s : Str)[j]'(by omega)).toNat : Int))]) (len' := (acc ++ [s[j]]).length) (ys := Lib.byteCells (acc ++ [s[j]])) el_50 hF hS rfl rfl (rfl) (fun _ => ⟨_, rfl, cells_opt (hF.cellsAll 0 rfl)⟩) (by simp [Value.oneCell']) (by simp only [maxLen]; omega) (by simp) (by simp [Lib.byteCells]) (by omega) ?_
          clear hF; intro A24 c24 o_24 w hS24_o hF hE hnew
          clear hE hnew
          refine o_val (v := .slice (A24) ((acc ++ [s[j]]).length) (c24)) (x_assign rfl) ?_
          refine o_nil ?_
          refine e_block ?_
          refine e_seq ?_
          refine c_region ?_
          refine o_val (v := .int .i64 ((j : Int))) (x_move rfl) ?_
          refine o_val (v := .int .i64 (((j + 1 : Nat) : Int))) (x_add rfl rfl (wrap_to (by omega) (by omega) (by omega))) ?_
          refine o_val (v := .int .i64 (((j + 1 : Nat) : Int))) (x_assign rfl) ?_
          refine o_nil ?_
          refine e_inv ⟨_, ?_, j + 1, q, acc ++ [s[j]], A24, c24, o_24, rfl, (by omega), (by (try simp); omega), (by have h := hq; rw [bare_one hjn (by grind)] at h; unfold keepB nq at h; grind), (hS24_o), ⟨rfl, rfl, rfl, rfl, trivial⟩, hF.drop 1⟩
          omega
        ·
          refine o_val (v := .int .u8 ((((s : Str)[j]'(by omega)).toNat : Int))) (x_move rfl) ?_
          refine o_val (v := .bool (decide (((((s : Str)[j]'(by omega)).toNat : Int) : Int) ≠ (32 : Int)))) (x_neq rfl rfl) ?_
          refine o_val (v := .bool (decide (((((s : Str)[j]'(by omega)).toNat : Int) : Int) ≠ (32 : Int)))) (x_move rfl) ?_
          refine o_splitd (d := 46) (p := ((((s : Str)[j]'(by omega)).toNat : Int) : Int) ≠ (32 : Int)) rfl (fun hg25 => ?_) (fun hg25 => ?_)
          ·
            refine o_val (v := .int .u8 ((((s : Str)[j]'(by omega)).toNat : Int))) (x_move rfl) ?_
            refine o_val (v := .bool (decide (((((s : Str)[j]'(by omega)).toNat : Int) : Int) ≠ (10 : Int)))) (x_neq rfl rfl) ?_
            refine o_val (v := .bool (decide (((((s : Str)[j]'(by omega)).toNat : Int) : Int) ≠ (10 : Int)))) (x_pickt rfl rfl) ?_
            refine o_val (v := .bool (decide (((((s : Str)[j]'(by omega)).toNat : Int) : Int) ≠ (10 : Int)))) (x_pickf rfl rfl) ?_
            refine o_nil ?_
            refine e_seq ?_
            refine c_splitd (d := 50) (p := ((((s : Str)[j]'(by omega)).toNat : Int) : Int) ≠ (10 : Int)) rfl (fun hc3 => ?_) (fun hc3 => ?_)
            ·
              refine c_ift rfl ?_
              refine c_region ?_
              refine o_val (v := .slice (A) (acc.length) (c)) (x_move rfl) ?_
              refine o_val (v := .int .u8 ((((s : Str)[j]'(by omega)).toNat : Int))) (x_move rfl) ?_
              refine o_new (v := fun b => .slice (some ⟨b, 0, none⟩) 1 1) hF (x_buildSlice (cs := #[.int .u8 ((((s : Str)[j]'(by omega)).toNat : Int))]) Tryz.underlying50 Tryz.sizeOf5 Tryz.zeroValue5 (by decide) (by decide) (by kernel_rfl)) ?_
              clear hF; intro b13 w hb13 hF hE
              clear hE
              refine o_append [(b13, .cells #[.int .u8 ((((s : Str)[j]'(by omega)).toNat : Int))] 5)] [] (news := [.int .u8 ((((s : Str)[j]'(by omega)).toNat : Int))]) (len' := (acc ++ [s[j]]).length) (ys := Lib.byteCells (acc ++ [s[j]])) el_50 hF hS rfl rfl (rfl) (fun _ => ⟨_, rfl, cells_opt (hF.cellsAll 0 rfl)⟩) (by simp [Value.oneCell']) (by simp only [maxLen]; omega) (by simp) (by simp [Lib.byteCells]) (by omega) ?_
              clear hF; intro A26 c26 o_26 w hS26_o hF hE hnew
              clear hE hnew
              refine o_val (v := .slice (A26) ((acc ++ [s[j]]).length) (c26)) (x_assign rfl) ?_
              refine o_nil ?_
              refine e_block ?_
              refine e_seq ?_
              refine c_region ?_
              refine o_val (v := .int .i64 ((j : Int))) (x_move rfl) ?_
              refine o_val (v := .int .i64 (((j + 1 : Nat) : Int))) (x_add rfl rfl (wrap_to (by omega) (by omega) (by omega))) ?_
              refine o_val (v := .int .i64 (((j + 1 : Nat) : Int))) (x_assign rfl) ?_
              refine o_nil ?_
              refine e_inv ⟨_, ?_, j + 1, q, acc ++ [s[j]], A26, c26, o_26, rfl, (by omega), (by (try simp); omega), (by have h := hq; rw [bare_one hjn (by grind)] at h; unfold keepB nq at h; grind), (hS26_o), ⟨rfl, rfl, rfl, rfl, trivial⟩, hF.drop 1⟩
              omega
            ·
              refine c_iff rfl ?_
              refine c_skip ?_
              refine e_block ?_
              refine e_seq ?_
              refine c_region ?_
              refine o_val (v := .int .i64 ((j : Int))) (x_move rfl) ?_
              refine o_val (v := .int .i64 (((j + 1 : Nat) : Int))) (x_add rfl rfl (wrap_to (by omega) (by omega) (by omega))) ?_
              refine o_val (v := .int .i64 (((j + 1 : Nat) : Int))) (x_assign rfl) ?_
              refine o_nil ?_
              refine e_inv ⟨_, ?_, j + 1, q, acc, A, c, sb, rfl, (by omega), (by (try simp); omega), (by have h := hq; rw [bare_one hjn (by grind)] at h; unfold keepB nq at h; grind), (hS), ⟨rfl, rfl, rfl, rfl, trivial⟩, hF⟩
              omega
          ·
            refine o_off ?_
            refine o_off ?_
            refine o_val (v := .bool false) (x_pickf rfl rfl) ?_
            refine o_val (v := .bool false) (x_pickf rfl rfl) ?_
            refine o_nil ?_
            refine e_seq ?_
            refine c_iff rfl ?_
            refine c_skip ?_
            refine e_block ?_
            refine e_seq ?_
            refine c_region ?_
            refine o_val (v := .int .i64 ((j : Int))) (x_move rfl) ?_
            refine o_val (v := .int .i64 (((j + 1 : Nat) : Int))) (x_add rfl rfl (wrap_to (by omega) (by omega) (by omega))) ?_
            refine o_val (v := .int .i64 (((j + 1 : Nat) : Int))) (x_assign rfl) ?_
            refine o_nil ?_
            refine e_inv ⟨_, ?_, j + 1, q, acc, A, c, sb, rfl, (by omega), (by (try simp); omega), (by have h := hq; rw [bare_one hjn (by grind)] at h; unfold keepB nq at h; grind), (hS), ⟨rfl, rfl, rfl, rfl, trivial⟩, hF⟩
            omega
  ·
    refine c_iff rfl ?_
    refine c_exit (e_exit rfl ?_)
    refine e_seq ?_
    refine c_seq ?_
    refine c_region ?_
    refine o_val (v := .slice (A) (acc.length) (c)) (x_move rfl) ?_
    refine o_val (v := .string (bs (acc))) (x_convSl hS hF Tryz.underlying50 Tryz.underlying5 Tryz.underlying9 rfl) ?_
    refine o_val (v := .string (bs (acc))) (x_assign rfl) ?_
    refine o_nil ?_
    refine e_seq ?_
    refine c_ret (e_ret (post_ret (res_1 (v := .string (bs (acc))) rfl rfl) ?_))
    refine ⟨?_, hF.same⟩
    have h := hq
    rw [List.drop_eq_nil_of_le (by omega), bareL, List.append_nil] at h
    rw [h]
end Go.Scarf
