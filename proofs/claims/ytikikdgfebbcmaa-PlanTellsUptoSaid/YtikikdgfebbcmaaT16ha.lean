/- Chapter 16: walks. Printed by gen.py. -/
import Derived.Test.YtikikdgfebbcmaaT16x
import Derived.Test.YtikikdgfebbcmaaHgT
set_option linter.unusedVariables false
set_option linter.unusedSimpArgs false
set_option maxRecDepth 100000
namespace Go.Proofs
open Go.Hg

theorem m_tab : ∀ k : Fin 65, bop .and .u64 (k.val : Int) 4294967295 = k.val ∧ (k.val : Int).fdiv (2 ^ min (32 : Int).toNat IntKind.u64.bits) = 0 ∧ bop .mul .u64 1 k.val = k.val ∧ bop .mul .u64 0 k.val = 0 ∧ IntKind.u64.wrap (k.val : Int) = k.val ∧ IntKind.i64.wrap (k.val : Int) = k.val := by decide +kernel
theorem m_and {n : Nat} (h : n ≤ 64) : bop .and .u64 (n : Int) 4294967295 = n := (m_tab ⟨n, by omega⟩).1
theorem m_shr {n : Nat} (h : n ≤ 64) : (n : Int).fdiv (2 ^ min (32 : Int).toNat IntKind.u64.bits) = 0 := (m_tab ⟨n, by omega⟩).2.1
theorem m_mul1 {n : Nat} (h : n ≤ 64) : bop .mul .u64 1 (n : Int) = n := (m_tab ⟨n, by omega⟩).2.2.1
theorem m_mul0 {n : Nat} (h : n ≤ 64) : bop .mul .u64 0 (n : Int) = 0 := (m_tab ⟨n, by omega⟩).2.2.2.1
theorem m_wu {n : Nat} (h : n ≤ 64) : IntKind.u64.wrap (n : Int) = n := (m_tab ⟨n, by omega⟩).2.2.2.2.1
theorem m_wi {n : Nat} (h : n ≤ 64) : IntKind.i64.wrap (n : Int) = n := (m_tab ⟨n, by omega⟩).2.2.2.2.2
theorem m_a1 : bop .and .u64 1 4294967295 = 1 := by kernel_rfl
theorem m_a0 : bop .and .u64 0 4294967295 = 0 := by kernel_rfl
theorem m_s1 : (1 : Int).fdiv (2 ^ min (32 : Int).toNat IntKind.u64.bits) = 0 := by kernel_rfl
theorem m_s0 : (0 : Int).fdiv (2 ^ min (32 : Int).toNat IntKind.u64.bits) = 0 := by kernel_rfl
theorem m_10 : bop .mul .u64 1 0 = 0 := by kernel_rfl
theorem m_00 : bop .mul .u64 0 0 = 0 := by kernel_rfl
theorem m_p0 : bop .add .u64 0 0 = 0 := by kernel_rfl

theorem mul64_ac {n : Nat} (hn : n ≤ 64) : AC Try.prog 90 [.int .u64 1, (.int .u64 (n : Int))] (.tup [.int .u64 0, (.int .u64 (n : Int))]) := by
  refine AC.intro Try.func90 rfl (Nat.le_of_ble_eq_true rfl) ?_
  refine ok_reg ?_
  refine s1 rfl (lop_assign (v := .int _ _) rfl) ?_
  refine s1 rfl (lop_assign (v := .int _ _) rfl) ?_
  refine ops_nil ?_
  refine ok_reg ?_
  refine s1 rfl (lop_move (v := .int _ _) rfl) ?_
  refine s1 rfl (lop_bop rfl rfl rfl m_a1) ?_
  refine s1 rfl (lop_assign (v := .int _ _) rfl) ?_
  refine ops_nil ?_
  refine ok_reg ?_
  refine s1 rfl (lop_move (v := .int _ _) rfl) ?_
  refine s1 rfl (lop_shr rfl rfl (by decide) m_s1) ?_
  refine s1 rfl (lop_assign (v := .int _ _) rfl) ?_
  refine ops_nil ?_
  refine ok_reg ?_
  refine s1 rfl (lop_move (v := .int _ _) rfl) ?_
  refine s1 rfl (lop_bop rfl rfl rfl (m_and hn)) ?_
  refine s1 rfl (lop_assign (v := .int _ _) rfl) ?_
  refine ops_nil ?_
  refine ok_reg ?_
  refine s1 rfl (lop_move (v := .int _ _) rfl) ?_
  refine s1 rfl (lop_shr rfl rfl (by decide) (m_shr hn)) ?_
  refine s1 rfl (lop_assign (v := .int _ _) rfl) ?_
  refine ops_nil ?_
  refine ok_reg ?_
  refine s1 rfl (lop_move (v := .int _ _) rfl) ?_
  refine s1 rfl (lop_move (v := .int _ _) rfl) ?_
  refine s1 rfl (lop_bop rfl rfl rfl (m_mul1 hn)) ?_
  refine s1 rfl (lop_assign (v := .int _ _) rfl) ?_
  refine ops_nil ?_
  refine ok_reg ?_
  refine s1 rfl (lop_move (v := .int _ _) rfl) ?_
  refine s1 rfl (lop_move (v := .int _ _) rfl) ?_
  refine s1 rfl (lop_bop rfl rfl rfl (m_mul0 hn)) ?_
  refine s1 rfl (lop_move (v := .int _ _) rfl) ?_
  refine s1 rfl (lop_shr rfl rfl (by decide) (m_shr hn)) ?_
  refine s1 rfl (lop_bop rfl rfl rfl m_p0) ?_
  refine s1 rfl (lop_assign (v := .int _ _) rfl) ?_
  refine ops_nil ?_
  refine ok_reg ?_
  refine s1 rfl (lop_move (v := .int _ _) rfl) ?_
  refine s1 rfl (lop_bop rfl rfl rfl m_a0) ?_
  refine s1 rfl (lop_assign (v := .int _ _) rfl) ?_
  refine ops_nil ?_
  refine ok_reg ?_
  refine s1 rfl (lop_move (v := .int _ _) rfl) ?_
  refine s1 rfl (lop_shr rfl rfl (by decide) m_s0) ?_
  refine s1 rfl (lop_assign (v := .int _ _) rfl) ?_
  refine ops_nil ?_
  refine ok_reg ?_
  refine s1 rfl (lop_move (v := .int _ _) rfl) ?_
  refine s1 rfl (lop_move (v := .int _ _) rfl) ?_
  refine s1 rfl (lop_move (v := .int _ _) rfl) ?_
  refine s1 rfl (lop_bop rfl rfl rfl m_10) ?_
  refine s1 rfl (lop_bop rfl rfl rfl m_p0) ?_
  refine s1 rfl (lop_assign (v := .int _ _) rfl) ?_
  refine ops_nil ?_
  refine ok_reg ?_
  refine s1 rfl (lop_move (v := .int _ _) rfl) ?_
  refine s1 rfl (lop_move (v := .int _ _) rfl) ?_
  refine s1 rfl (lop_bop rfl rfl rfl m_00) ?_
  refine s1 rfl (lop_move (v := .int _ _) rfl) ?_
  refine s1 rfl (lop_bop rfl rfl rfl m_p0) ?_
  refine s1 rfl (lop_move (v := .int _ _) rfl) ?_
  refine s1 rfl (lop_shr rfl rfl (by decide) m_s0) ?_
  refine s1 rfl (lop_bop rfl rfl rfl m_p0) ?_
  refine s1 rfl (lop_assign (v := .int _ _) rfl) ?_
  refine ops_nil ?_
  refine ok_reg ?_
  refine s1 rfl (lop_move (v := .int _ _) rfl) ?_
  refine s1 rfl (lop_move (v := .int _ _) rfl) ?_
  refine s1 rfl (lop_bop rfl rfl rfl (m_mul1 hn)) ?_
  refine s1 rfl (lop_assign (v := .int _ _) rfl) ?_
  refine ops_nil ?_
  refine ok_ret ?_
  exact ret_two rfl rfl rfl rfl rfl rfl rfl

theorem mul_ac {n : Nat} (hn : n ≤ 64) : AC Try.prog 83 [.int .u64 1, (.int .u64 (n : Int))] (.tup [.int .u64 0, (.int .u64 (n : Int))]) := by
  refine AC.intro Try.func83 rfl (Nat.le_of_ble_eq_true rfl) ?_
  refine ok_reg ?_
  refine s1 rfl (lop_assign (v := .int _ _) rfl) ?_
  refine s1 rfl (lop_assign (v := .int _ _) rfl) ?_
  refine ops_nil ?_
  refine ok_seq ?_
  refine ok_false rfl rfl ?_
  refine ok_skip ?_
  refine ok_reg ?_
  refine s1 rfl (lop_move (v := .int _ _) rfl) ?_
  refine s1 rfl (lop_move (v := .int _ _) rfl) ?_
  refine s1 rfl (lop_call rfl Try.call90 (FrzL.tf rfl) (.inl rfl) (mul64_ac hn)) ?_
  refine s1 rfl (lop_move (v := .tup _) rfl) ?_
  refine s1 rfl (lop_extract rfl rfl) ?_
  refine s1 rfl (lop_extract rfl rfl) ?_
  refine s1 rfl (lop_assign (v := .int _ _) rfl) ?_
  refine s1 rfl (lop_assign (v := .int _ _) rfl) ?_
  refine ops_nil ?_
  refine ok_reg ?_
  refine s1 rfl (lop_move (v := .int _ _) rfl) ?_
  refine s1 rfl (lop_move (v := .int _ _) rfl) ?_
  refine s1 rfl (lop_assign (v := .int _ _) rfl) ?_
  refine s1 rfl (lop_assign (v := .int _ _) rfl) ?_
  refine ops_nil ?_
  refine ok_ret ?_
  exact ret_two rfl rfl rfl rfl rfl rfl rfl

def tfs (n j : Nat) : List V := (List.replicate j true ++ List.replicate (n - j) false).flatMap boolEnc
theorem tfs_rep (n : Nat) : (List.replicate n [V.bool false]).flatten = tfs n 0 := by
  unfold tfs
  simp [boolEnc, List.flatMap_replicate]
theorem tfs_eq (n j : Nat) : tfs n j = List.replicate j (V.bool true) ++ List.replicate (n - j) (V.bool false) := by
  have h : ∀ (k : Nat) (b : Bool), (List.replicate k b).flatMap boolEnc = List.replicate k (V.bool b) := by
    intro k b
    induction k with
    | zero => rfl
    | succ k ih => rw [List.replicate_succ, List.flatMap_cons, ih]; rfl
  unfold tfs
  rw [List.flatMap_append, h, h]
theorem tfs_len {n j : Nat} (h : j ≤ n) : (tfs n j).length = n := by rw [tfs_eq]; simp; omega
theorem tfs_step {n j k : Nat} (hj : j ≤ n) (hk : min j (n - j) = k) : vsplice (tfs n j) (0 + j * 1) ((((tfs n j).drop (0 + 0 * 1)).take ((j - 0) * 1)).take (k * 1)) = tfs n (j + k) := by
  rw [show 0 + j * 1 = j by omega, show j - 0 = j by omega]
  unfold vsplice
  simp only [tfs_eq, List.drop_zero, Nat.mul_one, Nat.zero_mul, Nat.add_zero]
  rw [List.take_append_of_le_length (by simp), List.take_of_length_le (by simp), List.take_replicate, List.length_replicate, List.drop_append, List.drop_replicate, List.drop_replicate, List.length_replicate,
    show min k j = k by omega, show j - (j + k) = 0 by omega, show n - j - (j + k - j) = n - (j + k) by omega, List.replicate_append_replicate]
  simp
theorem tfs_row (n : Nat) : rowOf boolEnc (List.replicate n true) = .sl n (tfs n n) := by
  unfold rowOf tfs
  simp
theorem tfs_first {n : Nat} : vsplice (tfs n 0) 0 ([V.bool true].take (min 1 n * 1)) = tfs n (min 1 n) := by
  unfold vsplice
  simp only [tfs_eq]
  rcases n with _ | n
  · rfl
  · rw [show min 1 (n + 1) = 1 by omega]
    simp [List.replicate_succ]

theorem repeat_ac {n : Nat} (hn : n ≤ 64) : AC Try.prog 71 [rowOf boolEnc [true], i64 n] (rowOf boolEnc (List.replicate n true)) := by
  refine AC.intro Try.func71 rfl (Nat.le_of_ble_eq_true rfl) ?_
  refine ok_reg ?_
  first
    | refine s1 rfl (lop_assign (v := .sl _ _) rfl) ?_
    | refine s1 rfl (lop_assign (v := .os _ _ _ _) rfl) ?_
    | refine s1 rfl (lop_assign (v := .z0) rfl) ?_
  refine ops_nil ?_
  refine ok_seq ?_
  refine ok_reg ?_
  refine s1 rfl (lop_move (v := .int _ _) rfl) ?_
  refine s1 rfl (lop_lss rfl rfl) ?_
  refine ops_nil ?_
  first
    | refine ok_if _ rfl rfl (fun h_t10 => ?_) (fun h_t10 => ?_)
    | refine ok_cond rfl rfl (fun h_t10 => ?_) (fun h_t10 => ?_)
  · exfalso; omega
  · refine ok_skip ?_
    refine ok_reg ?_
    first
      | refine s1 rfl (lop_move (v := .sl _ _) rfl) ?_
      | refine s1 rfl (lop_move (v := .os _ _ _ _) rfl) ?_
      | refine s1 rfl (lop_move (v := .z0) rfl) ?_
    refine s1 rfl (lop_len rfl Try.underlying71 ⟨⟨_, rfl⟩, rfl⟩) ?_
    refine s1 rfl (lop_conv rfl Try.underlying3 Try.underlying136 (show IntKind.u64.wrap _ = 1 by kernel_rfl)) ?_
    refine s1 rfl (lop_move (v := .int _ _) rfl) ?_
    refine s1 rfl (lop_conv rfl Try.underlying3 Try.underlying136 (m_wu hn)) ?_
    refine s1 rfl (lop_call rfl Try.call83 (FrzL.tf rfl) (.inl rfl) (mul_ac hn)) ?_
    refine s1 rfl (lop_move (v := .tup _) rfl) ?_
    refine s1 rfl (lop_extract rfl rfl) ?_
    refine s1 rfl (lop_extract rfl rfl) ?_
    refine s1 rfl (lop_assign (v := .int _ _) rfl) ?_
    refine s1 rfl (lop_assign (v := .int _ _) rfl) ?_
    refine ops_nil ?_
    refine ok_seq ?_
    refine ok_reg ?_
    refine s1 rfl (lop_move (v := .int _ _) rfl) ?_
    refine s1 rfl (lop_gtr rfl rfl) ?_
    refine s1 rfl (lop_move (v := .bool _) rfl) ?_
    refine y1 rfl rfl rfl rfl (lop_move (v := .int _ _) rfl) ?_
    refine y1 rfl rfl rfl rfl (lop_gtr rfl rfl) ?_
    first
      | refine s1 rfl (lop_pick_f (v := .bool _) rfl rfl rfl) ?_
      | refine s1 rfl (lop_pick_t (v := .bool _) rfl rfl rfl) ?_
      | refine s1 rfl (lop_pick_f (v := .bool _) rfl rfl rfl) ?_
      | refine s1 rfl (lop_pick rfl rfl rfl) ?_
    refine ops_nil ?_
    first
      | refine ok_if _ rfl rfl (fun h_t26 => ?_) (fun h_t26 => ?_)
      | refine ok_cond rfl rfl (fun h_t26 => ?_) (fun h_t26 => ?_)
    · exfalso; omega
    · refine ok_skip ?_
      refine ok_reg ?_
      refine s1 rfl (lop_move (v := .int _ _) rfl) ?_
      refine s1 rfl (lop_conv rfl Try.underlying136 Try.underlying3 (m_wi hn)) ?_
      refine s1w rfl (lop_make2 (t := 30) (n := n) rfl rfl rfl rfl Try.underlying71 (info4) rfl (by omega) (by omega) (tfs_rep n)) rfl ?_
      first
        | refine s1 rfl (lop_assign (v := .sl _ _) rfl) ?_
        | refine s1 rfl (lop_assign (v := .os _ _ _ _) rfl) ?_
        | refine s1 rfl (lop_assign (v := .z0) rfl) ?_
      refine ops_nil ?_
      refine ok_reg ?_
      first
        | refine s1 rfl (lop_move (v := .sl _ _) rfl) ?_
        | refine s1 rfl (lop_move (v := .os _ _ _ _) rfl) ?_
        | refine s1 rfl (lop_move (v := .z0) rfl) ?_
      first
        | refine s1 rfl (lop_move (v := .sl _ _) rfl) ?_
        | refine s1 rfl (lop_move (v := .os _ _ _ _) rfl) ?_
        | refine s1 rfl (lop_move (v := .z0) rfl) ?_
      first
        | refine s1w rfl (lop_copy rfl rfl rfl (.os Try.underlying71 (List.mem_singleton.2 rfl) rfl (Nat.le_of_ble_eq_true rfl) rfl) Try.underlying71 Try.sizeOf4 (by decide) rfl (by rw [tfs_len (Nat.zero_le _)]; omega)) rfl ?_
        | refine s1w rfl (lop_copy (R := []) rfl rfl rfl (.sl Try.underlying71 rfl) Try.underlying71 Try.sizeOf4 (by decide) rfl (by rw [tfs_len (Nat.zero_le _)]; omega)) rfl ?_
        | refine s1w rfl (lop_copy (R := []) rfl rfl rfl (.z0 Try.underlying71) Try.underlying71 Try.sizeOf4 (by decide) rfl (by rw [tfs_len (Nat.zero_le _)]; omega)) rfl ?_
      refine s1 rfl (lop_assign (v := .int _ _) rfl) ?_
      refine ops_nil ?_
      refine ok_seq ?_
      refine ok_block ?_
      refine ok_loop (ι := {j : Nat // j ≤ n ∧ (j = 0 → n = 0)}) (fun j => ⟨[(7, .os 30 0 1 n), (8, i64 j.1)], [(30, some (true, tfs n j.1))], 48⟩) (fun j => n - j.1) (⟨min 1 n, by omega, by omega⟩) ?_ ?_
      · exact le_mk ⟨rfl, rfl, trivial⟩ ⟨.inr (by rw [← tfs_first]; rfl), trivial⟩ rfl
      rintro ⟨j, hj, hj0⟩
      dsimp only
      refine ok_seq ?_
      refine ok_reg ?_
      refine s1 rfl (lop_move (v := .int _ _) rfl) ?_
      first
        | refine s1 rfl (lop_move (v := .sl _ _) rfl) ?_
        | refine s1 rfl (lop_move (v := .os _ _ _ _) rfl) ?_
        | refine s1 rfl (lop_move (v := .z0) rfl) ?_
      refine s1 rfl (lop_len rfl Try.underlying71 ⟨⟨_, rfl⟩, rfl⟩) ?_
      refine s1 rfl (lop_lss rfl rfl) ?_
      refine ops_nil ?_
      first
        | refine ok_if _ rfl rfl (fun h_t37 => ?_) (fun h_t37 => ?_)
        | refine ok_cond rfl rfl (fun h_t37 => ?_) (fun h_t37 => ?_)
      · have h_t37 : j < n := by omega
        refine ok_skip ?_
        refine ok_block ?_
        refine ok_draw Try.mixed ?_
        refine d1 rfl rfl (lop_move (v := .int _ _) rfl) ?_
        first
          | refine d1 rfl rfl (lop_move (v := .sl _ _) rfl) ?_
          | refine d1 rfl rfl (lop_move (v := .os _ _ _ _) rfl) ?_
          | refine d1 rfl rfl (lop_move (v := .z0) rfl) ?_
        refine d1 rfl rfl (lop_move (v := .int _ _) rfl) ?_
        first
          | refine d1 rfl rfl (lop_slice_z0 rfl Try.underlying71 Try.sizeOf4 ⟨_, _, rfl, rfl⟩ rfl) ?_
          | refine d1 rfl rfl (lop_slice_os (L := 0) rfl rfl Try.underlying71 Try.sizeOf4 ⟨_, _, rfl, rfl⟩ rfl (by omega) (by have := tfs_len hj; omega) (by decide)) ?_
          | refine d1 rfl rfl (lop_slice_sl rfl Try.underlying71 Try.sizeOf4 rfl ⟨_, _, rfl, rfl⟩ rfl (by omega) (by have := tfs_len hj; omega) rfl) ?_
        first
          | refine d1 rfl rfl (lop_move (v := .sl _ _) rfl) ?_
          | refine d1 rfl rfl (lop_move (v := .os _ _ _ _) rfl) ?_
          | refine d1 rfl rfl (lop_move (v := .z0) rfl) ?_
        refine d1 rfl rfl (lop_move (v := .int _ _) rfl) ?_
        first
          | refine d1 rfl rfl (lop_slice_z0 rfl Try.underlying71 Try.sizeOf4 rfl ⟨_, _, rfl, rfl⟩) ?_
          | refine d1 rfl rfl (lop_slice_os (L := 0) rfl rfl Try.underlying71 Try.sizeOf4 rfl ⟨_, _, rfl, rfl⟩ (by omega) (by have := tfs_len hj; omega) (by decide)) ?_
          | refine d1 rfl rfl (lop_slice_sl rfl Try.underlying71 Try.sizeOf4 rfl rfl ⟨_, _, rfl, rfl⟩ (by omega) (by have := tfs_len hj; omega) rfl) ?_
        first
          | refine d1w rfl rfl (lop_copy rfl rfl rfl (.os Try.underlying71 (List.mem_singleton.2 rfl) rfl (by rw [tfs_len hj]; omega) rfl) Try.underlying71 Try.sizeOf4 (by decide) rfl (by rw [tfs_len hj]; omega)) ?_
          | refine d1w rfl rfl (lop_copy (R := []) rfl rfl rfl (.sl Try.underlying71 (by rw [tfs_len hj]; omega)) Try.underlying71 Try.sizeOf4 (by decide) rfl (by rw [tfs_len hj]; omega)) ?_
          | refine d1w rfl rfl (lop_copy (R := []) rfl rfl rfl (.z0 Try.underlying71) Try.underlying71 Try.sizeOf4 (by decide) rfl (by rw [tfs_len hj]; omega)) ?_
        refine d1 rfl rfl (lop_bop rfl rfl rfl (bop_add (by omega) (by omega))) ?_
        refine d1 rfl rfl (lop_assign (v := .int _ _) rfl) ?_
        refine dr_nil (by kernel_rfl) ?_
        exact ⟨⟨j + min j (n - j), by omega, by omega⟩, by simp only; omega, le_mk ⟨rfl, rfl, trivial⟩ ⟨.inr (by rw [← tfs_step hj rfl]; rfl), trivial⟩ rfl⟩
      · refine ok_exit ?_
        refine ok_reg ?_
        first
          | refine s1 rfl (lop_move (v := .sl _ _) rfl) ?_
          | refine s1 rfl (lop_move (v := .os _ _ _ _) rfl) ?_
          | refine s1 rfl (lop_move (v := .z0) rfl) ?_
        first
          | refine s1 rfl (lop_assign (v := .sl _ _) rfl) ?_
          | refine s1 rfl (lop_assign (v := .os _ _ _ _) rfl) ?_
          | refine s1 rfl (lop_assign (v := .z0) rfl) ?_
        refine ops_nil ?_
        refine ok_ret ?_
        have e9 : j = n := by omega
        subst e9
        rw [tfs_row]
        exact ret_gen (R := [30]) ⟨_, _, rfl, ⟨rfl, rfl⟩, rfl⟩ (.osf (List.mem_singleton.2 rfl) rfl (by rw [tfs_len (Nat.le_refl _)]; omega) (by rw [List.drop_zero, List.take_of_length_le (by rw [tfs_len (Nat.le_refl _)]; omega)])) (fun t ht => by simp at ht; subst ht; exact Option.some_ne_none _)

def clampF (n : Int) : Nat := (min (max n 0) 64).toNat
theorem clampF_le (n : Int) : clampF n ≤ 64 := by unfold clampF; omega
theorem lop_maxc {P : Program} {env : Env} {H : Heap} {d : Option Tmp} {ty : TypeId} {ps : String} {af : Array Edge} {gd : Option (Nat × Bool)} {x y : Operand} {k : IntKind} {a b c : Int} {ats : Array TypeId} (hx : ev (get env) x = .int k a) (hy : ev (get env) y = .int k b) (hc : (if b > a then b else a) = c) : LOp P ⟨d, .call { callee := .builtin .max, args := #[x, y], argTypes := ats }, ty, ps, af, gd⟩ env H [] (.int k c) [] [] := hc ▸ lop_max hx hy
theorem lop_minc {P : Program} {env : Env} {H : Heap} {d : Option Tmp} {ty : TypeId} {ps : String} {af : Array Edge} {gd : Option (Nat × Bool)} {x y : Operand} {k : IntKind} {a b c : Int} {ats : Array TypeId} (hx : ev (get env) x = .int k a) (hy : ev (get env) y = .int k b) (hc : (if b < a then b else a) = c) : LOp P ⟨d, .call { callee := .builtin .min, args := #[x, y], argTypes := ats }, ty, ps, af, gd⟩ env H [] (.int k c) [] [] := hc ▸ lop_min hx hy

theorem plan_all_ac (n : Int) : AC Try.prog 46 [i64 n] (rowOf boolEnc (List.replicate (clampF n) true)) := by
  refine AC.intro Try.func46 rfl (Nat.le_of_ble_eq_true rfl) ?_
  refine ok_reg ?_
  first
    | refine s1 rfl (lop_assign (v := .sl _ _) rfl) ?_
    | refine s1 rfl (lop_assign (v := .os _ _ _ _) rfl) ?_
    | refine s1 rfl (lop_assign (v := .z0) rfl) ?_
  refine ops_nil ?_
  refine ok_reg ?_
  first
    | refine s1w rfl (lop_buildSlice (t := 3) (cs := [.bool _]) (f := true) Try.underlying71 Try.sizeOf4 (by decide) Try.zeroValue4 rfl rfl rfl (by decide) rfl (.inr (by decide)) rfl (fun h => by cases h)) rfl ?_
    | refine s1w rfl (lop_buildSlice (t := 3) (cs := [.bool _]) (f := false) Try.underlying71 Try.sizeOf4 (by decide) Try.zeroValue4 rfl rfl rfl (by decide) rfl (.inr (by decide)) rfl (fun _ => rfl)) rfl ?_
  refine s1 rfl (lop_move (v := .int _ _) rfl) ?_
  refine s1 rfl (lop_maxc (c := max n 0) rfl rfl (by split <;> omega)) ?_
  refine s1 rfl (lop_minc (c := (clampF n : Int)) rfl rfl (by unfold clampF; split <;> omega)) ?_
  refine ops_le (T := ⟨[(6, i64 (clampF n)), (3, rowOf boolEnc [true])], [], 8⟩) (le_frz [3] ⟨.inl ⟨rfl, rfl⟩, .inr (fzd_sound _ [3] 4 _ rfl), trivial⟩ trivial (fun t ht => by simp at ht; subst ht; exact Option.some_ne_none _) rfl) ?_
  refine s1 rfl (lop_call rfl Try.call71 (FrzL.tf rfl) (.inl rfl) (repeat_ac (clampF_le n))) ?_
  first
    | refine s1 rfl (lop_assign (v := .sl _ _) rfl) ?_
    | refine s1 rfl (lop_assign (v := .os _ _ _ _) rfl) ?_
    | refine s1 rfl (lop_assign (v := .z0) rfl) ?_
  refine ops_nil ?_
  refine ok_ret ?_
  exact ret_one rfl rfl rfl rfl rfl

def hmF (v : VolD) (i : Nat) : Int := if i = 0 then v.home else v.mate
def homesF (v : VolD) (n : Int) : Nat → List PlD
  | 0 => []
  | i + 1 => homesF v n i ++ (spreadF v.id (hmF v i) 2 n (List.replicate (clampF n) true)).1
theorem hm_at (v : VolD) {i : Nat} (h : i < 2) : [i64 v.home, i64 v.mate][0 + i * 1]? = some (i64 (hmF v i)) := by
  match i, h with
  | 0, _ => rfl
  | 1, _ => rfl
theorem homesF_le (v : VolD) (n : Int) (i : Nat) : (homesF v n i).length ≤ 64 * i := by
  induction i with
  | zero => simp [homesF]
  | succ i ih =>
    simp only [homesF, List.length_append]
    have := spreadF_le v.id (hmF v i) 2 n (List.replicate (clampF n) true)
    omega

theorem plan_Homes_ac (v : VolD) (hv : R64 v.id) (n : Int) : AC Try.prog 16 [.agg v.enc, i64 n] (rowOf PlD.enc (homesF v n 2)) := by
  refine AC.intro Try.func16 rfl (Nat.le_of_ble_eq_true rfl) ?_
  refine ok_reg ?_
  first
    | refine s1w rfl (lop_box (t := 2) (v := .agg [.int _ _, .int _ _, .int _ _, .int _ _, .int _ _, _, _, .int _ _, .int _ _]) (f := true) (cs := [.int _ _, .int _ _, .int _ _, .int _ _, .int _ _, _, _, .int _ _, .int _ _]) rfl rfl rfl rfl (fun h => by cases h)) rfl ?_
    | refine s1w rfl (lop_box (t := 2) (v := .agg [.int _ _, .int _ _, .int _ _, .int _ _, .int _ _, _, _, .int _ _, .int _ _]) (f := false) (cs := [.int _ _, .int _ _, .int _ _, .int _ _, .int _ _, _, _, .int _ _, .int _ _]) rfl rfl rfl rfl (fun _ => rfl)) rfl ?_
  first
    | refine s1 rfl (lop_assign (v := .sl _ _) rfl) ?_
    | refine s1 rfl (lop_assign (v := .os _ _ _ _) rfl) ?_
    | refine s1 rfl (lop_assign (v := .z0) rfl) ?_
  refine ops_nil ?_
  refine ok_reg ?_
  first
    | refine s1 rfl (lop_assign (v := .sl _ _) rfl) ?_
    | refine s1 rfl (lop_assign (v := .os _ _ _ _) rfl) ?_
    | refine s1 rfl (lop_assign (v := .z0) rfl) ?_
  refine ops_nil ?_
  refine ok_seq ?_
  refine ok_reg ?_
  first
    | refine s1 rfl (lop_fieldAddr_rf (fo := 1) rfl Try.underlying39 rfl rfl Try.sizeOf3 (by decide)) ?_
    | refine s1 rfl (lop_fieldAddr_fp (fo := 1) rfl Try.underlying39 rfl rfl Try.sizeOf3 (by decide) rfl) ?_
  first
    | refine s1 rfl (lop_load_rf rfl rfl Try.isAgg3 rfl) ?_
    | refine s1 rfl (lop_load_fp rfl Try.isAgg3 rfl) ?_
  first
    | refine s1 rfl (lop_fieldAddr_rf (fo := 2) rfl Try.underlying39 rfl rfl Try.sizeOf3 (by decide)) ?_
    | refine s1 rfl (lop_fieldAddr_fp (fo := 2) rfl Try.underlying39 rfl rfl Try.sizeOf3 (by decide) rfl) ?_
  first
    | refine s1 rfl (lop_load_rf rfl rfl Try.isAgg3 rfl) ?_
    | refine s1 rfl (lop_load_fp rfl Try.isAgg3 rfl) ?_
  first
    | refine s1w rfl (lop_buildSlice (t := 14) (cs := [.int _ _, .int _ _]) (f := true) Try.underlying74 Try.sizeOf3 (by decide) Try.zeroValue3 rfl rfl rfl (by decide) rfl (.inr (by decide)) rfl (fun h => by cases h)) rfl ?_
    | refine s1w rfl (lop_buildSlice (t := 14) (cs := [.int _ _, .int _ _]) (f := false) Try.underlying74 Try.sizeOf3 (by decide) Try.zeroValue3 rfl rfl rfl (by decide) rfl (.inr (by decide)) rfl (fun _ => rfl)) rfl ?_
  refine s1 rfl (lop_len rfl Try.underlying74 ⟨⟨_, rfl⟩, rfl⟩) ?_
  refine s1 rfl (lop_move (v := .int _ _) rfl) ?_
  refine ops_nil ?_
  refine ok_block ?_
  refine ok_loop (ι := {i : Nat // i ≤ 2}) (fun i => ⟨[(1, i64 n), (2, .rf 2 0), (5, .os 100 0 2 (homesF v n i.1).length), (14, .os 14 0 1 2), (15, i64 2), (16, i64 i.1)], [(2, some (true, v.enc)), (14, some (true, [i64 v.home, i64 v.mate])), (100, some (true, (homesF v n i.1).flatMap PlD.enc))], 35⟩) (fun i => 2 - i.1) (⟨0, by omega⟩) ?_ ?_
  · exact le_ren [(100, none)] ⟨rfl, rfl, rfl, rfl, rfl, rfl, trivial⟩ rfl ⟨⟨_, rfl, rfl⟩, ⟨_, rfl, rfl⟩, ⟨rfl, rfl⟩, trivial⟩ rfl rfl rfl
  rintro ⟨i, hi⟩
  dsimp only
  have hsp := spreadF_le v.id (hmF v i) 2 n (List.replicate (clampF n) true)
  have hle := homesF_le v n i
  refine ok_reg ?_
  refine s1 rfl (lop_lss rfl rfl) ?_
  refine ops_nil ?_
  refine ok_seq ?_
  first
    | refine ok_if _ rfl rfl (fun h_t17 => ?_) (fun h_t17 => ?_)
    | refine ok_cond rfl rfl (fun h_t17 => ?_) (fun h_t17 => ?_)
  · have h_t17 : i < 2 := by omega
    refine ok_skip ?_
    refine ok_seq ?_
    refine ok_block ?_
    refine ok_reg ?_
    first
      | refine s1 rfl (lop_indexAddr_os rfl rfl Try.underlying74 Try.sizeOf3 rfl (by omega)) ?_
      | refine s1 rfl (lop_indexAddr_sl rfl rfl Try.underlying74 Try.sizeOf3 rfl (by omega) rfl (by omega)) ?_
    refine s1 rfl (lop_load_rf (v := i64 (hmF v i)) rfl rfl Try.isAgg3 (hm_at v h_t17)) ?_
    refine s1 rfl (lop_assign (v := .int _ _) rfl) ?_
    refine ops_nil ?_
    refine ok_drw Try.mixed ?_
    first
      | refine d1 rfl rfl (lop_fieldAddr_rf (fo := 0) rfl Try.underlying39 rfl rfl Try.sizeOf3 (by decide)) ?_
      | refine d1 rfl rfl (lop_fieldAddr_fp (fo := 0) rfl Try.underlying39 rfl rfl Try.sizeOf3 (by decide) rfl) ?_
    first
      | refine d1 rfl rfl (lop_load_rf rfl rfl Try.isAgg3 rfl) ?_
      | refine d1 rfl rfl (lop_load_fp rfl Try.isAgg3 rfl) ?_
    refine d1 rfl rfl (lop_move (v := .int _ _) rfl) ?_
    refine d1 rfl rfl (lop_move (v := .int _ _) rfl) ?_
    refine d1 rfl rfl (lop_move (v := .int _ _) rfl) ?_
    refine d1 rfl rfl (lop_call rfl Try.call46 (FrzL.tf rfl) (.inl rfl) (plan_all_ac n)) ?_
    refine d1 rfl rfl (lop_call rfl Try.call45 (FrzL.tf rfl) (.inl rfl) (site_Spread_ac ring_ok v.id (hmF v i) 2 n hv (by rw [List.length_replicate]; exact Nat.le_trans (clampF_le n) (by decide)))) ?_
    refine d1 rfl rfl (lop_move (v := .tup _) rfl) ?_
    refine d1 rfl rfl (lop_extract rfl rfl) ?_
    refine d1 rfl rfl (lop_extract rfl rfl) ?_
    first
      | refine d1 rfl rfl (lop_assign (v := .sl _ _) rfl) ?_
      | refine d1 rfl rfl (lop_assign (v := .os _ _ _ _) rfl) ?_
      | refine d1 rfl rfl (lop_assign (v := .z0) rfl) ?_
    refine d1 rfl rfl (lop_assign (v := .int _ _) rfl) ?_
    refine dr_nil (by kernel_rfl) ?_
    refine ok_region ?_
    first
      | refine s1 rfl (lop_move (v := .sl _ _) rfl) ?_
      | refine s1 rfl (lop_move (v := .os _ _ _ _) rfl) ?_
      | refine s1 rfl (lop_move (v := .z0) rfl) ?_
    first
      | refine s1 rfl (lop_move (v := .sl _ _) rfl) ?_
      | refine s1 rfl (lop_move (v := .os _ _ _ _) rfl) ?_
      | refine s1 rfl (lop_move (v := .z0) rfl) ?_
    first
      | refine s2w rfl (lop_append_os (t' := 32) (R := []) rfl rfl rfl (flat_length PlD.len _) (.sl Try.underlying30 (flat_length PlD.len _)) Try.underlying30 info41 rfl (by omega) (by omega)) rfl ?_
      | refine s1w rfl (lop_append_z0 (t' := 32) (R := []) rfl rfl (.sl Try.underlying30 (flat_length PlD.len _)) Try.underlying30 info41 rfl (by omega) (by omega)) rfl ?_
    first
      | refine s1 rfl (lop_assign (v := .sl _ _) rfl) ?_
      | refine s1 rfl (lop_assign (v := .os _ _ _ _) rfl) ?_
      | refine s1 rfl (lop_assign (v := .z0) rfl) ?_
    refine ops_nil ?_
    refine ok_region ?_
    refine s1 rfl (lop_bop rfl rfl rfl (bop_add (by omega) (by omega))) ?_
    refine s1 rfl (lop_move (v := .int _ _) rfl) ?_
    refine ops_nil ?_
    exact ⟨⟨i + 1, by omega⟩, by simp only; omega, le_ren [(100, some 32)] ⟨rfl, rfl, congrArg (V.os 32 0 2) (by rw [homesF, List.length_append]), rfl, rfl, rfl, trivial⟩ rfl ⟨⟨_, rfl, rfl⟩, ⟨_, rfl, rfl⟩, ⟨_, rfl, by show _ = List.flatMap _ _; rw [homesF, List.flatMap_append]⟩, trivial⟩ rfl rfl rfl⟩
  · refine ok_exit ?_
    refine ok_reg ?_
    first
      | refine s1 rfl (lop_move (v := .sl _ _) rfl) ?_
      | refine s1 rfl (lop_move (v := .os _ _ _ _) rfl) ?_
      | refine s1 rfl (lop_move (v := .z0) rfl) ?_
    first
      | refine s1 rfl (lop_assign (v := .sl _ _) rfl) ?_
      | refine s1 rfl (lop_assign (v := .os _ _ _ _) rfl) ?_
      | refine s1 rfl (lop_assign (v := .z0) rfl) ?_
    refine ops_nil ?_
    refine ok_ret ?_
    have e9 : i = 2 := by omega
    subst e9
    exact ret_gen (R := [100]) ⟨_, _, rfl, ⟨rfl, rfl⟩, rfl⟩ (.osf (List.mem_singleton.2 rfl) rfl (by rw [flat_length PlD.len]; omega) (by rw [List.drop_zero, List.take_of_length_le (by rw [flat_length PlD.len]; omega)])) (fun t ht => by simp at ht; subst ht; exact Option.some_ne_none _)

end Go.Proofs
