/- Chapter 16: walks. Printed by gen.py. -/
import Derived.Test.YtikikdgfebbcmaaT16u
set_option linter.unusedVariables false
set_option linter.unusedSimpArgs false
set_option maxRecDepth 100000
namespace Go.Proofs
open Go.Hg

def stepF (x : IdxD) (l : List InvD) (nodes : Int) : Nat → ActD × Bool
  | 0 => repairF l nodes x.vols
  | 1 => encodeF l nodes x.vols
  | 2 => pairF l nodes x.vols
  | 3 => lockF x.vols
  | 4 => dropF x l
  | _ => (.zero, false)
/-- What is to be done. -/
def planNextF (x : IdxD) (l : List InvD) (nodes : Int) : ActD :=
  if (stepF x l nodes 0).2 = true then (stepF x l nodes 0).1 else if (stepF x l nodes 1).2 = true then (stepF x l nodes 1).1 else if (stepF x l nodes 2).2 = true then (stepF x l nodes 2).1 else
    if (stepF x l nodes 3).2 = true then (stepF x l nodes 3).1 else if (stepF x l nodes 4).2 = true then (stepF x l nodes 4).1 else .zero
theorem planNext_at {x : IdxD} {l : List InvD} {nodes : Int} {i : Nat} (hi : i < 5) (hn : ∀ j, j < i → (stepF x l nodes j).2 = false) (hs : (stepF x l nodes i).2 = true) : planNextF x l nodes = (stepF x l nodes i).1 := by
  unfold planNextF
  match i, hi with
  | 0, _ => rw [if_pos hs]
  | 1, _ => rw [if_neg (by simp [hn 0]), if_pos hs]
  | 2, _ => rw [if_neg (by simp [hn 0]), if_neg (by simp [hn 1]), if_pos hs]
  | 3, _ => rw [if_neg (by simp [hn 0]), if_neg (by simp [hn 1]), if_neg (by simp [hn 2]), if_pos hs]
  | 4, _ => rw [if_neg (by simp [hn 0]), if_neg (by simp [hn 1]), if_neg (by simp [hn 2]), if_neg (by simp [hn 3]), if_pos hs]
theorem planNext_no {x : IdxD} {l : List InvD} {nodes : Int} (hn : ∀ j, j < 5 → (stepF x l nodes j).2 = false) : planNextF x l nodes = .zero := by
  unfold planNextF
  rw [if_neg (by simp [hn 0]), if_neg (by simp [hn 1]), if_neg (by simp [hn 2]), if_neg (by simp [hn 3]), if_neg (by simp [hn 4])]
def actAt (x : IdxD) (l : List InvD) (nodes : Int) : Nat → List V
  | 0 => actZ
  | i + 1 => (stepF x l nodes i).1.enc
theorem actAt_len (x : IdxD) (l : List InvD) (nodes : Int) (i : Nat) : (actAt x l nodes i).length = 7 := by cases i <;> rfl
theorem actAt_ble (x : IdxD) (l : List InvD) (nodes : Int) (i : Nat) : Nat.ble (0 + 7) (actAt x l nodes i).length = true := by rw [actAt_len]; rfl
theorem vsplice_act (x : IdxD) (l : List InvD) (nodes : Int) (i : Nat) (a : ActD) : vsplice (actAt x l nodes i) 0 (V.cells (.agg a.enc)) = a.enc := by
  unfold vsplice
  rw [List.drop_of_length_le (by rw [actAt_len]; exact Nat.le_of_ble_eq_true rfl)]
  simp [V.cells]

theorem plan_Next_ac (x : IdxD) (hx : VolsOk x.vols) {l : List InvD} (hl : InvsOk l) (nodes : Int) : AC Try.prog 11 [.agg x.enc, rowOf InvD.enc l, i64 nodes] (.agg (planNextF x l nodes).enc) := by
  refine AC.intro Try.func11 rfl (Nat.le_of_ble_eq_true rfl) ?_
  refine ok_reg ?_
  first
    | refine s1w rfl (lop_box (t := 3) (v := .agg [_, _, _]) (f := true) (cs := [_, _, _]) rfl rfl rfl rfl (fun h => by cases h)) rfl ?_
    | refine s1w rfl (lop_box (t := 3) (v := .agg [_, _, _]) (f := false) (cs := [_, _, _]) rfl rfl rfl rfl (fun _ => rfl)) rfl ?_
  refine s1w rfl (lop_new (t := 6) (cs := [.int _ _, .int _ _, .int _ _, .int _ _, .z0, .int _ _, .int _ _]) Try.zeroValue34 rfl rfl rfl rfl) rfl ?_
  refine ops_nil ?_
  refine ok_scopeR (ι := {i : Nat // i ≤ 5 ∧ ∀ j, j < i → (stepF x l nodes j).2 = false}) 0 rfl (fun i => ⟨[(1, rowOf InvD.enc l), (2, i64 nodes), (3, .rf 3 0), (6, .rf 6 0), (7, .rf 7 0), (9, i64 (i.1 : Int))], [(3, some (true, x.enc)), (6, some (true, actZ)), (7, some (true, actAt x l nodes i.1))], 62⟩) (fun i => 5 - i.1) (⟨0, Nat.zero_le _, fun _ h => absurd h (Nat.not_lt_zero _)⟩) ?_ ?_
  · rintro ⟨i, hi, hn⟩
    dsimp only
    refine ok_seq ?_
    refine ok_reg ?_
    refine s1 rfl (lop_move (v := .int _ _) rfl) ?_
    refine ops_nil ?_
    refine ok_block ?_
    refine ok_reg ?_
    refine s1 rfl (lop_eql rfl rfl) ?_
    refine s1 rfl (lop_assign (v := .bool _) rfl) ?_
    refine ops_nil ?_
    first
      | refine ok_if _ rfl rfl (fun h_t12 => ?_) (fun h_t12 => ?_)
      | refine ok_cond rfl rfl (fun h_t12 => ?_) (fun h_t12 => ?_)
    · have hi0 : i = 0 := by omega
      subst hi0
      refine ok_region ?_
      first
        | refine s1 rfl (lop_load_rf_agg (ys := [_, _, _]) rfl rfl Try.isAgg26 Try.sizeOf26 (Nat.le_of_ble_eq_true rfl) rfl) ?_
        | refine s1 rfl (lop_load_fp_agg (ys := [_, _, _]) rfl Try.isAgg26 Try.sizeOf26 (Nat.le_of_ble_eq_true rfl) rfl) ?_
      first
        | refine s1 rfl (lop_move (v := .sl _ _) rfl) ?_
        | refine s1 rfl (lop_move (v := .os _ _ _ _) rfl) ?_
        | refine s1 rfl (lop_move (v := .z0) rfl) ?_
      refine s1 rfl (lop_move (v := .int _ _) rfl) ?_
      refine s1 rfl (lop_call rfl Try.call28 (FrzL.tf rfl) (.inl rfl) (plan_repair_ac next_ok x hx hl nodes)) ?_
      refine s1 rfl (lop_move (v := .tup _) rfl) ?_
      refine s1 rfl (lop_extract rfl rfl) ?_
      refine s1 rfl (lop_extract rfl rfl) ?_
      refine s0w rfl (lop_storeK (v := .agg (repairF l nodes x.vols).1.enc) (cs' := (repairF l nodes x.vols).1.enc) (f' := true) rfl rfl rfl Try.sizeOf34 rfl rfl (actAt_ble _ _ _ _) (vsplice_act _ _ _ _ _) rfl) ?_
      refine s1 rfl (lop_assign (v := .bool _) rfl) ?_
      refine ops_nil ?_
      refine ok_seq ?_
      refine ok_reg ?_
      refine s1 rfl (lop_move (v := .bool _) rfl) ?_
      refine s1 rfl (lop_not rfl) ?_
      refine ops_nil ?_
      first
        | refine ok_if _ rfl rfl (fun h_t58 => ?_) (fun h_t58 => ?_)
        | refine ok_cond rfl rfl (fun h_t58 => ?_) (fun h_t58 => ?_)
      · refine ok_reg ?_
        refine s1 rfl (lop_move (v := .int _ _) rfl) ?_
        refine s1 rfl (lop_bop rfl rfl rfl (bop_add (by omega) (by omega))) ?_
        refine s1 rfl (lop_assign (v := .int _ _) rfl) ?_
        refine ops_nil ?_
        refine ok_goto ?_
        exact ⟨rfl, ⟨0 + 1, by omega, lt_step (f := fun j => (stepF x l nodes j).2 = false) hn (show (repairF l nodes x.vols).2 = false from by simpa using h_t58)⟩, by simp only; omega, le_mk ⟨rfl, rfl, rfl, rfl, rfl, rfl, trivial⟩ ⟨.inr rfl, .inr rfl, .inr rfl, trivial⟩ rfl⟩
      · refine ok_skip ?_
        refine ok_reg ?_
        first
          | refine s1 rfl (lop_load_rf_agg (ys := [.int _ _, .int _ _, .int _ _, .int _ _, _, .int _ _, .int _ _]) rfl rfl Try.isAgg34 Try.sizeOf34 (Nat.le_of_ble_eq_true rfl) rfl) ?_
          | refine s1 rfl (lop_load_fp_agg (ys := [.int _ _, .int _ _, .int _ _, .int _ _, _, .int _ _, .int _ _]) rfl Try.isAgg34 Try.sizeOf34 (Nat.le_of_ble_eq_true rfl) rfl) ?_
        first
          | refine s0w rfl (lop_storeK (v := .agg [.int _ _, .int _ _, .int _ _, .int _ _, _, .int _ _, .int _ _]) (cs' := [.int _ _, .int _ _, .int _ _, .int _ _, _, .int _ _, .int _ _]) (f' := true) rfl rfl rfl Try.sizeOf34 rfl rfl rfl rfl rfl) ?_
          | refine s0w rfl (lop_storeK (v := .agg [.int _ _, .int _ _, .int _ _, .int _ _, _, .int _ _, .int _ _]) (cs' := [.int _ _, .int _ _, .int _ _, .int _ _, _, .int _ _, .int _ _]) (f' := false) rfl rfl rfl Try.sizeOf34 rfl rfl rfl rfl rfl) ?_
        refine ops_nil ?_
        refine ok_ret ?_
        rw [planNext_at (i := 0) (by decide) hn (show (repairF l nodes x.vols).2 = true from by simpa using h_t58)]
        exact ret_gen (R := [6]) ⟨_, _, rfl, ⟨rfl, 6, 0, _, _, rfl, rfl, .inl ⟨7, Try.isAgg34, Try.sizeOf34, Nat.le_of_ble_eq_true rfl, rfl⟩⟩, rfl⟩ (.agg (fzL_sound _ [6] _ rfl)) (fun t ht => by simp at ht; subst ht; exact Option.some_ne_none _)
    · refine ok_reg ?_
      refine s1 rfl (lop_eql rfl rfl) ?_
      refine s1 rfl (lop_assign (v := .bool _) rfl) ?_
      refine ops_nil ?_
      first
        | refine ok_if _ rfl rfl (fun h_t21 => ?_) (fun h_t21 => ?_)
        | refine ok_cond rfl rfl (fun h_t21 => ?_) (fun h_t21 => ?_)
      · have hi0 : i = 1 := by omega
        subst hi0
        refine ok_region ?_
        first
          | refine s1 rfl (lop_load_rf_agg (ys := [_, _, _]) rfl rfl Try.isAgg26 Try.sizeOf26 (Nat.le_of_ble_eq_true rfl) rfl) ?_
          | refine s1 rfl (lop_load_fp_agg (ys := [_, _, _]) rfl Try.isAgg26 Try.sizeOf26 (Nat.le_of_ble_eq_true rfl) rfl) ?_
        first
          | refine s1 rfl (lop_move (v := .sl _ _) rfl) ?_
          | refine s1 rfl (lop_move (v := .os _ _ _ _) rfl) ?_
          | refine s1 rfl (lop_move (v := .z0) rfl) ?_
        refine s1 rfl (lop_move (v := .int _ _) rfl) ?_
        refine s1 rfl (lop_call rfl Try.call29 (FrzL.tf rfl) (.inl rfl) (plan_encode_ac ring_ok x hx hl nodes)) ?_
        refine s1 rfl (lop_move (v := .tup _) rfl) ?_
        refine s1 rfl (lop_extract rfl rfl) ?_
        refine s1 rfl (lop_extract rfl rfl) ?_
        refine s0w rfl (lop_storeK (v := .agg (encodeF l nodes x.vols).1.enc) (cs' := (encodeF l nodes x.vols).1.enc) (f' := true) rfl rfl rfl Try.sizeOf34 rfl rfl (actAt_ble _ _ _ _) (vsplice_act _ _ _ _ _) rfl) ?_
        refine s1 rfl (lop_assign (v := .bool _) rfl) ?_
        refine ops_nil ?_
        refine ok_seq ?_
        refine ok_reg ?_
        refine s1 rfl (lop_move (v := .bool _) rfl) ?_
        refine s1 rfl (lop_not rfl) ?_
        refine ops_nil ?_
        first
          | refine ok_if _ rfl rfl (fun h_t58 => ?_) (fun h_t58 => ?_)
          | refine ok_cond rfl rfl (fun h_t58 => ?_) (fun h_t58 => ?_)
        · refine ok_reg ?_
          refine s1 rfl (lop_move (v := .int _ _) rfl) ?_
          refine s1 rfl (lop_bop rfl rfl rfl (bop_add (by omega) (by omega))) ?_
          refine s1 rfl (lop_assign (v := .int _ _) rfl) ?_
          refine ops_nil ?_
          refine ok_goto ?_
          exact ⟨rfl, ⟨1 + 1, by omega, lt_step (f := fun j => (stepF x l nodes j).2 = false) hn (show (encodeF l nodes x.vols).2 = false from by simpa using h_t58)⟩, by simp only; omega, le_mk ⟨rfl, rfl, rfl, rfl, rfl, rfl, trivial⟩ ⟨.inr rfl, .inr rfl, .inr rfl, trivial⟩ rfl⟩
        · refine ok_skip ?_
          refine ok_reg ?_
          first
            | refine s1 rfl (lop_load_rf_agg (ys := [.int _ _, .int _ _, .int _ _, .int _ _, _, .int _ _, .int _ _]) rfl rfl Try.isAgg34 Try.sizeOf34 (Nat.le_of_ble_eq_true rfl) rfl) ?_
            | refine s1 rfl (lop_load_fp_agg (ys := [.int _ _, .int _ _, .int _ _, .int _ _, _, .int _ _, .int _ _]) rfl Try.isAgg34 Try.sizeOf34 (Nat.le_of_ble_eq_true rfl) rfl) ?_
          first
            | refine s0w rfl (lop_storeK (v := .agg [.int _ _, .int _ _, .int _ _, .int _ _, _, .int _ _, .int _ _]) (cs' := [.int _ _, .int _ _, .int _ _, .int _ _, _, .int _ _, .int _ _]) (f' := true) rfl rfl rfl Try.sizeOf34 rfl rfl rfl rfl rfl) ?_
            | refine s0w rfl (lop_storeK (v := .agg [.int _ _, .int _ _, .int _ _, .int _ _, _, .int _ _, .int _ _]) (cs' := [.int _ _, .int _ _, .int _ _, .int _ _, _, .int _ _, .int _ _]) (f' := false) rfl rfl rfl Try.sizeOf34 rfl rfl rfl rfl rfl) ?_
          refine ops_nil ?_
          refine ok_ret ?_
          rw [planNext_at (i := 1) (by decide) hn (show (encodeF l nodes x.vols).2 = true from by simpa using h_t58)]
          exact ret_gen (R := [6]) ⟨_, _, rfl, ⟨rfl, 6, 0, _, _, rfl, rfl, .inl ⟨7, Try.isAgg34, Try.sizeOf34, Nat.le_of_ble_eq_true rfl, rfl⟩⟩, rfl⟩ (.agg (fzL_sound _ [6] _ rfl)) (fun t ht => by simp at ht; subst ht; exact Option.some_ne_none _)
      · refine ok_reg ?_
        refine s1 rfl (lop_eql rfl rfl) ?_
        refine s1 rfl (lop_assign (v := .bool _) rfl) ?_
        refine ops_nil ?_
        first
          | refine ok_if _ rfl rfl (fun h_t30 => ?_) (fun h_t30 => ?_)
          | refine ok_cond rfl rfl (fun h_t30 => ?_) (fun h_t30 => ?_)
        · have hi0 : i = 2 := by omega
          subst hi0
          refine ok_region ?_
          first
            | refine s1 rfl (lop_load_rf_agg (ys := [_, _, _]) rfl rfl Try.isAgg26 Try.sizeOf26 (Nat.le_of_ble_eq_true rfl) rfl) ?_
            | refine s1 rfl (lop_load_fp_agg (ys := [_, _, _]) rfl Try.isAgg26 Try.sizeOf26 (Nat.le_of_ble_eq_true rfl) rfl) ?_
          first
            | refine s1 rfl (lop_move (v := .sl _ _) rfl) ?_
            | refine s1 rfl (lop_move (v := .os _ _ _ _) rfl) ?_
            | refine s1 rfl (lop_move (v := .z0) rfl) ?_
          refine s1 rfl (lop_move (v := .int _ _) rfl) ?_
          refine s1 rfl (lop_call rfl Try.call30 (FrzL.tf rfl) (.inl rfl) (plan_pair_ac ring_ok x hx hl nodes)) ?_
          refine s1 rfl (lop_move (v := .tup _) rfl) ?_
          refine s1 rfl (lop_extract rfl rfl) ?_
          refine s1 rfl (lop_extract rfl rfl) ?_
          refine s0w rfl (lop_storeK (v := .agg (pairF l nodes x.vols).1.enc) (cs' := (pairF l nodes x.vols).1.enc) (f' := true) rfl rfl rfl Try.sizeOf34 rfl rfl (actAt_ble _ _ _ _) (vsplice_act _ _ _ _ _) rfl) ?_
          refine s1 rfl (lop_assign (v := .bool _) rfl) ?_
          refine ops_nil ?_
          refine ok_seq ?_
          refine ok_reg ?_
          refine s1 rfl (lop_move (v := .bool _) rfl) ?_
          refine s1 rfl (lop_not rfl) ?_
          refine ops_nil ?_
          first
            | refine ok_if _ rfl rfl (fun h_t58 => ?_) (fun h_t58 => ?_)
            | refine ok_cond rfl rfl (fun h_t58 => ?_) (fun h_t58 => ?_)
          · refine ok_reg ?_
            refine s1 rfl (lop_move (v := .int _ _) rfl) ?_
            refine s1 rfl (lop_bop rfl rfl rfl (bop_add (by omega) (by omega))) ?_
            refine s1 rfl (lop_assign (v := .int _ _) rfl) ?_
            refine ops_nil ?_
            refine ok_goto ?_
            exact ⟨rfl, ⟨2 + 1, by omega, lt_step (f := fun j => (stepF x l nodes j).2 = false) hn (show (pairF l nodes x.vols).2 = false from by simpa using h_t58)⟩, by simp only; omega, le_mk ⟨rfl, rfl, rfl, rfl, rfl, rfl, trivial⟩ ⟨.inr rfl, .inr rfl, .inr rfl, trivial⟩ rfl⟩
          · refine ok_skip ?_
            refine ok_reg ?_
            first
              | refine s1 rfl (lop_load_rf_agg (ys := [.int _ _, .int _ _, .int _ _, .int _ _, _, .int _ _, .int _ _]) rfl rfl Try.isAgg34 Try.sizeOf34 (Nat.le_of_ble_eq_true rfl) rfl) ?_
              | refine s1 rfl (lop_load_fp_agg (ys := [.int _ _, .int _ _, .int _ _, .int _ _, _, .int _ _, .int _ _]) rfl Try.isAgg34 Try.sizeOf34 (Nat.le_of_ble_eq_true rfl) rfl) ?_
            first
              | refine s0w rfl (lop_storeK (v := .agg [.int _ _, .int _ _, .int _ _, .int _ _, _, .int _ _, .int _ _]) (cs' := [.int _ _, .int _ _, .int _ _, .int _ _, _, .int _ _, .int _ _]) (f' := true) rfl rfl rfl Try.sizeOf34 rfl rfl rfl rfl rfl) ?_
              | refine s0w rfl (lop_storeK (v := .agg [.int _ _, .int _ _, .int _ _, .int _ _, _, .int _ _, .int _ _]) (cs' := [.int _ _, .int _ _, .int _ _, .int _ _, _, .int _ _, .int _ _]) (f' := false) rfl rfl rfl Try.sizeOf34 rfl rfl rfl rfl rfl) ?_
            refine ops_nil ?_
            refine ok_ret ?_
            rw [planNext_at (i := 2) (by decide) hn (show (pairF l nodes x.vols).2 = true from by simpa using h_t58)]
            exact ret_gen (R := [6]) ⟨_, _, rfl, ⟨rfl, 6, 0, _, _, rfl, rfl, .inl ⟨7, Try.isAgg34, Try.sizeOf34, Nat.le_of_ble_eq_true rfl, rfl⟩⟩, rfl⟩ (.agg (fzL_sound _ [6] _ rfl)) (fun t ht => by simp at ht; subst ht; exact Option.some_ne_none _)
        · refine ok_reg ?_
          refine s1 rfl (lop_eql rfl rfl) ?_
          refine s1 rfl (lop_assign (v := .bool _) rfl) ?_
          refine ops_nil ?_
          first
            | refine ok_if _ rfl rfl (fun h_t39 => ?_) (fun h_t39 => ?_)
            | refine ok_cond rfl rfl (fun h_t39 => ?_) (fun h_t39 => ?_)
          · have hi0 : i = 3 := by omega
            subst hi0
            refine ok_region ?_
            first
              | refine s1 rfl (lop_load_rf_agg (ys := [_, _, _]) rfl rfl Try.isAgg26 Try.sizeOf26 (Nat.le_of_ble_eq_true rfl) rfl) ?_
              | refine s1 rfl (lop_load_fp_agg (ys := [_, _, _]) rfl Try.isAgg26 Try.sizeOf26 (Nat.le_of_ble_eq_true rfl) rfl) ?_
            first
              | refine s1 rfl (lop_move (v := .sl _ _) rfl) ?_
              | refine s1 rfl (lop_move (v := .os _ _ _ _) rfl) ?_
              | refine s1 rfl (lop_move (v := .z0) rfl) ?_
            refine s1 rfl (lop_move (v := .int _ _) rfl) ?_
            refine s1 rfl (lop_call rfl Try.call31 (FrzL.tf rfl) (.inl rfl) (plan_lock_ac x hx l nodes)) ?_
            refine s1 rfl (lop_move (v := .tup _) rfl) ?_
            refine s1 rfl (lop_extract rfl rfl) ?_
            refine s1 rfl (lop_extract rfl rfl) ?_
            refine s0w rfl (lop_storeK (v := .agg (lockF x.vols).1.enc) (cs' := (lockF x.vols).1.enc) (f' := true) rfl rfl rfl Try.sizeOf34 rfl rfl (actAt_ble _ _ _ _) (vsplice_act _ _ _ _ _) rfl) ?_
            refine s1 rfl (lop_assign (v := .bool _) rfl) ?_
            refine ops_nil ?_
            refine ok_seq ?_
            refine ok_reg ?_
            refine s1 rfl (lop_move (v := .bool _) rfl) ?_
            refine s1 rfl (lop_not rfl) ?_
            refine ops_nil ?_
            first
              | refine ok_if _ rfl rfl (fun h_t58 => ?_) (fun h_t58 => ?_)
              | refine ok_cond rfl rfl (fun h_t58 => ?_) (fun h_t58 => ?_)
            · refine ok_reg ?_
              refine s1 rfl (lop_move (v := .int _ _) rfl) ?_
              refine s1 rfl (lop_bop rfl rfl rfl (bop_add (by omega) (by omega))) ?_
              refine s1 rfl (lop_assign (v := .int _ _) rfl) ?_
              refine ops_nil ?_
              refine ok_goto ?_
              exact ⟨rfl, ⟨3 + 1, by omega, lt_step (f := fun j => (stepF x l nodes j).2 = false) hn (show (lockF x.vols).2 = false from by simpa using h_t58)⟩, by simp only; omega, le_mk ⟨rfl, rfl, rfl, rfl, rfl, rfl, trivial⟩ ⟨.inr rfl, .inr rfl, .inr rfl, trivial⟩ rfl⟩
            · refine ok_skip ?_
              refine ok_reg ?_
              first
                | refine s1 rfl (lop_load_rf_agg (ys := [.int _ _, .int _ _, .int _ _, .int _ _, _, .int _ _, .int _ _]) rfl rfl Try.isAgg34 Try.sizeOf34 (Nat.le_of_ble_eq_true rfl) rfl) ?_
                | refine s1 rfl (lop_load_fp_agg (ys := [.int _ _, .int _ _, .int _ _, .int _ _, _, .int _ _, .int _ _]) rfl Try.isAgg34 Try.sizeOf34 (Nat.le_of_ble_eq_true rfl) rfl) ?_
              first
                | refine s0w rfl (lop_storeK (v := .agg [.int _ _, .int _ _, .int _ _, .int _ _, _, .int _ _, .int _ _]) (cs' := [.int _ _, .int _ _, .int _ _, .int _ _, _, .int _ _, .int _ _]) (f' := true) rfl rfl rfl Try.sizeOf34 rfl rfl rfl rfl rfl) ?_
                | refine s0w rfl (lop_storeK (v := .agg [.int _ _, .int _ _, .int _ _, .int _ _, _, .int _ _, .int _ _]) (cs' := [.int _ _, .int _ _, .int _ _, .int _ _, _, .int _ _, .int _ _]) (f' := false) rfl rfl rfl Try.sizeOf34 rfl rfl rfl rfl rfl) ?_
              refine ops_nil ?_
              refine ok_ret ?_
              rw [planNext_at (i := 3) (by decide) hn (show (lockF x.vols).2 = true from by simpa using h_t58)]
              exact ret_gen (R := [6]) ⟨_, _, rfl, ⟨rfl, 6, 0, _, _, rfl, rfl, .inl ⟨7, Try.isAgg34, Try.sizeOf34, Nat.le_of_ble_eq_true rfl, rfl⟩⟩, rfl⟩ (.agg (fzL_sound _ [6] _ rfl)) (fun t ht => by simp at ht; subst ht; exact Option.some_ne_none _)
          · refine ok_reg ?_
            refine s1 rfl (lop_eql rfl rfl) ?_
            refine s1 rfl (lop_assign (v := .bool _) rfl) ?_
            refine ops_nil ?_
            first
              | refine ok_if _ rfl rfl (fun h_t48 => ?_) (fun h_t48 => ?_)
              | refine ok_cond rfl rfl (fun h_t48 => ?_) (fun h_t48 => ?_)
            · have hi0 : i = 4 := by omega
              subst hi0
              refine ok_region ?_
              first
                | refine s1 rfl (lop_load_rf_agg (ys := [_, _, _]) rfl rfl Try.isAgg26 Try.sizeOf26 (Nat.le_of_ble_eq_true rfl) rfl) ?_
                | refine s1 rfl (lop_load_fp_agg (ys := [_, _, _]) rfl Try.isAgg26 Try.sizeOf26 (Nat.le_of_ble_eq_true rfl) rfl) ?_
              first
                | refine s1 rfl (lop_move (v := .sl _ _) rfl) ?_
                | refine s1 rfl (lop_move (v := .os _ _ _ _) rfl) ?_
                | refine s1 rfl (lop_move (v := .z0) rfl) ?_
              refine s1 rfl (lop_move (v := .int _ _) rfl) ?_
              refine s1 rfl (lop_call rfl Try.call32 (FrzL.tf rfl) (.inl rfl) (plan_drop_ac x hx hl nodes)) ?_
              refine s1 rfl (lop_move (v := .tup _) rfl) ?_
              refine s1 rfl (lop_extract rfl rfl) ?_
              refine s1 rfl (lop_extract rfl rfl) ?_
              refine s0w rfl (lop_storeK (v := .agg (dropF x l).1.enc) (cs' := (dropF x l).1.enc) (f' := true) rfl rfl rfl Try.sizeOf34 rfl rfl (actAt_ble _ _ _ _) (vsplice_act _ _ _ _ _) rfl) ?_
              refine s1 rfl (lop_assign (v := .bool _) rfl) ?_
              refine ops_nil ?_
              refine ok_seq ?_
              refine ok_reg ?_
              refine s1 rfl (lop_move (v := .bool _) rfl) ?_
              refine s1 rfl (lop_not rfl) ?_
              refine ops_nil ?_
              first
                | refine ok_if _ rfl rfl (fun h_t58 => ?_) (fun h_t58 => ?_)
                | refine ok_cond rfl rfl (fun h_t58 => ?_) (fun h_t58 => ?_)
              · refine ok_reg ?_
                refine s1 rfl (lop_move (v := .int _ _) rfl) ?_
                refine s1 rfl (lop_bop rfl rfl rfl (bop_add (by omega) (by omega))) ?_
                refine s1 rfl (lop_assign (v := .int _ _) rfl) ?_
                refine ops_nil ?_
                refine ok_goto ?_
                exact ⟨rfl, ⟨4 + 1, by omega, lt_step (f := fun j => (stepF x l nodes j).2 = false) hn (show (dropF x l).2 = false from by simpa using h_t58)⟩, by simp only; omega, le_mk ⟨rfl, rfl, rfl, rfl, rfl, rfl, trivial⟩ ⟨.inr rfl, .inr rfl, .inr rfl, trivial⟩ rfl⟩
              · refine ok_skip ?_
                refine ok_reg ?_
                first
                  | refine s1 rfl (lop_load_rf_agg (ys := [.int _ _, .int _ _, .int _ _, .int _ _, _, .int _ _, .int _ _]) rfl rfl Try.isAgg34 Try.sizeOf34 (Nat.le_of_ble_eq_true rfl) rfl) ?_
                  | refine s1 rfl (lop_load_fp_agg (ys := [.int _ _, .int _ _, .int _ _, .int _ _, _, .int _ _, .int _ _]) rfl Try.isAgg34 Try.sizeOf34 (Nat.le_of_ble_eq_true rfl) rfl) ?_
                first
                  | refine s0w rfl (lop_storeK (v := .agg [.int _ _, .int _ _, .int _ _, .int _ _, _, .int _ _, .int _ _]) (cs' := [.int _ _, .int _ _, .int _ _, .int _ _, _, .int _ _, .int _ _]) (f' := true) rfl rfl rfl Try.sizeOf34 rfl rfl rfl rfl rfl) ?_
                  | refine s0w rfl (lop_storeK (v := .agg [.int _ _, .int _ _, .int _ _, .int _ _, _, .int _ _, .int _ _]) (cs' := [.int _ _, .int _ _, .int _ _, .int _ _, _, .int _ _, .int _ _]) (f' := false) rfl rfl rfl Try.sizeOf34 rfl rfl rfl rfl rfl) ?_
                refine ops_nil ?_
                refine ok_ret ?_
                rw [planNext_at (i := 4) (by decide) hn (show (dropF x l).2 = true from by simpa using h_t58)]
                exact ret_gen (R := [6]) ⟨_, _, rfl, ⟨rfl, 6, 0, _, _, rfl, rfl, .inl ⟨7, Try.isAgg34, Try.sizeOf34, Nat.le_of_ble_eq_true rfl, rfl⟩⟩, rfl⟩ (.agg (fzL_sound _ [6] _ rfl)) (fun t ht => by simp at ht; subst ht; exact Option.some_ne_none _)
            · refine ok_reg ?_
              refine s1 rfl (lop_buildK (cs := [.int _ _, .int _ _, .int _ _, .int _ _, .z0, .int _ _, .int _ _]) Try.underlying34 Try.zeroValue34 rfl rfl places34 rfl) ?_
              first
                | refine s0w rfl (lop_storeK (v := .agg [.int _ _, .int _ _, .int _ _, .int _ _, _, .int _ _, .int _ _]) (cs' := [.int _ _, .int _ _, .int _ _, .int _ _, _, .int _ _, .int _ _]) (f' := true) rfl rfl rfl Try.sizeOf34 rfl rfl rfl rfl rfl) ?_
                | refine s0w rfl (lop_storeK (v := .agg [.int _ _, .int _ _, .int _ _, .int _ _, _, .int _ _, .int _ _]) (cs' := [.int _ _, .int _ _, .int _ _, .int _ _, _, .int _ _, .int _ _]) (f' := false) rfl rfl rfl Try.sizeOf34 rfl rfl rfl rfl rfl) ?_
              refine ops_nil ?_
              refine ok_ret ?_
              rw [planNext_no (fun j hj => hn j (by omega))]
              exact ret_gen (R := [6]) ⟨_, _, rfl, ⟨rfl, 6, 0, _, _, rfl, rfl, .inl ⟨7, Try.isAgg34, Try.sizeOf34, Nat.le_of_ble_eq_true rfl, rfl⟩⟩, rfl⟩ (.agg (fzL_sound _ [6] _ rfl)) (fun t ht => by simp at ht; subst ht; exact Option.some_ne_none _)
  · intro hL
    refine ok_reg ?_
    refine s1w rfl (lop_new (t := 7) (cs := [.int _ _, .int _ _, .int _ _, .int _ _, .z0, .int _ _, .int _ _]) Try.zeroValue34 rfl rfl rfl rfl) rfl ?_
    refine ops_nil ?_
    refine ok_reg ?_
    refine s1 rfl (lop_assign (v := .bool _) rfl) ?_
    refine s1 rfl (lop_assign (v := .int _ _) rfl) ?_
    refine ops_nil ?_
    exact hL _ (le_mk ⟨rfl, rfl, rfl, rfl, rfl, rfl, trivial⟩ ⟨.inr rfl, .inr rfl, .inr rfl, trivial⟩ rfl)

end Go.Proofs
