/- Chapter 16: walks. Printed by gen.py. -/
import Derived.Test.YtikikdgfebbcmaaT16b
set_option linter.unusedVariables false
set_option linter.unusedSimpArgs false
set_option maxRecDepth 100000
namespace Go.Proofs
open Go.Hg

theorem plan_lock_ac (x : IdxD) (hx : VolsOk x.vols) (l : List InvD) (nodes : Int) : AC Try.prog 31 [.agg x.enc, rowOf InvD.enc l, i64 nodes] (.tup [.agg (lockF x.vols).1.enc, .bool (lockF x.vols).2]) := by
  have hl := hx.1
  refine AC.intro Try.func31 rfl (Nat.le_of_ble_eq_true rfl) ?_
  refine ok_reg ?_
  first
    | refine s1w rfl (lop_box (t := 3) (v := .agg [_, _, _]) (f := true) (cs := [_, _, _]) rfl rfl rfl rfl (fun h => by cases h)) rfl ?_
    | refine s1w rfl (lop_box (t := 3) (v := .agg [_, _, _]) (f := false) (cs := [_, _, _]) rfl rfl rfl rfl (fun _ => rfl)) rfl ?_
  refine s1w rfl (lop_new (t := 6) (cs := [.int _ _, .int _ _, .int _ _, .int _ _, .z0, .int _ _, .int _ _]) Try.zeroValue34 rfl rfl rfl rfl) rfl ?_
  refine s1 rfl (lop_assign (v := .bool _) rfl) ?_
  refine ops_nil ?_
  refine ok_seq ?_
  refine ok_reg ?_
  first
    | refine s1 rfl (lop_fieldAddr_rf (fo := 0) rfl Try.underlying26 rfl rfl Try.sizeOf22 (by decide)) ?_
    | refine s1 rfl (lop_fieldAddr_fp (fo := 0) rfl Try.underlying26 rfl rfl Try.sizeOf22 (by decide) rfl) ?_
  first
    | refine s1 rfl (lop_load_rf rfl rfl Try.isAgg22 rfl) ?_
    | refine s1 rfl (lop_load_fp rfl Try.isAgg22 rfl) ?_
  refine s1 rfl (lop_len rfl Try.underlying22 ⟨⟨_, rfl⟩, rfl⟩) ?_
  refine s1 rfl (lop_move (v := .int _ _) rfl) ?_
  refine ops_nil ?_
  refine ok_block ?_
  refine ok_loop (ι := {i : Nat // i ≤ x.vols.length ∧ ∀ j, (h : j < x.vols.length) → j < i → lockP x.vols[j] = false}) (fun i => ⟨[(6, .rf 6 0), (11, rowOf VolD.enc x.vols), (12, i64 x.vols.length), (13, i64 i.1)], [(6, some (true, actZ))], 30⟩) (fun i => x.vols.length - i.1) (⟨0, Nat.zero_le _, fun _ _ h => absurd h (Nat.not_lt_zero _)⟩) ?_ ?_
  · exact le_mk ⟨rfl, rfl, rfl, rfl, trivial⟩ ⟨.inr rfl, trivial⟩ rfl
  rintro ⟨i, hi, hn⟩
  dsimp only
  refine ok_reg ?_
  refine s1 rfl (lop_lss rfl rfl) ?_
  refine ops_nil ?_
  refine ok_seq ?_
  first
    | refine ok_if _ rfl rfl (fun h_t14 => ?_) (fun h_t14 => ?_)
    | refine ok_cond rfl rfl (fun h_t14 => ?_) (fun h_t14 => ?_)
  · have h_t14 : i < x.vols.length := Int.ofNat_lt.1 h_t14
    refine ok_skip ?_
    refine ok_seq ?_
    refine ok_block ?_
    refine ok_reg ?_
    first
      | refine s1 rfl (lop_indexAddr_os rfl rfl Try.underlying22 Try.sizeOf39 rfl h_t14) ?_
      | refine s1 rfl (lop_indexAddr_sl rfl rfl Try.underlying22 Try.sizeOf39 rfl h_t14 (flat_at VolD.len h_t14) (flat_ne VolD.len (by decide) h_t14)) ?_
    first
      | refine s1 rfl (lop_load_rf_agg rfl rfl Try.isAgg39 Try.sizeOf39 (by rw [List.length_append, VolD.len]; omega) (by rw [List.take_append_of_le_length (by rw [VolD.len]; omega), List.take_of_length_le (by rw [VolD.len]; omega)])) ?_
      | refine s1 rfl (lop_load_fp_agg rfl Try.isAgg39 Try.sizeOf39 (by rw [List.length_append, VolD.len]; omega) (by rw [List.take_append_of_le_length (by rw [VolD.len]; omega), List.take_of_length_le (by rw [VolD.len]; omega)])) ?_
    refine s1w rfl (lop_new (t := 9) (cs := [.int _ _, .int _ _, .int _ _, .int _ _, .int _ _, .z0, .z0, .int _ _, .int _ _]) Try.zeroValue39 rfl rfl rfl rfl) rfl ?_
    first
      | refine s0w rfl (lop_storeK (v := .agg [.int _ _, .int _ _, .int _ _, .int _ _, .int _ _, _, _, .int _ _, .int _ _]) (cs' := [.int _ _, .int _ _, .int _ _, .int _ _, .int _ _, _, _, .int _ _, .int _ _]) (f' := true) rfl rfl rfl Try.sizeOf39 rfl rfl rfl rfl rfl) ?_
      | refine s0w rfl (lop_storeK (v := .agg [.int _ _, .int _ _, .int _ _, .int _ _, .int _ _, _, _, .int _ _, .int _ _]) (cs' := [.int _ _, .int _ _, .int _ _, .int _ _, .int _ _, _, _, .int _ _, .int _ _]) (f' := false) rfl rfl rfl Try.sizeOf39 rfl rfl rfl rfl rfl) ?_
    refine ops_nil ?_
    refine ok_reg ?_
    first
      | refine s1 rfl (lop_fieldAddr_rf (fo := 4) rfl Try.underlying39 rfl rfl Try.sizeOf3 (by decide)) ?_
      | refine s1 rfl (lop_fieldAddr_fp (fo := 4) rfl Try.underlying39 rfl rfl Try.sizeOf3 (by decide) rfl) ?_
    first
      | refine s1 rfl (lop_load_rf rfl rfl Try.isAgg3 rfl) ?_
      | refine s1 rfl (lop_load_fp rfl Try.isAgg3 rfl) ?_
    refine s1 rfl (lop_eql rfl rfl) ?_
    refine s1 rfl (lop_move (v := .bool _) rfl) ?_
    first
      | refine gsplitP 3 rfl rfl (fun g4_3 p4_3 => ?_) (fun g4_3 p4_3 => ?_)
      | refine gsplitB 3 rfl rfl (fun g4_3 p4_3 => ?_) (fun g4_3 p4_3 => ?_)
    · first
        | refine y1 rfl rfl g4_3 rfl (lop_fieldAddr_rf (fo := 3) rfl Try.underlying39 rfl rfl Try.sizeOf3 (by decide)) ?_
        | refine y1 rfl rfl g4_3 rfl (lop_fieldAddr_fp (fo := 3) rfl Try.underlying39 rfl rfl Try.sizeOf3 (by decide) rfl) ?_
      first
        | refine y1 rfl rfl g4_3 rfl (lop_load_rf rfl rfl Try.isAgg3 rfl) ?_
        | refine y1 rfl rfl g4_3 rfl (lop_load_fp rfl Try.isAgg3 rfl) ?_
      refine y1 rfl rfl g4_3 rfl (lop_gtr rfl rfl) ?_
      first
        | refine s1 rfl (lop_pick_t (v := .bool _) rfl g4_3 rfl) ?_
        | refine s1 rfl (lop_pick_t (v := .bool _) rfl rfl rfl) ?_
        | refine s1 rfl (lop_pick_f (v := .bool _) rfl rfl rfl) ?_
        | refine s1 rfl (lop_pick rfl rfl rfl) ?_
      refine ops_nil ?_
      first
        | refine ok_if _ rfl rfl (fun h_t24 => ?_) (fun h_t24 => ?_)
        | refine ok_cond rfl rfl (fun h_t24 => ?_) (fun h_t24 => ?_)
      · refine ok_reg ?_
        first
          | refine s1 rfl (lop_fieldAddr_rf (fo := 0) rfl Try.underlying39 rfl rfl Try.sizeOf3 (by decide)) ?_
          | refine s1 rfl (lop_fieldAddr_fp (fo := 0) rfl Try.underlying39 rfl rfl Try.sizeOf3 (by decide) rfl) ?_
        first
          | refine s1 rfl (lop_load_rf rfl rfl Try.isAgg3 rfl) ?_
          | refine s1 rfl (lop_load_fp rfl Try.isAgg3 rfl) ?_
        refine s1 rfl (lop_buildK (cs := [.int _ _, .int _ _, .int _ _, .int _ _, .z0, .int _ _, .int _ _]) Try.underlying34 Try.zeroValue34 rfl rfl places34 rfl) ?_
        first
          | refine s0w rfl (lop_storeK (v := .agg [.int _ _, .int _ _, .int _ _, .int _ _, _, .int _ _, .int _ _]) (cs' := [.int _ _, .int _ _, .int _ _, .int _ _, _, .int _ _, .int _ _]) (f' := true) rfl rfl rfl Try.sizeOf34 rfl rfl rfl rfl rfl) ?_
          | refine s0w rfl (lop_storeK (v := .agg [.int _ _, .int _ _, .int _ _, .int _ _, _, .int _ _, .int _ _]) (cs' := [.int _ _, .int _ _, .int _ _, .int _ _, _, .int _ _, .int _ _]) (f' := false) rfl rfl rfl Try.sizeOf34 rfl rfl rfl rfl rfl) ?_
        refine s1 rfl (lop_assign (v := .bool _) rfl) ?_
        refine ops_nil ?_
        refine ok_ret ?_
        have e1 : lockF x.vols = (⟨4, x.vols[i].id, 0, 0, [], ⟨0, 0⟩⟩, true) := by unfold lockF; rw [find_at (p := lockP) h_t14 (by unfold lockP; simp [*]) hn]
        exact ret_gen (R := [6]) ⟨_, _, rfl, ⟨rfl, 6, 0, _, _, rfl, rfl, .inl ⟨7, Try.isAgg34, Try.sizeOf34, Nat.le_of_ble_eq_true rfl, rfl⟩⟩, _, _, rfl, ⟨rfl, rfl⟩, rfl⟩ (by rw [e1]; exact .tup (.cons (.agg (fzL_sound _ [6] _ rfl)) (.cons (.tf rfl) .nil))) (fun t ht => by simp at ht; subst ht; exact Option.some_ne_none _)
      · refine ok_skip ?_
        refine ok_region ?_
        refine s1 rfl (lop_bop rfl rfl rfl (bop_add (by omega) (by omega))) ?_
        refine s1 rfl (lop_move (v := .int _ _) rfl) ?_
        refine ops_nil ?_
        exact ⟨⟨i + 1, by omega, none_step (p := lockP) hn h_t14 (by unfold lockP; simp [*])⟩, by simp only; omega, le_mk ⟨rfl, rfl, rfl, rfl, trivial⟩ ⟨.inr rfl, trivial⟩ rfl⟩
    · refine n1 rfl rfl g4_3 ?_
      refine n1 rfl rfl g4_3 ?_
      refine n1 rfl rfl g4_3 ?_
      first
        | refine s1 rfl (lop_pick_f (v := .bool _) rfl g4_3 rfl) ?_
        | refine s1 rfl (lop_pick_t (v := .bool _) rfl rfl rfl) ?_
        | refine s1 rfl (lop_pick_f (v := .bool _) rfl rfl rfl) ?_
        | refine s1 rfl (lop_pick rfl rfl rfl) ?_
      refine ops_nil ?_
      refine ok_false rfl rfl ?_
      refine ok_skip ?_
      refine ok_region ?_
      refine s1 rfl (lop_bop rfl rfl rfl (bop_add (by omega) (by omega))) ?_
      refine s1 rfl (lop_move (v := .int _ _) rfl) ?_
      refine ops_nil ?_
      exact ⟨⟨i + 1, by omega, none_step (p := lockP) hn h_t14 (by unfold lockP; simp [*])⟩, by simp only; omega, le_mk ⟨rfl, rfl, rfl, rfl, trivial⟩ ⟨.inr rfl, trivial⟩ rfl⟩
  · refine ok_exit ?_
    refine ok_reg ?_
    refine s1 rfl (lop_buildK (cs := [.int _ _, .int _ _, .int _ _, .int _ _, .z0, .int _ _, .int _ _]) Try.underlying34 Try.zeroValue34 rfl rfl places34 rfl) ?_
    first
      | refine s0w rfl (lop_storeK (v := .agg [.int _ _, .int _ _, .int _ _, .int _ _, _, .int _ _, .int _ _]) (cs' := [.int _ _, .int _ _, .int _ _, .int _ _, _, .int _ _, .int _ _]) (f' := true) rfl rfl rfl Try.sizeOf34 rfl rfl rfl rfl rfl) ?_
      | refine s0w rfl (lop_storeK (v := .agg [.int _ _, .int _ _, .int _ _, .int _ _, _, .int _ _, .int _ _]) (cs' := [.int _ _, .int _ _, .int _ _, .int _ _, _, .int _ _, .int _ _]) (f' := false) rfl rfl rfl Try.sizeOf34 rfl rfl rfl rfl rfl) ?_
    refine s1 rfl (lop_assign (v := .bool _) rfl) ?_
    refine ops_nil ?_
    refine ok_ret ?_
    have e1 : lockF x.vols = (.zero, false) := by unfold lockF; rw [find_no (p := lockP) (fun j hj => hn j hj (by omega))]
    exact ret_gen (R := [6]) ⟨_, _, rfl, ⟨rfl, 6, 0, _, _, rfl, rfl, .inl ⟨7, Try.isAgg34, Try.sizeOf34, Nat.le_of_ble_eq_true rfl, rfl⟩⟩, _, _, rfl, ⟨rfl, rfl⟩, rfl⟩ (by rw [e1]; exact .tup (.cons (.agg (fzL_sound _ [6] _ rfl)) (.cons (.tf rfl) .nil))) (fun t ht => by simp at ht; subst ht; exact Option.some_ne_none _)

theorem plan_drop_ac (x : IdxD) (hx : VolsOk x.vols) {l : List InvD} (hl : InvsOk l) (nodes : Int) : AC Try.prog 32 [.agg x.enc, rowOf InvD.enc l, i64 nodes] (.tup [.agg (dropF x l).1.enc, .bool (dropF x l).2]) := by
  have hll := hl.1
  refine AC.intro Try.func32 rfl (Nat.le_of_ble_eq_true rfl) ?_
  refine ok_reg ?_
  first
    | refine s1w rfl (lop_box (t := 3) (v := .agg [_, _, _]) (f := true) (cs := [_, _, _]) rfl rfl rfl rfl (fun h => by cases h)) rfl ?_
    | refine s1w rfl (lop_box (t := 3) (v := .agg [_, _, _]) (f := false) (cs := [_, _, _]) rfl rfl rfl rfl (fun _ => rfl)) rfl ?_
  refine s1w rfl (lop_new (t := 6) (cs := [.int _ _, .int _ _, .int _ _, .int _ _, .z0, .int _ _, .int _ _]) Try.zeroValue34 rfl rfl rfl rfl) rfl ?_
  refine s1 rfl (lop_assign (v := .bool _) rfl) ?_
  refine ops_nil ?_
  refine ok_seq ?_
  refine ok_reg ?_
  first
    | refine s1 rfl (lop_move (v := .sl _ _) rfl) ?_
    | refine s1 rfl (lop_move (v := .os _ _ _ _) rfl) ?_
    | refine s1 rfl (lop_move (v := .z0) rfl) ?_
  refine s1 rfl (lop_len rfl Try.underlying27 ⟨⟨_, rfl⟩, rfl⟩) ?_
  refine s1 rfl (lop_move (v := .int _ _) rfl) ?_
  refine ops_nil ?_
  refine ok_block ?_
  refine ok_loop (ι := {i : Nat // i ≤ l.length ∧ ∀ j, (h : j < l.length) → j < i → dropP x l[j] = false}) (fun i => ⟨[(3, .rf 3 0), (6, .rf 6 0), (12, rowOf InvD.enc l), (13, i64 l.length), (14, i64 i.1)], [(3, some (true, x.enc)), (6, some (true, actZ))], 40⟩) (fun i => l.length - i.1) (⟨0, Nat.zero_le _, fun _ _ h => absurd h (Nat.not_lt_zero _)⟩) ?_ ?_
  · exact le_mk ⟨rfl, rfl, rfl, rfl, rfl, trivial⟩ ⟨.inr rfl, .inr rfl, trivial⟩ rfl
  rintro ⟨i, hi, hn⟩
  dsimp only
  refine ok_reg ?_
  refine s1 rfl (lop_lss rfl rfl) ?_
  refine ops_nil ?_
  refine ok_seq ?_
  first
    | refine ok_if _ rfl rfl (fun h_t15 => ?_) (fun h_t15 => ?_)
    | refine ok_cond rfl rfl (fun h_t15 => ?_) (fun h_t15 => ?_)
  · have h_t15 : i < l.length := Int.ofNat_lt.1 h_t15
    have hkl := hl.2 l[i] (List.getElem_mem h_t15)
    refine ok_skip ?_
    refine ok_seq ?_
    refine ok_block ?_
    refine ok_reg ?_
    first
      | refine s1 rfl (lop_indexAddr_os rfl rfl Try.underlying27 Try.sizeOf44 rfl h_t15) ?_
      | refine s1 rfl (lop_indexAddr_sl rfl rfl Try.underlying27 Try.sizeOf44 rfl h_t15 (flat_at InvD.len h_t15) (flat_ne InvD.len (by decide) h_t15)) ?_
    first
      | refine s1 rfl (lop_load_rf_agg rfl rfl Try.isAgg44 Try.sizeOf44 (by rw [List.length_append, InvD.len]; omega) (by rw [List.take_append_of_le_length (by rw [InvD.len]; omega), List.take_of_length_le (by rw [InvD.len]; omega)])) ?_
      | refine s1 rfl (lop_load_fp_agg rfl Try.isAgg44 Try.sizeOf44 (by rw [List.length_append, InvD.len]; omega) (by rw [List.take_append_of_le_length (by rw [InvD.len]; omega), List.take_of_length_le (by rw [InvD.len]; omega)])) ?_
    refine s1w rfl (lop_new (t := 9) (cs := [.int _ _, .int _ _, .bool _, .z0]) Try.zeroValue44 rfl rfl rfl rfl) rfl ?_
    first
      | refine s0w rfl (lop_storeK (v := .agg [.int _ _, .int _ _, .bool _, _]) (cs' := [.int _ _, .int _ _, .bool _, _]) (f' := true) rfl rfl rfl Try.sizeOf44 rfl rfl rfl rfl rfl) ?_
      | refine s0w rfl (lop_storeK (v := .agg [.int _ _, .int _ _, .bool _, _]) (cs' := [.int _ _, .int _ _, .bool _, _]) (f' := false) rfl rfl rfl Try.sizeOf44 rfl rfl rfl rfl rfl) ?_
    refine ops_nil ?_
    refine ok_reg ?_
    first
      | refine s1 rfl (lop_fieldAddr_rf (fo := 3) rfl Try.underlying44 rfl rfl Try.sizeOf42 (by decide)) ?_
      | refine s1 rfl (lop_fieldAddr_fp (fo := 3) rfl Try.underlying44 rfl rfl Try.sizeOf42 (by decide) rfl) ?_
    first
      | refine s1 rfl (lop_load_rf rfl rfl Try.isAgg42 rfl) ?_
      | refine s1 rfl (lop_load_fp rfl Try.isAgg42 rfl) ?_
    refine s1 rfl (lop_len rfl Try.underlying42 ⟨⟨_, rfl⟩, rfl⟩) ?_
    refine s1 rfl (lop_move (v := .int _ _) rfl) ?_
    refine ops_nil ?_
    refine ok_block ?_
    refine ok_loop (ι := {k : Nat // k ≤ l[i].keys.length ∧ ∀ j, (h : j < l[i].keys.length) → j < k → (fun k => l[i].live && oldAt x k) l[i].keys[j] = false}) (fun k => ⟨[(3, .rf 3 0), (6, .rf 6 0), (9, .rf 9 0), (12, rowOf InvD.enc l), (13, i64 l.length), (14, i64 i), (19, rowOf KeyD.enc l[i].keys), (20, i64 l[i].keys.length), (21, i64 k.1)], [(3, some (true, x.enc)), (6, some (true, actZ)), (9, some (true, l[i].enc))], 40⟩) (fun k => l[i].keys.length - k.1) (⟨0, Nat.zero_le _, fun _ _ h => absurd h (Nat.not_lt_zero _)⟩) ?_ ?_
    · exact le_mk ⟨rfl, rfl, rfl, rfl, rfl, rfl, rfl, rfl, rfl, trivial⟩ ⟨.inr rfl, .inr rfl, .inr rfl, trivial⟩ rfl
    rintro ⟨k, hki, hk⟩
    dsimp only
    refine ok_reg ?_
    refine s1 rfl (lop_lss rfl rfl) ?_
    refine ops_nil ?_
    refine ok_seq ?_
    first
      | refine ok_if _ rfl rfl (fun h_t22 => ?_) (fun h_t22 => ?_)
      | refine ok_cond rfl rfl (fun h_t22 => ?_) (fun h_t22 => ?_)
    · have h_t22 : k < l[i].keys.length := Int.ofNat_lt.1 h_t22
      refine ok_skip ?_
      refine ok_seq ?_
      refine ok_block ?_
      refine ok_reg ?_
      first
        | refine s1 rfl (lop_indexAddr_os rfl rfl Try.underlying42 Try.sizeOf32 rfl h_t22) ?_
        | refine s1 rfl (lop_indexAddr_sl rfl rfl Try.underlying42 Try.sizeOf32 rfl h_t22 (flat_at KeyD.len h_t22) (flat_ne KeyD.len (by decide) h_t22)) ?_
      first
        | refine s1 rfl (lop_load_rf_agg rfl rfl Try.isAgg32 Try.sizeOf32 (by rw [List.length_append, KeyD.len]; omega) (by rw [List.take_append_of_le_length (by rw [KeyD.len]; omega), List.take_of_length_le (by rw [KeyD.len]; omega)])) ?_
        | refine s1 rfl (lop_load_fp_agg rfl Try.isAgg32 Try.sizeOf32 (by rw [List.length_append, KeyD.len]; omega) (by rw [List.take_append_of_le_length (by rw [KeyD.len]; omega), List.take_of_length_le (by rw [KeyD.len]; omega)])) ?_
      refine s1w rfl (lop_new (t := 11) (cs := [.int _ _, .int _ _]) Try.zeroValue32 rfl rfl rfl rfl) rfl ?_
      first
        | refine s0w rfl (lop_storeK (v := .agg [.int _ _, .int _ _]) (cs' := [.int _ _, .int _ _]) (f' := true) rfl rfl rfl Try.sizeOf32 rfl rfl rfl rfl rfl) ?_
        | refine s0w rfl (lop_storeK (v := .agg [.int _ _, .int _ _]) (cs' := [.int _ _, .int _ _]) (f' := false) rfl rfl rfl Try.sizeOf32 rfl rfl rfl rfl rfl) ?_
      refine ops_nil ?_
      refine ok_reg ?_
      first
        | refine s1 rfl (lop_fieldAddr_rf (fo := 2) rfl Try.underlying44 rfl rfl Try.sizeOf4 (by decide)) ?_
        | refine s1 rfl (lop_fieldAddr_fp (fo := 2) rfl Try.underlying44 rfl rfl Try.sizeOf4 (by decide) rfl) ?_
      first
        | refine s1 rfl (lop_load_rf rfl rfl Try.isAgg4 rfl) ?_
        | refine s1 rfl (lop_load_fp rfl Try.isAgg4 rfl) ?_
      refine s1 rfl (lop_move (v := .bool _) rfl) ?_
      first
        | refine gsplitP 2 rfl rfl (fun g7_2 p7_2 => ?_) (fun g7_2 p7_2 => ?_)
        | refine gsplitB 2 rfl rfl (fun g7_2 p7_2 => ?_) (fun g7_2 p7_2 => ?_)
      · first
          | refine y1 rfl rfl g7_2 rfl (lop_load_rf_agg (ys := [_, _, _]) rfl rfl Try.isAgg26 Try.sizeOf26 (Nat.le_of_ble_eq_true rfl) rfl) ?_
          | refine y1 rfl rfl g7_2 rfl (lop_load_fp_agg (ys := [_, _, _]) rfl Try.isAgg26 Try.sizeOf26 (Nat.le_of_ble_eq_true rfl) rfl) ?_
        first
          | refine y1 rfl rfl g7_2 rfl (lop_load_rf_agg (ys := [.int _ _, .int _ _]) rfl rfl Try.isAgg32 Try.sizeOf32 (Nat.le_of_ble_eq_true rfl) rfl) ?_
          | refine y1 rfl rfl g7_2 rfl (lop_load_fp_agg (ys := [.int _ _, .int _ _]) rfl Try.isAgg32 Try.sizeOf32 (Nat.le_of_ble_eq_true rfl) rfl) ?_
        refine y1 rfl rfl g7_2 rfl (lop_call rfl Try.call13 (FrzL.tf rfl) (.inl rfl) (plan_Old_ac x hx l[i].keys[k])) ?_
        first
          | refine s1 rfl (lop_pick_t (v := .bool _) rfl g7_2 rfl) ?_
          | refine s1 rfl (lop_pick_t (v := .bool _) rfl rfl rfl) ?_
          | refine s1 rfl (lop_pick_f (v := .bool _) rfl rfl rfl) ?_
          | refine s1 rfl (lop_pick rfl rfl rfl) ?_
        refine ops_nil ?_
        first
          | refine ok_if _ rfl rfl (fun h_t31 => ?_) (fun h_t31 => ?_)
          | refine ok_cond rfl rfl (fun h_t31 => ?_) (fun h_t31 => ?_)
        · refine ok_reg ?_
          first
            | refine s1 rfl (lop_load_rf_agg (ys := [.int _ _, .int _ _]) rfl rfl Try.isAgg32 Try.sizeOf32 (Nat.le_of_ble_eq_true rfl) rfl) ?_
            | refine s1 rfl (lop_load_fp_agg (ys := [.int _ _, .int _ _]) rfl Try.isAgg32 Try.sizeOf32 (Nat.le_of_ble_eq_true rfl) rfl) ?_
          first
            | refine s1 rfl (lop_fieldAddr_rf (fo := 0) rfl Try.underlying44 rfl rfl Try.sizeOf41 (by decide)) ?_
            | refine s1 rfl (lop_fieldAddr_fp (fo := 0) rfl Try.underlying44 rfl rfl Try.sizeOf41 (by decide) rfl) ?_
          first
            | refine s1 rfl (lop_load_rf_agg (ys := [.int _ _, .int _ _]) rfl rfl Try.isAgg41 Try.sizeOf41 (Nat.le_of_ble_eq_true rfl) rfl) ?_
            | refine s1 rfl (lop_load_fp_agg (ys := [.int _ _, .int _ _]) rfl Try.isAgg41 Try.sizeOf41 (Nat.le_of_ble_eq_true rfl) rfl) ?_
          first
            | refine s1w rfl (lop_buildSlice (t := 35) (cs := [.int _ _, .int _ _]) (f := true) Try.underlying30 Try.sizeOf41 (by decide) Try.zeroValue41 rfl rfl rfl (by decide) rfl (.inr (by decide)) rfl (fun h => by cases h)) rfl ?_
            | refine s1w rfl (lop_buildSlice (t := 35) (cs := [.int _ _, .int _ _]) (f := false) Try.underlying30 Try.sizeOf41 (by decide) Try.zeroValue41 rfl rfl rfl (by decide) rfl (.inr (by decide)) rfl (fun _ => rfl)) rfl ?_
          first
            | refine s1 rfl (lop_buildK (cs := [.int _ _, .int _ _, .int _ _, .int _ _, .sl _ _, .int _ _, .int _ _]) Try.underlying34 Try.zeroValue34 rfl rfl places34 rfl) ?_
            | refine s1 rfl (lop_buildK (cs := [.int _ _, .int _ _, .int _ _, .int _ _, .os _ _ _ _, .int _ _, .int _ _]) Try.underlying34 Try.zeroValue34 rfl rfl places34 rfl) ?_
            | refine s1 rfl (lop_buildK (cs := [.int _ _, .int _ _, .int _ _, .int _ _, .z0, .int _ _, .int _ _]) Try.underlying34 Try.zeroValue34 rfl rfl places34 rfl) ?_
          first
            | refine s0w rfl (lop_storeK (v := .agg [.int _ _, .int _ _, .int _ _, .int _ _, _, .int _ _, .int _ _]) (cs' := [.int _ _, .int _ _, .int _ _, .int _ _, _, .int _ _, .int _ _]) (f' := true) rfl rfl rfl Try.sizeOf34 rfl rfl rfl rfl rfl) ?_
            | refine s0w rfl (lop_storeK (v := .agg [.int _ _, .int _ _, .int _ _, .int _ _, _, .int _ _, .int _ _]) (cs' := [.int _ _, .int _ _, .int _ _, .int _ _, _, .int _ _, .int _ _]) (f' := false) rfl rfl rfl Try.sizeOf34 rfl rfl rfl rfl rfl) ?_
          refine s1 rfl (lop_assign (v := .bool _) rfl) ?_
          refine ops_nil ?_
          refine ok_ret ?_
          have e0 : l[i].keys.find? (fun k => l[i].live && oldAt x k) = some l[i].keys[k] := find_at (p := (fun k => l[i].live && oldAt x k)) h_t22 (by simp [*]) hk
          have e1 : dropF x l = (⟨5, 0, 0, 0, [l[i].place], l[i].keys[k]⟩, true) := by unfold dropF; rw [find_at (p := dropP x) h_t15 (by unfold dropP; rw [e0]; rfl) hn]; simp only; rw [e0]; rfl
          exact ret_gen (R := [6, 35]) ⟨_, _, rfl, ⟨rfl, 6, 0, _, _, rfl, rfl, .inl ⟨7, Try.isAgg34, Try.sizeOf34, Nat.le_of_ble_eq_true rfl, rfl⟩⟩, _, _, rfl, ⟨rfl, rfl⟩, rfl⟩ (by rw [e1]; exact .tup (.cons (.agg (fzL_sound _ [6, 35] _ rfl)) (.cons (.tf rfl) .nil))) (fun t ht => by simp at ht; rcases ht with rfl | rfl <;> exact Option.some_ne_none _)
        · refine ok_skip ?_
          refine ok_region ?_
          refine s1 rfl (lop_bop rfl rfl rfl (bop_add (by omega) (by omega))) ?_
          refine s1 rfl (lop_move (v := .int _ _) rfl) ?_
          refine ops_nil ?_
          exact ⟨⟨k + 1, by omega, none_step (p := (fun k => l[i].live && oldAt x k)) hk h_t22 (by simp [*])⟩, by simp only; omega, le_mk ⟨rfl, rfl, rfl, rfl, rfl, rfl, rfl, rfl, rfl, trivial⟩ ⟨.inr rfl, .inr rfl, .inr rfl, trivial⟩ rfl⟩
      · refine n1 rfl rfl g7_2 ?_
        refine n1 rfl rfl g7_2 ?_
        refine n1 rfl rfl g7_2 ?_
        first
          | refine s1 rfl (lop_pick_f (v := .bool _) rfl g7_2 rfl) ?_
          | refine s1 rfl (lop_pick_t (v := .bool _) rfl rfl rfl) ?_
          | refine s1 rfl (lop_pick_f (v := .bool _) rfl rfl rfl) ?_
          | refine s1 rfl (lop_pick rfl rfl rfl) ?_
        refine ops_nil ?_
        refine ok_false rfl rfl ?_
        refine ok_skip ?_
        refine ok_region ?_
        refine s1 rfl (lop_bop rfl rfl rfl (bop_add (by omega) (by omega))) ?_
        refine s1 rfl (lop_move (v := .int _ _) rfl) ?_
        refine ops_nil ?_
        exact ⟨⟨k + 1, by omega, none_step (p := (fun k => l[i].live && oldAt x k)) hk h_t22 (by simp [*])⟩, by simp only; omega, le_mk ⟨rfl, rfl, rfl, rfl, rfl, rfl, rfl, rfl, rfl, trivial⟩ ⟨.inr rfl, .inr rfl, .inr rfl, trivial⟩ rfl⟩
    · refine ok_exit ?_
      refine ok_region ?_
      refine s1 rfl (lop_bop rfl rfl rfl (bop_add (by omega) (by omega))) ?_
      refine s1 rfl (lop_move (v := .int _ _) rfl) ?_
      refine ops_nil ?_
      exact ⟨⟨i + 1, by omega, none_step (p := dropP x) hn h_t15 (by unfold dropP; rw [find_no (p := (fun k => l[i].live && oldAt x k)) (fun j hj => hk j hj (by omega))]; rfl)⟩, by simp only; omega, le_mk ⟨rfl, rfl, rfl, rfl, rfl, trivial⟩ ⟨.inr rfl, .inr rfl, trivial⟩ rfl⟩
  · refine ok_exit ?_
    refine ok_reg ?_
    refine s1 rfl (lop_buildK (cs := [.int _ _, .int _ _, .int _ _, .int _ _, .z0, .int _ _, .int _ _]) Try.underlying34 Try.zeroValue34 rfl rfl places34 rfl) ?_
    first
      | refine s0w rfl (lop_storeK (v := .agg [.int _ _, .int _ _, .int _ _, .int _ _, _, .int _ _, .int _ _]) (cs' := [.int _ _, .int _ _, .int _ _, .int _ _, _, .int _ _, .int _ _]) (f' := true) rfl rfl rfl Try.sizeOf34 rfl rfl rfl rfl rfl) ?_
      | refine s0w rfl (lop_storeK (v := .agg [.int _ _, .int _ _, .int _ _, .int _ _, _, .int _ _, .int _ _]) (cs' := [.int _ _, .int _ _, .int _ _, .int _ _, _, .int _ _, .int _ _]) (f' := false) rfl rfl rfl Try.sizeOf34 rfl rfl rfl rfl rfl) ?_
    refine s1 rfl (lop_assign (v := .bool _) rfl) ?_
    refine ops_nil ?_
    refine ok_ret ?_
    have e1 : dropF x l = (.zero, false) := by unfold dropF; rw [find_no (p := dropP x) (fun j hj => hn j hj (by omega))]
    exact ret_gen (R := [6]) ⟨_, _, rfl, ⟨rfl, 6, 0, _, _, rfl, rfl, .inl ⟨7, Try.isAgg34, Try.sizeOf34, Nat.le_of_ble_eq_true rfl, rfl⟩⟩, _, _, rfl, ⟨rfl, rfl⟩, rfl⟩ (by rw [e1]; exact .tup (.cons (.agg (fzL_sound _ [6] _ rfl)) (.cons (.tf rfl) .nil))) (fun t ht => by simp at ht; subst ht; exact Option.some_ne_none _)

end Go.Proofs
