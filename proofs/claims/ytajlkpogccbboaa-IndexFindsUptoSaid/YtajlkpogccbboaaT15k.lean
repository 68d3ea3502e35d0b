/- Chapter 15: walks. Printed by gen.py. -/
import Derived.Test.YtajlkpogccbboaaT15j
set_option linter.unusedVariables false
set_option linter.unusedSimpArgs false
set_option maxRecDepth 100000
namespace Go.Proofs
open Go.Hg

theorem headD_at {α : Type} {l : List α} {d : α} (h : 0 < l.length) : l.headD d = l[0] := by
  cases l with
  | nil => cases h
  | cons a l => rfl

theorem move_ac {x : IdxD} (hx : Fit 549755000000 x) {c : CmdD} (hm : May c) : AC Try.prog 49 [.agg x.enc, .agg c.enc] (.tup [.agg (moveF x c).1.enc, .agg (moveF x c).2.enc]) := by
  have hxv := hx.vols
  refine AC.intro Try.func49 rfl (Nat.le_of_ble_eq_true rfl) ?_
  refine ok_reg ?_
  first
    | refine s1w rfl (lop_box (t := 2) (v := .agg [_, _, _]) (f := true) (cs := [_, _, _]) rfl rfl rfl rfl (fun h => by cases h)) rfl ?_
    | refine s1w rfl (lop_box (t := 2) (v := .agg [_, _, _]) (f := false) (cs := [_, _, _]) rfl rfl rfl rfl (fun _ => rfl)) rfl ?_
  first
    | refine s1w rfl (lop_box (t := 3) (v := .agg [.int _ _, .int _ _, .int _ _, .str _, .int _ _, .int _ _, .int _ _, .int _ _, .int _ _, .int _ _, .int _ _, _]) (f := true) (cs := [.int _ _, .int _ _, .int _ _, .str _, .int _ _, .int _ _, .int _ _, .int _ _, .int _ _, .int _ _, .int _ _, _]) rfl rfl rfl rfl (fun h => by cases h)) rfl ?_
    | refine s1w rfl (lop_box (t := 3) (v := .agg [.int _ _, .int _ _, .int _ _, .str _, .int _ _, .int _ _, .int _ _, .int _ _, .int _ _, .int _ _, .int _ _, _]) (f := false) (cs := [.int _ _, .int _ _, .int _ _, .str _, .int _ _, .int _ _, .int _ _, .int _ _, .int _ _, .int _ _, .int _ _, _]) rfl rfl rfl rfl (fun _ => rfl)) rfl ?_
  refine s1w rfl (lop_new (t := 4) (cs := [.z0, .z0, .z0]) Try.zeroValue26 rfl rfl rfl rfl) rfl ?_
  refine s1w rfl (lop_new (t := 5) (cs := [.int _ _, .int _ _, .int _ _, .int _ _, .int _ _, .bool _]) Try.zeroValue35 rfl rfl rfl rfl) rfl ?_
  refine ops_nil ?_
  refine ok_reg ?_
  first
    | refine s1 rfl (lop_load_rf_agg (ys := [_, _, _]) rfl rfl Try.isAgg26 Try.sizeOf26 (Nat.le_of_ble_eq_true rfl) rfl) ?_
    | refine s1 rfl (lop_load_fp_agg (ys := [_, _, _]) rfl Try.isAgg26 Try.sizeOf26 (Nat.le_of_ble_eq_true rfl) rfl) ?_
  first
    | refine s1 rfl (lop_fieldAddr_rf (fo := 4) rfl Try.underlying30 rfl rfl Try.sizeOf3 (by decide)) ?_
    | refine s1 rfl (lop_fieldAddr_fp (fo := 4) rfl Try.underlying30 rfl rfl Try.sizeOf3 (by decide) rfl) ?_
  first
    | refine s1 rfl (lop_load_rf rfl rfl Try.isAgg3 rfl) ?_
    | refine s1 rfl (lop_load_fp rfl Try.isAgg3 rfl) ?_
  refine s1 rfl (lop_call rfl Try.call30 (FrzL.tf rfl) (.inl rfl) (index_vol_ac x (by omega) c.vol)) ?_
  refine s1 rfl (lop_move (v := .tup _) rfl) ?_
  refine s1 rfl (lop_extract rfl rfl) ?_
  refine s1 rfl (lop_extract rfl rfl) ?_
  refine s1w rfl (lop_new (t := 6) (cs := [.int _ _, .int _ _, .int _ _, .int _ _, .int _ _, .z0, .z0, .int _ _, .int _ _]) Try.zeroValue50 rfl rfl rfl rfl) rfl ?_
  first
    | refine s0w rfl (lop_storeK (v := .agg [.int _ _, .int _ _, .int _ _, .int _ _, .int _ _, _, _, .int _ _, .int _ _]) (cs' := [.int _ _, .int _ _, .int _ _, .int _ _, .int _ _, _, _, .int _ _, .int _ _]) (f' := true) rfl rfl rfl Try.sizeOf50 rfl rfl rfl rfl rfl) ?_
    | refine s0w rfl (lop_storeK (v := .agg [.int _ _, .int _ _, .int _ _, .int _ _, .int _ _, _, _, .int _ _, .int _ _]) (cs' := [.int _ _, .int _ _, .int _ _, .int _ _, .int _ _, _, _, .int _ _, .int _ _]) (f' := false) rfl rfl rfl Try.sizeOf50 rfl rfl rfl rfl rfl) ?_
  refine s1 rfl (lop_assign (v := .int _ _) rfl) ?_
  refine ops_nil ?_
  refine ok_seq ?_
  refine ok_block ?_
  refine ok_reg ?_
  refine s1 rfl (lop_move (v := .int _ _) rfl) ?_
  refine s1 rfl (lop_lss rfl rfl) ?_
  refine s1 rfl (lop_assign (v := .bool _) rfl) ?_
  refine ops_nil ?_
  first
    | refine ok_if _ rfl rfl (fun h_t15 => ?_) (fun h_t15 => ?_)
    | refine ok_cond rfl rfl (fun h_t15 => ?_) (fun h_t15 => ?_)
  · refine ok_drw Try.mixed ?_
    first
      | refine d1 rfl rfl (lop_load_rf_agg (ys := [_, _, _]) rfl rfl Try.isAgg26 Try.sizeOf26 (Nat.le_of_ble_eq_true rfl) rfl) ?_
      | refine d1 rfl rfl (lop_load_fp_agg (ys := [_, _, _]) rfl Try.isAgg26 Try.sizeOf26 (Nat.le_of_ble_eq_true rfl) rfl) ?_
    refine d1 rfl rfl (lop_call rfl Try.call23 (FrzL.tf rfl) (.inl rfl) (no_ac 7)) ?_
    first
      | refine d0w rfl rfl (lop_storeK (v := .agg [_, _, _]) (cs' := [_, _, _]) (f' := true) rfl rfl rfl Try.sizeOf26 rfl rfl rfl rfl rfl) ?_
      | refine d0w rfl rfl (lop_storeK (v := .agg [_, _, _]) (cs' := [_, _, _]) (f' := false) rfl rfl rfl Try.sizeOf26 rfl rfl rfl rfl rfl) ?_
    first
      | refine d0w rfl rfl (lop_storeK (v := .agg [.int _ _, .int _ _, .int _ _, .int _ _, .int _ _, .bool _]) (cs' := [.int _ _, .int _ _, .int _ _, .int _ _, .int _ _, .bool _]) (f' := true) rfl rfl rfl Try.sizeOf35 rfl rfl rfl rfl rfl) ?_
      | refine d0w rfl rfl (lop_storeK (v := .agg [.int _ _, .int _ _, .int _ _, .int _ _, .int _ _, .bool _]) (cs' := [.int _ _, .int _ _, .int _ _, .int _ _, .int _ _, .bool _]) (f' := false) rfl rfl rfl Try.sizeOf35 rfl rfl rfl rfl rfl) ?_
    refine dr_nil (by kernel_rfl) ?_
    refine ok_ret ?_
    rw [show moveF x c = (x, noR 7) by unfold moveF; rw [if_pos h_t15]]
    exact ret_gen (R := [4, 5]) ⟨_, _, rfl, ⟨rfl, 4, 0, _, _, rfl, rfl, .inl ⟨3, Try.isAgg26, Try.sizeOf26, Nat.le_of_ble_eq_true rfl, rfl⟩⟩, _, _, rfl, ⟨rfl, 5, 0, _, _, rfl, rfl, .inl ⟨6, Try.isAgg35, Try.sizeOf35, Nat.le_of_ble_eq_true rfl, rfl⟩⟩, rfl⟩ (.tup (.cons (.agg (FrzL.tf rfl)) (.cons (.agg (FrzL.tf rfl)) .nil))) (fun t ht => by simp at ht; rcases ht with rfl | rfl <;> exact Option.some_ne_none _)
  · have hvm := volF_mem h_t15
    have hvp := hx.places _ hvm.1
    refine ok_reg ?_
    first
      | refine s1 rfl (lop_fieldAddr_rf (fo := 4) rfl Try.underlying50 rfl rfl Try.sizeOf3 (by decide)) ?_
      | refine s1 rfl (lop_fieldAddr_fp (fo := 4) rfl Try.underlying50 rfl rfl Try.sizeOf3 (by decide) rfl) ?_
    first
      | refine s1 rfl (lop_load_rf rfl rfl Try.isAgg3 rfl) ?_
      | refine s1 rfl (lop_load_fp rfl Try.isAgg3 rfl) ?_
    refine s1 rfl (lop_lss rfl rfl) ?_
    refine s1 rfl (lop_assign (v := .bool _) rfl) ?_
    refine ops_nil ?_
    first
      | refine ok_if _ rfl rfl (fun h_t20 => ?_) (fun h_t20 => ?_)
      | refine ok_cond rfl rfl (fun h_t20 => ?_) (fun h_t20 => ?_)
    · refine ok_drw Try.mixed ?_
      first
        | refine d1 rfl rfl (lop_load_rf_agg (ys := [_, _, _]) rfl rfl Try.isAgg26 Try.sizeOf26 (Nat.le_of_ble_eq_true rfl) rfl) ?_
        | refine d1 rfl rfl (lop_load_fp_agg (ys := [_, _, _]) rfl Try.isAgg26 Try.sizeOf26 (Nat.le_of_ble_eq_true rfl) rfl) ?_
      refine d1 rfl rfl (lop_call rfl Try.call23 (FrzL.tf rfl) (.inl rfl) (no_ac 9)) ?_
      first
        | refine d0w rfl rfl (lop_storeK (v := .agg [_, _, _]) (cs' := [_, _, _]) (f' := true) rfl rfl rfl Try.sizeOf26 rfl rfl rfl rfl rfl) ?_
        | refine d0w rfl rfl (lop_storeK (v := .agg [_, _, _]) (cs' := [_, _, _]) (f' := false) rfl rfl rfl Try.sizeOf26 rfl rfl rfl rfl rfl) ?_
      first
        | refine d0w rfl rfl (lop_storeK (v := .agg [.int _ _, .int _ _, .int _ _, .int _ _, .int _ _, .bool _]) (cs' := [.int _ _, .int _ _, .int _ _, .int _ _, .int _ _, .bool _]) (f' := true) rfl rfl rfl Try.sizeOf35 rfl rfl rfl rfl rfl) ?_
        | refine d0w rfl rfl (lop_storeK (v := .agg [.int _ _, .int _ _, .int _ _, .int _ _, .int _ _, .bool _]) (cs' := [.int _ _, .int _ _, .int _ _, .int _ _, .int _ _, .bool _]) (f' := false) rfl rfl rfl Try.sizeOf35 rfl rfl rfl rfl rfl) ?_
      refine dr_nil (by kernel_rfl) ?_
      refine ok_ret ?_
      rw [show moveF x c = (x, noR 9) by unfold moveF; rw [if_neg h_t15, if_pos h_t20]]
      exact ret_gen (R := [4, 5]) ⟨_, _, rfl, ⟨rfl, 4, 0, _, _, rfl, rfl, .inl ⟨3, Try.isAgg26, Try.sizeOf26, Nat.le_of_ble_eq_true rfl, rfl⟩⟩, _, _, rfl, ⟨rfl, 5, 0, _, _, rfl, rfl, .inl ⟨6, Try.isAgg35, Try.sizeOf35, Nat.le_of_ble_eq_true rfl, rfl⟩⟩, rfl⟩ (.tup (.cons (.agg (FrzL.tf rfl)) (.cons (.agg (FrzL.tf rfl)) .nil))) (fun t ht => by simp at ht; rcases ht with rfl | rfl <;> exact Option.some_ne_none _)
    · refine ok_drw Try.mixed ?_
      first
        | refine d1 rfl rfl (lop_fieldAddr_rf (fo := 10) rfl Try.underlying30 rfl rfl Try.sizeOf3 (by decide)) ?_
        | refine d1 rfl rfl (lop_fieldAddr_fp (fo := 10) rfl Try.underlying30 rfl rfl Try.sizeOf3 (by decide) rfl) ?_
      first
        | refine d1 rfl rfl (lop_load_rf rfl rfl Try.isAgg3 rfl) ?_
        | refine d1 rfl rfl (lop_load_fp rfl Try.isAgg3 rfl) ?_
      first
        | refine d1 rfl rfl (lop_fieldAddr_rf (fo := 6) rfl Try.underlying50 rfl rfl Try.sizeOf28 (by decide)) ?_
        | refine d1 rfl rfl (lop_fieldAddr_fp (fo := 6) rfl Try.underlying50 rfl rfl Try.sizeOf28 (by decide) rfl) ?_
      first
        | refine d1 rfl rfl (lop_load_rf rfl rfl Try.isAgg28 rfl) ?_
        | refine d1 rfl rfl (lop_load_fp rfl Try.isAgg28 rfl) ?_
      refine d1 rfl rfl (lop_len rfl Try.underlying28 ⟨⟨_, rfl⟩, rfl⟩) ?_
      refine d1 rfl rfl (lop_geq rfl rfl) ?_
      refine d1 rfl rfl (lop_move (v := .bool _) rfl) ?_
      first
        | refine dsplitP 6 rfl rfl (fun g6_6 p6_6 => ?_) (fun g6_6 p6_6 => ?_)
        | refine dsplitB 6 rfl rfl (fun g6_6 p6_6 => ?_) (fun g6_6 p6_6 => ?_)
      · refine dn1 rfl rfl g6_6 rfl ?_
        refine dn1 rfl rfl g6_6 rfl ?_
        refine dn1 rfl rfl g6_6 rfl ?_
        refine dn1 rfl rfl g6_6 rfl ?_
        first
          | refine d1 rfl rfl (lop_pick_t (v := .bool _) rfl g6_6 rfl) ?_
          | refine d1 rfl rfl (lop_pick_t (v := .bool _) rfl rfl rfl) ?_
          | refine d1 rfl rfl (lop_pick_f (v := .bool _) rfl rfl rfl) ?_
          | refine d1 rfl rfl (lop_pick rfl rfl rfl) ?_
        refine d1 rfl rfl (lop_move (v := .bool _) rfl) ?_
        refine dn1 rfl rfl rfl rfl ?_
        refine dn1 rfl rfl rfl rfl ?_
        refine dn1 rfl rfl rfl rfl ?_
        refine dn1 rfl rfl rfl rfl ?_
        refine dn1 rfl rfl rfl rfl ?_
        refine dn1 rfl rfl rfl rfl ?_
        refine dn1 rfl rfl rfl rfl ?_
        refine dn1 rfl rfl rfl rfl ?_
        first
          | refine d1 rfl rfl (lop_pick_t (v := .bool _) rfl g6_6 rfl) ?_
          | refine d1 rfl rfl (lop_pick_t (v := .bool _) rfl rfl rfl) ?_
          | refine d1 rfl rfl (lop_pick_t (v := .bool _) rfl rfl rfl) ?_
          | refine d1 rfl rfl (lop_pick_f (v := .bool _) rfl rfl rfl) ?_
          | refine d1 rfl rfl (lop_pick rfl rfl rfl) ?_
        refine d1 rfl rfl (lop_move (v := .bool _) rfl) ?_
        refine dn1 rfl rfl rfl rfl ?_
        refine dn1 rfl rfl rfl rfl ?_
        refine dn1 rfl rfl rfl rfl ?_
        refine dn1 rfl rfl rfl rfl ?_
        refine dn1 rfl rfl rfl rfl ?_
        refine dn1 rfl rfl rfl rfl ?_
        refine dn1 rfl rfl rfl rfl ?_
        first
          | refine d1 rfl rfl (lop_pick_t (v := .bool _) rfl g6_6 rfl) ?_
          | refine d1 rfl rfl (lop_pick_t (v := .bool _) rfl rfl rfl) ?_
          | refine d1 rfl rfl (lop_pick_t (v := .bool _) rfl rfl rfl) ?_
          | refine d1 rfl rfl (lop_pick_t (v := .bool _) rfl rfl rfl) ?_
          | refine d1 rfl rfl (lop_pick_f (v := .bool _) rfl rfl rfl) ?_
          | refine d1 rfl rfl (lop_pick rfl rfl rfl) ?_
        refine d1 rfl rfl (lop_assign (v := .bool _) rfl) ?_
        refine dr_nil (by kernel_rfl) ?_
        refine ok_true rfl rfl ?_
        refine ok_drw Try.mixed ?_
        first
          | refine d1 rfl rfl (lop_load_rf_agg (ys := [_, _, _]) rfl rfl Try.isAgg26 Try.sizeOf26 (Nat.le_of_ble_eq_true rfl) rfl) ?_
          | refine d1 rfl rfl (lop_load_fp_agg (ys := [_, _, _]) rfl Try.isAgg26 Try.sizeOf26 (Nat.le_of_ble_eq_true rfl) rfl) ?_
        refine d1 rfl rfl (lop_call rfl Try.call23 (FrzL.tf rfl) (.inl rfl) (no_ac 1)) ?_
        first
          | refine d0w rfl rfl (lop_storeK (v := .agg [_, _, _]) (cs' := [_, _, _]) (f' := true) rfl rfl rfl Try.sizeOf26 rfl rfl rfl rfl rfl) ?_
          | refine d0w rfl rfl (lop_storeK (v := .agg [_, _, _]) (cs' := [_, _, _]) (f' := false) rfl rfl rfl Try.sizeOf26 rfl rfl rfl rfl rfl) ?_
        first
          | refine d0w rfl rfl (lop_storeK (v := .agg [.int _ _, .int _ _, .int _ _, .int _ _, .int _ _, .bool _]) (cs' := [.int _ _, .int _ _, .int _ _, .int _ _, .int _ _, .bool _]) (f' := true) rfl rfl rfl Try.sizeOf35 rfl rfl rfl rfl rfl) ?_
          | refine d0w rfl rfl (lop_storeK (v := .agg [.int _ _, .int _ _, .int _ _, .int _ _, .int _ _, .bool _]) (cs' := [.int _ _, .int _ _, .int _ _, .int _ _, .int _ _, .bool _]) (f' := false) rfl rfl rfl Try.sizeOf35 rfl rfl rfl rfl rfl) ?_
        refine dr_nil (by kernel_rfl) ?_
        refine ok_ret ?_
        rw [show moveF x c = (x, noR 1) by unfold moveF; rw [if_neg h_t15, if_neg h_t20, if_pos (.inl (by omega))]]
        exact ret_gen (R := [4, 5]) ⟨_, _, rfl, ⟨rfl, 4, 0, _, _, rfl, rfl, .inl ⟨3, Try.isAgg26, Try.sizeOf26, Nat.le_of_ble_eq_true rfl, rfl⟩⟩, _, _, rfl, ⟨rfl, 5, 0, _, _, rfl, rfl, .inl ⟨6, Try.isAgg35, Try.sizeOf35, Nat.le_of_ble_eq_true rfl, rfl⟩⟩, rfl⟩ (.tup (.cons (.agg (FrzL.tf rfl)) (.cons (.agg (FrzL.tf rfl)) .nil))) (fun t ht => by simp at ht; rcases ht with rfl | rfl <;> exact Option.some_ne_none _)
      · first
          | refine dy1 rfl rfl g6_6 rfl rfl (lop_fieldAddr_rf (fo := 11) rfl Try.underlying30 rfl rfl Try.sizeOf28 (by decide)) ?_
          | refine dy1 rfl rfl g6_6 rfl rfl (lop_fieldAddr_fp (fo := 11) rfl Try.underlying30 rfl rfl Try.sizeOf28 (by decide) rfl) ?_
        first
          | refine dy1 rfl rfl g6_6 rfl rfl (lop_load_rf rfl rfl Try.isAgg28 rfl) ?_
          | refine dy1 rfl rfl g6_6 rfl rfl (lop_load_fp rfl Try.isAgg28 rfl) ?_
        refine dy1 rfl rfl g6_6 rfl rfl (lop_len rfl Try.underlying28 ⟨⟨_, rfl⟩, rfl⟩) ?_
        refine dy1 rfl rfl g6_6 rfl rfl (lop_neq rfl rfl) ?_
        first
          | refine d1 rfl rfl (lop_pick_f (v := .bool _) rfl g6_6 rfl) ?_
          | refine d1 rfl rfl (lop_pick_t (v := .bool _) rfl rfl rfl) ?_
          | refine d1 rfl rfl (lop_pick_f (v := .bool _) rfl rfl rfl) ?_
          | refine d1 rfl rfl (lop_pick rfl rfl rfl) ?_
        refine d1 rfl rfl (lop_move (v := .bool _) rfl) ?_
        first
          | refine dsplitP 12 rfl rfl (fun g6_12 p6_12 => ?_) (fun g6_12 p6_12 => ?_)
          | refine dsplitB 12 rfl rfl (fun g6_12 p6_12 => ?_) (fun g6_12 p6_12 => ?_)
        · refine dn1 rfl rfl g6_12 rfl ?_
          refine dn1 rfl rfl g6_12 rfl ?_
          refine dn1 rfl rfl g6_12 rfl ?_
          refine dn1 rfl rfl g6_12 rfl ?_
          refine dn1 rfl rfl g6_12 rfl ?_
          refine dn1 rfl rfl g6_12 rfl ?_
          refine dn1 rfl rfl g6_12 rfl ?_
          refine dn1 rfl rfl g6_12 rfl ?_
          first
            | refine d1 rfl rfl (lop_pick_f (v := .bool _) rfl g6_6 rfl) ?_
            | refine d1 rfl rfl (lop_pick_t (v := .bool _) rfl g6_12 rfl) ?_
            | refine d1 rfl rfl (lop_pick_t (v := .bool _) rfl rfl rfl) ?_
            | refine d1 rfl rfl (lop_pick_f (v := .bool _) rfl rfl rfl) ?_
            | refine d1 rfl rfl (lop_pick rfl rfl rfl) ?_
          refine d1 rfl rfl (lop_move (v := .bool _) rfl) ?_
          refine dn1 rfl rfl rfl rfl ?_
          refine dn1 rfl rfl rfl rfl ?_
          refine dn1 rfl rfl rfl rfl ?_
          refine dn1 rfl rfl rfl rfl ?_
          refine dn1 rfl rfl rfl rfl ?_
          refine dn1 rfl rfl rfl rfl ?_
          refine dn1 rfl rfl rfl rfl ?_
          first
            | refine d1 rfl rfl (lop_pick_f (v := .bool _) rfl g6_6 rfl) ?_
            | refine d1 rfl rfl (lop_pick_t (v := .bool _) rfl g6_12 rfl) ?_
            | refine d1 rfl rfl (lop_pick_t (v := .bool _) rfl rfl rfl) ?_
            | refine d1 rfl rfl (lop_pick_t (v := .bool _) rfl rfl rfl) ?_
            | refine d1 rfl rfl (lop_pick_f (v := .bool _) rfl rfl rfl) ?_
            | refine d1 rfl rfl (lop_pick rfl rfl rfl) ?_
          refine d1 rfl rfl (lop_assign (v := .bool _) rfl) ?_
          refine dr_nil (by kernel_rfl) ?_
          refine ok_true rfl rfl ?_
          refine ok_drw Try.mixed ?_
          first
            | refine d1 rfl rfl (lop_load_rf_agg (ys := [_, _, _]) rfl rfl Try.isAgg26 Try.sizeOf26 (Nat.le_of_ble_eq_true rfl) rfl) ?_
            | refine d1 rfl rfl (lop_load_fp_agg (ys := [_, _, _]) rfl Try.isAgg26 Try.sizeOf26 (Nat.le_of_ble_eq_true rfl) rfl) ?_
          refine d1 rfl rfl (lop_call rfl Try.call23 (FrzL.tf rfl) (.inl rfl) (no_ac 1)) ?_
          first
            | refine d0w rfl rfl (lop_storeK (v := .agg [_, _, _]) (cs' := [_, _, _]) (f' := true) rfl rfl rfl Try.sizeOf26 rfl rfl rfl rfl rfl) ?_
            | refine d0w rfl rfl (lop_storeK (v := .agg [_, _, _]) (cs' := [_, _, _]) (f' := false) rfl rfl rfl Try.sizeOf26 rfl rfl rfl rfl rfl) ?_
          first
            | refine d0w rfl rfl (lop_storeK (v := .agg [.int _ _, .int _ _, .int _ _, .int _ _, .int _ _, .bool _]) (cs' := [.int _ _, .int _ _, .int _ _, .int _ _, .int _ _, .bool _]) (f' := true) rfl rfl rfl Try.sizeOf35 rfl rfl rfl rfl rfl) ?_
            | refine d0w rfl rfl (lop_storeK (v := .agg [.int _ _, .int _ _, .int _ _, .int _ _, .int _ _, .bool _]) (cs' := [.int _ _, .int _ _, .int _ _, .int _ _, .int _ _, .bool _]) (f' := false) rfl rfl rfl Try.sizeOf35 rfl rfl rfl rfl rfl) ?_
          refine dr_nil (by kernel_rfl) ?_
          refine ok_ret ?_
          rw [show moveF x c = (x, noR 1) by unfold moveF; rw [if_neg h_t15, if_neg h_t20, if_pos (.inr (.inl (by omega)))]]
          exact ret_gen (R := [4, 5]) ⟨_, _, rfl, ⟨rfl, 4, 0, _, _, rfl, rfl, .inl ⟨3, Try.isAgg26, Try.sizeOf26, Nat.le_of_ble_eq_true rfl, rfl⟩⟩, _, _, rfl, ⟨rfl, 5, 0, _, _, rfl, rfl, .inl ⟨6, Try.isAgg35, Try.sizeOf35, Nat.le_of_ble_eq_true rfl, rfl⟩⟩, rfl⟩ (.tup (.cons (.agg (FrzL.tf rfl)) (.cons (.agg (FrzL.tf rfl)) .nil))) (fun t ht => by simp at ht; rcases ht with rfl | rfl <;> exact Option.some_ne_none _)
        · have h1 : 0 < c.places.length := by omega
          have hh : c.places.headD ⟨0, 0⟩ = c.places[0] := headD_at h1
          first
            | refine dy1 rfl rfl g6_12 rfl rfl (lop_fieldAddr_rf (fo := 11) rfl Try.underlying30 rfl rfl Try.sizeOf28 (by decide)) ?_
            | refine dy1 rfl rfl g6_12 rfl rfl (lop_fieldAddr_fp (fo := 11) rfl Try.underlying30 rfl rfl Try.sizeOf28 (by decide) rfl) ?_
          first
            | refine dy1 rfl rfl g6_12 rfl rfl (lop_load_rf rfl rfl Try.isAgg28 rfl) ?_
            | refine dy1 rfl rfl g6_12 rfl rfl (lop_load_fp rfl Try.isAgg28 rfl) ?_
          first
            | refine dy1 rfl rfl g6_12 rfl rfl (lop_indexAddr_os rfl rfl Try.underlying28 Try.sizeOf57 (show (0 : Int) = ((0 : Nat) : Int) from rfl) h1) ?_
            | refine dy1 rfl rfl g6_12 rfl rfl (lop_indexAddr_sl rfl rfl Try.underlying28 Try.sizeOf57 (show (0 : Int) = ((0 : Nat) : Int) from rfl) h1 (flat_at PlD.len h1) (flat_ne PlD.len (by decide) h1)) ?_
          first
            | refine dy1 rfl rfl g6_12 rfl rfl (lop_fieldAddr_rf (fo := 0) rfl Try.underlying57 rfl rfl Try.sizeOf3 (by decide)) ?_
            | refine dy1 rfl rfl g6_12 rfl rfl (lop_fieldAddr_fp (fo := 0) rfl Try.underlying57 rfl rfl Try.sizeOf3 (by decide) rfl) ?_
          first
            | refine dy1 rfl rfl g6_12 rfl rfl (lop_load_rf rfl rfl Try.isAgg3 rfl) ?_
            | refine dy1 rfl rfl g6_12 rfl rfl (lop_load_fp rfl Try.isAgg3 rfl) ?_
          first
            | refine dy1 rfl rfl g6_12 rfl rfl (lop_fieldAddr_rf (fo := 1) rfl Try.underlying50 rfl rfl Try.sizeOf3 (by decide)) ?_
            | refine dy1 rfl rfl g6_12 rfl rfl (lop_fieldAddr_fp (fo := 1) rfl Try.underlying50 rfl rfl Try.sizeOf3 (by decide) rfl) ?_
          first
            | refine dy1 rfl rfl g6_12 rfl rfl (lop_load_rf rfl rfl Try.isAgg3 rfl) ?_
            | refine dy1 rfl rfl g6_12 rfl rfl (lop_load_fp rfl Try.isAgg3 rfl) ?_
          refine dy1 rfl rfl g6_12 rfl rfl (lop_neq rfl rfl) ?_
          first
            | refine d1 rfl rfl (lop_pick_f (v := .bool _) rfl g6_6 rfl) ?_
            | refine d1 rfl rfl (lop_pick_f (v := .bool _) rfl g6_12 rfl) ?_
            | refine d1 rfl rfl (lop_pick_t (v := .bool _) rfl rfl rfl) ?_
            | refine d1 rfl rfl (lop_pick_f (v := .bool _) rfl rfl rfl) ?_
            | refine d1 rfl rfl (lop_pick rfl rfl rfl) ?_
          refine d1 rfl rfl (lop_move (v := .bool _) rfl) ?_
          first
            | refine dsplitP 22 rfl rfl (fun g6_22 p6_22 => ?_) (fun g6_22 p6_22 => ?_)
            | refine dsplitB 22 rfl rfl (fun g6_22 p6_22 => ?_) (fun g6_22 p6_22 => ?_)
          · refine dn1 rfl rfl g6_22 rfl ?_
            refine dn1 rfl rfl g6_22 rfl ?_
            refine dn1 rfl rfl g6_22 rfl ?_
            refine dn1 rfl rfl g6_22 rfl ?_
            refine dn1 rfl rfl g6_22 rfl ?_
            refine dn1 rfl rfl g6_22 rfl ?_
            refine dn1 rfl rfl g6_22 rfl ?_
            first
              | refine d1 rfl rfl (lop_pick_f (v := .bool _) rfl g6_6 rfl) ?_
              | refine d1 rfl rfl (lop_pick_f (v := .bool _) rfl g6_12 rfl) ?_
              | refine d1 rfl rfl (lop_pick_t (v := .bool _) rfl g6_22 rfl) ?_
              | refine d1 rfl rfl (lop_pick_t (v := .bool _) rfl rfl rfl) ?_
              | refine d1 rfl rfl (lop_pick_f (v := .bool _) rfl rfl rfl) ?_
              | refine d1 rfl rfl (lop_pick rfl rfl rfl) ?_
            refine d1 rfl rfl (lop_assign (v := .bool _) rfl) ?_
            refine dr_nil (by kernel_rfl) ?_
            refine ok_true rfl rfl ?_
            refine ok_drw Try.mixed ?_
            first
              | refine d1 rfl rfl (lop_load_rf_agg (ys := [_, _, _]) rfl rfl Try.isAgg26 Try.sizeOf26 (Nat.le_of_ble_eq_true rfl) rfl) ?_
              | refine d1 rfl rfl (lop_load_fp_agg (ys := [_, _, _]) rfl Try.isAgg26 Try.sizeOf26 (Nat.le_of_ble_eq_true rfl) rfl) ?_
            refine d1 rfl rfl (lop_call rfl Try.call23 (FrzL.tf rfl) (.inl rfl) (no_ac 1)) ?_
            first
              | refine d0w rfl rfl (lop_storeK (v := .agg [_, _, _]) (cs' := [_, _, _]) (f' := true) rfl rfl rfl Try.sizeOf26 rfl rfl rfl rfl rfl) ?_
              | refine d0w rfl rfl (lop_storeK (v := .agg [_, _, _]) (cs' := [_, _, _]) (f' := false) rfl rfl rfl Try.sizeOf26 rfl rfl rfl rfl rfl) ?_
            first
              | refine d0w rfl rfl (lop_storeK (v := .agg [.int _ _, .int _ _, .int _ _, .int _ _, .int _ _, .bool _]) (cs' := [.int _ _, .int _ _, .int _ _, .int _ _, .int _ _, .bool _]) (f' := true) rfl rfl rfl Try.sizeOf35 rfl rfl rfl rfl rfl) ?_
              | refine d0w rfl rfl (lop_storeK (v := .agg [.int _ _, .int _ _, .int _ _, .int _ _, .int _ _, .bool _]) (cs' := [.int _ _, .int _ _, .int _ _, .int _ _, .int _ _, .bool _]) (f' := false) rfl rfl rfl Try.sizeOf35 rfl rfl rfl rfl rfl) ?_
            refine dr_nil (by kernel_rfl) ?_
            refine ok_ret ?_
            rw [show moveF x c = (x, noR 1) by unfold moveF; rw [hh, if_neg h_t15, if_neg h_t20, if_pos (.inr (.inr (.inl p6_22)))]]
            exact ret_gen (R := [4, 5]) ⟨_, _, rfl, ⟨rfl, 4, 0, _, _, rfl, rfl, .inl ⟨3, Try.isAgg26, Try.sizeOf26, Nat.le_of_ble_eq_true rfl, rfl⟩⟩, _, _, rfl, ⟨rfl, 5, 0, _, _, rfl, rfl, .inl ⟨6, Try.isAgg35, Try.sizeOf35, Nat.le_of_ble_eq_true rfl, rfl⟩⟩, rfl⟩ (.tup (.cons (.agg (FrzL.tf rfl)) (.cons (.agg (FrzL.tf rfl)) .nil))) (fun t ht => by simp at ht; rcases ht with rfl | rfl <;> exact Option.some_ne_none _)
          · first
              | refine dy1 rfl rfl g6_22 rfl rfl (lop_fieldAddr_rf (fo := 6) rfl Try.underlying50 rfl rfl Try.sizeOf28 (by decide)) ?_
              | refine dy1 rfl rfl g6_22 rfl rfl (lop_fieldAddr_fp (fo := 6) rfl Try.underlying50 rfl rfl Try.sizeOf28 (by decide) rfl) ?_
            first
              | refine dy1 rfl rfl g6_22 rfl rfl (lop_load_rf rfl rfl Try.isAgg28 rfl) ?_
              | refine dy1 rfl rfl g6_22 rfl rfl (lop_load_fp rfl Try.isAgg28 rfl) ?_
            first
              | refine dy1 rfl rfl g6_22 rfl rfl (lop_fieldAddr_rf (fo := 11) rfl Try.underlying30 rfl rfl Try.sizeOf28 (by decide)) ?_
              | refine dy1 rfl rfl g6_22 rfl rfl (lop_fieldAddr_fp (fo := 11) rfl Try.underlying30 rfl rfl Try.sizeOf28 (by decide) rfl) ?_
            first
              | refine dy1 rfl rfl g6_22 rfl rfl (lop_load_rf rfl rfl Try.isAgg28 rfl) ?_
              | refine dy1 rfl rfl g6_22 rfl rfl (lop_load_fp rfl Try.isAgg28 rfl) ?_
            first
              | refine dy1 rfl rfl g6_22 rfl rfl (lop_indexAddr_os rfl rfl Try.underlying28 Try.sizeOf57 (show (0 : Int) = ((0 : Nat) : Int) from rfl) h1) ?_
              | refine dy1 rfl rfl g6_22 rfl rfl (lop_indexAddr_sl rfl rfl Try.underlying28 Try.sizeOf57 (show (0 : Int) = ((0 : Nat) : Int) from rfl) h1 (flat_at PlD.len h1) (flat_ne PlD.len (by decide) h1)) ?_
            first
              | refine dy1 rfl rfl g6_22 rfl rfl (lop_load_rf_agg rfl rfl Try.isAgg57 Try.sizeOf57 (by rw [List.length_append, PlD.len]; omega) (by rw [List.take_append_of_le_length (by rw [PlD.len]; omega), List.take_of_length_le (by rw [PlD.len]; omega)])) ?_
              | refine dy1 rfl rfl g6_22 rfl rfl (lop_load_fp_agg rfl Try.isAgg57 Try.sizeOf57 (by rw [List.length_append, PlD.len]; omega) (by rw [List.take_append_of_le_length (by rw [PlD.len]; omega), List.take_of_length_le (by rw [PlD.len]; omega)])) ?_
            refine dy1 rfl rfl g6_22 rfl rfl (lop_call rfl Try.call70 (FrzL.tf rfl) (.inl rfl) (contains_Place_ac (l := (volF x c.vol).1.places) (by omega) c.places[0])) ?_
            first
              | refine d1 rfl rfl (lop_pick_f (v := .bool _) rfl g6_6 rfl) ?_
              | refine d1 rfl rfl (lop_pick_f (v := .bool _) rfl g6_12 rfl) ?_
              | refine d1 rfl rfl (lop_pick_f (v := .bool _) rfl g6_22 rfl) ?_
              | refine d1 rfl rfl (lop_pick_t (v := .bool _) rfl rfl rfl) ?_
              | refine d1 rfl rfl (lop_pick_f (v := .bool _) rfl rfl rfl) ?_
              | refine d1 rfl rfl (lop_pick rfl rfl rfl) ?_
            refine d1 rfl rfl (lop_assign (v := .bool _) rfl) ?_
            refine dr_nil (by kernel_rfl) ?_
            first
              | refine ok_if _ rfl rfl (fun h_t26 => ?_) (fun h_t26 => ?_)
              | refine ok_cond rfl rfl (fun h_t26 => ?_) (fun h_t26 => ?_)
            · refine ok_drw Try.mixed ?_
              first
                | refine d1 rfl rfl (lop_load_rf_agg (ys := [_, _, _]) rfl rfl Try.isAgg26 Try.sizeOf26 (Nat.le_of_ble_eq_true rfl) rfl) ?_
                | refine d1 rfl rfl (lop_load_fp_agg (ys := [_, _, _]) rfl Try.isAgg26 Try.sizeOf26 (Nat.le_of_ble_eq_true rfl) rfl) ?_
              refine d1 rfl rfl (lop_call rfl Try.call23 (FrzL.tf rfl) (.inl rfl) (no_ac 1)) ?_
              first
                | refine d0w rfl rfl (lop_storeK (v := .agg [_, _, _]) (cs' := [_, _, _]) (f' := true) rfl rfl rfl Try.sizeOf26 rfl rfl rfl rfl rfl) ?_
                | refine d0w rfl rfl (lop_storeK (v := .agg [_, _, _]) (cs' := [_, _, _]) (f' := false) rfl rfl rfl Try.sizeOf26 rfl rfl rfl rfl rfl) ?_
              first
                | refine d0w rfl rfl (lop_storeK (v := .agg [.int _ _, .int _ _, .int _ _, .int _ _, .int _ _, .bool _]) (cs' := [.int _ _, .int _ _, .int _ _, .int _ _, .int _ _, .bool _]) (f' := true) rfl rfl rfl Try.sizeOf35 rfl rfl rfl rfl rfl) ?_
                | refine d0w rfl rfl (lop_storeK (v := .agg [.int _ _, .int _ _, .int _ _, .int _ _, .int _ _, .bool _]) (cs' := [.int _ _, .int _ _, .int _ _, .int _ _, .int _ _, .bool _]) (f' := false) rfl rfl rfl Try.sizeOf35 rfl rfl rfl rfl rfl) ?_
              refine dr_nil (by kernel_rfl) ?_
              refine ok_ret ?_
              rw [show moveF x c = (x, noR 1) by unfold moveF; rw [hh, if_neg h_t15, if_neg h_t20, if_pos (.inr (.inr (.inr h_t26)))]]
              exact ret_gen (R := [4, 5]) ⟨_, _, rfl, ⟨rfl, 4, 0, _, _, rfl, rfl, .inl ⟨3, Try.isAgg26, Try.sizeOf26, Nat.le_of_ble_eq_true rfl, rfl⟩⟩, _, _, rfl, ⟨rfl, 5, 0, _, _, rfl, rfl, .inl ⟨6, Try.isAgg35, Try.sizeOf35, Nat.le_of_ble_eq_true rfl, rfl⟩⟩, rfl⟩ (.tup (.cons (.agg (FrzL.tf rfl)) (.cons (.agg (FrzL.tf rfl)) .nil))) (fun t ht => by simp at ht; rcases ht with rfl | rfl <;> exact Option.some_ne_none _)
            · refine ok_skip ?_
              refine ok_drw Try.mixed ?_
              first
                | refine d1 rfl rfl (lop_fieldAddr_rf (fo := 6) rfl Try.underlying50 rfl rfl Try.sizeOf28 (by decide)) ?_
                | refine d1 rfl rfl (lop_fieldAddr_fp (fo := 6) rfl Try.underlying50 rfl rfl Try.sizeOf28 (by decide) rfl) ?_
              first
                | refine d1 rfl rfl (lop_load_rf rfl rfl Try.isAgg28 rfl) ?_
                | refine d1 rfl rfl (lop_load_fp rfl Try.isAgg28 rfl) ?_
              first
                | refine d1 rfl rfl (lop_fieldAddr_rf (fo := 10) rfl Try.underlying30 rfl rfl Try.sizeOf3 (by decide)) ?_
                | refine d1 rfl rfl (lop_fieldAddr_fp (fo := 10) rfl Try.underlying30 rfl rfl Try.sizeOf3 (by decide) rfl) ?_
              first
                | refine d1 rfl rfl (lop_load_rf rfl rfl Try.isAgg3 rfl) ?_
                | refine d1 rfl rfl (lop_load_fp rfl Try.isAgg3 rfl) ?_
              first
                | refine d1 rfl rfl (lop_fieldAddr_rf (fo := 11) rfl Try.underlying30 rfl rfl Try.sizeOf28 (by decide)) ?_
                | refine d1 rfl rfl (lop_fieldAddr_fp (fo := 11) rfl Try.underlying30 rfl rfl Try.sizeOf28 (by decide) rfl) ?_
              first
                | refine d1 rfl rfl (lop_load_rf rfl rfl Try.isAgg28 rfl) ?_
                | refine d1 rfl rfl (lop_load_fp rfl Try.isAgg28 rfl) ?_
              first
                | refine d1 rfl rfl (lop_indexAddr_os rfl rfl Try.underlying28 Try.sizeOf57 (show (0 : Int) = ((0 : Nat) : Int) from rfl) h1) ?_
                | refine d1 rfl rfl (lop_indexAddr_sl rfl rfl Try.underlying28 Try.sizeOf57 (show (0 : Int) = ((0 : Nat) : Int) from rfl) h1 (flat_at PlD.len h1) (flat_ne PlD.len (by decide) h1)) ?_
              first
                | refine d1 rfl rfl (lop_load_rf_agg rfl rfl Try.isAgg57 Try.sizeOf57 (by rw [List.length_append, PlD.len]; omega) (by rw [List.take_append_of_le_length (by rw [PlD.len]; omega), List.take_of_length_le (by rw [PlD.len]; omega)])) ?_
                | refine d1 rfl rfl (lop_load_fp_agg rfl Try.isAgg57 Try.sizeOf57 (by rw [List.length_append, PlD.len]; omega) (by rw [List.take_append_of_le_length (by rw [PlD.len]; omega), List.take_of_length_le (by rw [PlD.len]; omega)])) ?_
              refine d1 rfl rfl (lop_call rfl Try.call71 (FrzL.tf rfl) (.inl rfl) (set_Place_ac (l := (volF x c.vol).1.places) (by omega) (i := c.idx) (by omega) c.places[0])) ?_
              first
                | refine d1 rfl rfl (lop_fieldAddr_rf (fo := 6) rfl Try.underlying50 rfl rfl Try.sizeOf28 (by decide)) ?_
                | refine d1 rfl rfl (lop_fieldAddr_fp (fo := 6) rfl Try.underlying50 rfl rfl Try.sizeOf28 (by decide) rfl) ?_
              first
                | refine d0w rfl rfl (lop_storeK (v := .sl _ _) (cs' := [.int _ _, .int _ _, .int _ _, .int _ _, .int _ _, _, _, .int _ _, .int _ _]) (f' := true) rfl rfl rfl Try.sizeOf28 rfl rfl rfl rfl rfl) ?_
                | refine d0w rfl rfl (lop_storeK (v := .os _ _ _ _) (cs' := [.int _ _, .int _ _, .int _ _, .int _ _, .int _ _, _, _, .int _ _, .int _ _]) (f' := true) rfl rfl rfl Try.sizeOf28 rfl rfl rfl rfl rfl) ?_
                | refine d0w rfl rfl (lop_storeK (v := .z0) (cs' := [.int _ _, .int _ _, .int _ _, .int _ _, .int _ _, _, _, .int _ _, .int _ _]) (f' := true) rfl rfl rfl Try.sizeOf28 rfl rfl rfl rfl rfl) ?_
                | refine d0w rfl rfl (lop_storeK (v := .sl _ _) (cs' := [.int _ _, .int _ _, .int _ _, .int _ _, .int _ _, _, _, .int _ _, .int _ _]) (f' := false) rfl rfl rfl Try.sizeOf28 rfl rfl rfl rfl rfl) ?_
                | refine d0w rfl rfl (lop_storeK (v := .os _ _ _ _) (cs' := [.int _ _, .int _ _, .int _ _, .int _ _, .int _ _, _, _, .int _ _, .int _ _]) (f' := false) rfl rfl rfl Try.sizeOf28 rfl rfl rfl rfl rfl) ?_
                | refine d0w rfl rfl (lop_storeK (v := .z0) (cs' := [.int _ _, .int _ _, .int _ _, .int _ _, .int _ _, _, _, .int _ _, .int _ _]) (f' := false) rfl rfl rfl Try.sizeOf28 rfl rfl rfl rfl rfl) ?_
              refine dr_nil (by kernel_rfl) ?_
              refine ok_reg ?_
              first
                | refine s1 rfl (lop_fieldAddr_rf (fo := 0) rfl Try.underlying26 rfl rfl Try.sizeOf22 (by decide)) ?_
                | refine s1 rfl (lop_fieldAddr_fp (fo := 0) rfl Try.underlying26 rfl rfl Try.sizeOf22 (by decide) rfl) ?_
              first
                | refine s1 rfl (lop_load_rf rfl rfl Try.isAgg22 rfl) ?_
                | refine s1 rfl (lop_load_fp rfl Try.isAgg22 rfl) ?_
              refine s1 rfl (lop_move (v := .int _ _) rfl) ?_
              first
                | refine s1 rfl (lop_load_rf_agg (ys := [.int _ _, .int _ _, .int _ _, .int _ _, .int _ _, _, _, .int _ _, .int _ _]) rfl rfl Try.isAgg50 Try.sizeOf50 (Nat.le_of_ble_eq_true rfl) rfl) ?_
                | refine s1 rfl (lop_load_fp_agg (ys := [.int _ _, .int _ _, .int _ _, .int _ _, .int _ _, _, _, .int _ _, .int _ _]) rfl Try.isAgg50 Try.sizeOf50 (Nat.le_of_ble_eq_true rfl) rfl) ?_
              refine s1 rfl (lop_call rfl Try.call62 (fzL_sound _ [] _ rfl) (.inl rfl) (set_Vol_ac (l := x.vols) (by have := hx.vols; omega) hvm.2.1 { (volF x c.vol).1 with places := setL (volF x c.vol).1.places c.idx c.places[0] })) ?_
              first
                | refine s1 rfl (lop_fieldAddr_rf (fo := 0) rfl Try.underlying26 rfl rfl Try.sizeOf22 (by decide)) ?_
                | refine s1 rfl (lop_fieldAddr_fp (fo := 0) rfl Try.underlying26 rfl rfl Try.sizeOf22 (by decide) rfl) ?_
              first
                | refine s0w rfl (lop_storeK (v := .sl _ _) (cs' := [_, _, _]) (f' := true) rfl rfl rfl Try.sizeOf22 rfl rfl rfl rfl rfl) ?_
                | refine s0w rfl (lop_storeK (v := .os _ _ _ _) (cs' := [_, _, _]) (f' := true) rfl rfl rfl Try.sizeOf22 rfl rfl rfl rfl rfl) ?_
                | refine s0w rfl (lop_storeK (v := .z0) (cs' := [_, _, _]) (f' := true) rfl rfl rfl Try.sizeOf22 rfl rfl rfl rfl rfl) ?_
                | refine s0w rfl (lop_storeK (v := .sl _ _) (cs' := [_, _, _]) (f' := false) rfl rfl rfl Try.sizeOf22 rfl rfl rfl rfl rfl) ?_
                | refine s0w rfl (lop_storeK (v := .os _ _ _ _) (cs' := [_, _, _]) (f' := false) rfl rfl rfl Try.sizeOf22 rfl rfl rfl rfl rfl) ?_
                | refine s0w rfl (lop_storeK (v := .z0) (cs' := [_, _, _]) (f' := false) rfl rfl rfl Try.sizeOf22 rfl rfl rfl rfl rfl) ?_
              refine ops_nil ?_
              refine ok_drw Try.mixed ?_
              first
                | refine d1 rfl rfl (lop_load_rf_agg (ys := [_, _, _]) rfl rfl Try.isAgg26 Try.sizeOf26 (Nat.le_of_ble_eq_true rfl) rfl) ?_
                | refine d1 rfl rfl (lop_load_fp_agg (ys := [_, _, _]) rfl Try.isAgg26 Try.sizeOf26 (Nat.le_of_ble_eq_true rfl) rfl) ?_
              first
                | refine d1 rfl rfl (lop_fieldAddr_rf (fo := 0) rfl Try.underlying50 rfl rfl Try.sizeOf3 (by decide)) ?_
                | refine d1 rfl rfl (lop_fieldAddr_fp (fo := 0) rfl Try.underlying50 rfl rfl Try.sizeOf3 (by decide) rfl) ?_
              first
                | refine d1 rfl rfl (lop_load_rf rfl rfl Try.isAgg3 rfl) ?_
                | refine d1 rfl rfl (lop_load_fp rfl Try.isAgg3 rfl) ?_
              first
                | refine d1 rfl rfl (lop_fieldAddr_rf (fo := 10) rfl Try.underlying30 rfl rfl Try.sizeOf3 (by decide)) ?_
                | refine d1 rfl rfl (lop_fieldAddr_fp (fo := 10) rfl Try.underlying30 rfl rfl Try.sizeOf3 (by decide) rfl) ?_
              first
                | refine d1 rfl rfl (lop_load_rf rfl rfl Try.isAgg3 rfl) ?_
                | refine d1 rfl rfl (lop_load_fp rfl Try.isAgg3 rfl) ?_
              refine d1 rfl rfl (lop_buildK (cs := [.int _ _, .int _ _, .int _ _, .int _ _, .int _ _, .bool _]) Try.underlying35 Try.zeroValue35 rfl rfl places35 rfl) ?_
              first
                | refine d0w rfl rfl (lop_storeK (v := .agg [_, _, _]) (cs' := [_, _, _]) (f' := true) rfl rfl rfl Try.sizeOf26 rfl rfl rfl rfl rfl) ?_
                | refine d0w rfl rfl (lop_storeK (v := .agg [_, _, _]) (cs' := [_, _, _]) (f' := false) rfl rfl rfl Try.sizeOf26 rfl rfl rfl rfl rfl) ?_
              first
                | refine d0w rfl rfl (lop_storeK (v := .agg [.int _ _, .int _ _, .int _ _, .int _ _, .int _ _, .bool _]) (cs' := [.int _ _, .int _ _, .int _ _, .int _ _, .int _ _, .bool _]) (f' := true) rfl rfl rfl Try.sizeOf35 rfl rfl rfl rfl rfl) ?_
                | refine d0w rfl rfl (lop_storeK (v := .agg [.int _ _, .int _ _, .int _ _, .int _ _, .int _ _, .bool _]) (cs' := [.int _ _, .int _ _, .int _ _, .int _ _, .int _ _, .bool _]) (f' := false) rfl rfl rfl Try.sizeOf35 rfl rfl rfl rfl rfl) ?_
              refine dr_nil (by kernel_rfl) ?_
              refine ok_ret ?_
              rw [show moveF x c = (⟨setL x.vols (volF x c.vol).2 { (volF x c.vol).1 with places := setL (volF x c.vol).1.places c.idx c.places[0] }, x.names, x.last⟩, ⟨0, (volF x c.vol).1.id, 0, c.idx, 0, false⟩) by unfold moveF; rw [hh, if_neg h_t15, if_neg h_t20, if_neg (fun h => by
                                     rcases h with h | h | h | h
                                     · omega
                                     · omega
                                     · exact p6_22 h
                                     · rw [h_t26] at h; cases h)]]
              exact ret_gen (R := [4, 5]) ⟨_, _, rfl, ⟨rfl, 4, 0, _, _, rfl, rfl, .inl ⟨3, Try.isAgg26, Try.sizeOf26, Nat.le_of_ble_eq_true rfl, rfl⟩⟩, _, _, rfl, ⟨rfl, 5, 0, _, _, rfl, rfl, .inl ⟨6, Try.isAgg35, Try.sizeOf35, Nat.le_of_ble_eq_true rfl, rfl⟩⟩, rfl⟩ (.tup (.cons (.agg (FrzL.tf rfl)) (.cons (.agg (FrzL.tf rfl)) .nil))) (fun t ht => by simp at ht; rcases ht with rfl | rfl <;> exact Option.some_ne_none _)

theorem does_ac {x : IdxD} (hx : Fit 549755000000 x) {c : CmdD} (hm : May c) : AC Try.prog 24 [.agg x.enc, .agg c.enc] (.tup [.agg (doesF x c).1.enc, .agg (doesF x c).2.enc]) := by
  refine AC.intro Try.func24 rfl (Nat.le_of_ble_eq_true rfl) ?_
  refine ok_reg ?_
  first
    | refine s1w rfl (lop_box (t := 2) (v := .agg [_, _, _]) (f := true) (cs := [_, _, _]) rfl rfl rfl rfl (fun h => by cases h)) rfl ?_
    | refine s1w rfl (lop_box (t := 2) (v := .agg [_, _, _]) (f := false) (cs := [_, _, _]) rfl rfl rfl rfl (fun _ => rfl)) rfl ?_
  first
    | refine s1w rfl (lop_box (t := 3) (v := .agg [.int _ _, .int _ _, .int _ _, .str _, .int _ _, .int _ _, .int _ _, .int _ _, .int _ _, .int _ _, .int _ _, _]) (f := true) (cs := [.int _ _, .int _ _, .int _ _, .str _, .int _ _, .int _ _, .int _ _, .int _ _, .int _ _, .int _ _, .int _ _, _]) rfl rfl rfl rfl (fun h => by cases h)) rfl ?_
    | refine s1w rfl (lop_box (t := 3) (v := .agg [.int _ _, .int _ _, .int _ _, .str _, .int _ _, .int _ _, .int _ _, .int _ _, .int _ _, .int _ _, .int _ _, _]) (f := false) (cs := [.int _ _, .int _ _, .int _ _, .str _, .int _ _, .int _ _, .int _ _, .int _ _, .int _ _, .int _ _, .int _ _, _]) rfl rfl rfl rfl (fun _ => rfl)) rfl ?_
  refine s1w rfl (lop_new (t := 4) (cs := [.z0, .z0, .z0]) Try.zeroValue26 rfl rfl rfl rfl) rfl ?_
  refine s1w rfl (lop_new (t := 5) (cs := [.int _ _, .int _ _, .int _ _, .int _ _, .int _ _, .bool _]) Try.zeroValue35 rfl rfl rfl rfl) rfl ?_
  refine ops_nil ?_
  refine ok_seq ?_
  refine ok_reg ?_
  first
    | refine s1 rfl (lop_fieldAddr_rf (fo := 0) rfl Try.underlying30 rfl rfl Try.sizeOf3 (by decide)) ?_
    | refine s1 rfl (lop_fieldAddr_fp (fo := 0) rfl Try.underlying30 rfl rfl Try.sizeOf3 (by decide) rfl) ?_
  first
    | refine s1 rfl (lop_load_rf rfl rfl Try.isAgg3 rfl) ?_
    | refine s1 rfl (lop_load_fp rfl Try.isAgg3 rfl) ?_
  refine ops_nil ?_
  refine ok_block ?_
  refine ok_reg ?_
  refine s1 rfl (lop_eql rfl rfl) ?_
  refine s1 rfl (lop_assign (v := .bool _) rfl) ?_
  refine ops_nil ?_
  first
    | refine ok_if _ rfl rfl (fun h_t8 => ?_) (fun h_t8 => ?_)
    | refine ok_cond rfl rfl (fun h_t8 => ?_) (fun h_t8 => ?_)
  · refine ok_reg ?_
    first
      | refine s1 rfl (lop_load_rf_agg (ys := [_, _, _]) rfl rfl Try.isAgg26 Try.sizeOf26 (Nat.le_of_ble_eq_true rfl) rfl) ?_
      | refine s1 rfl (lop_load_fp_agg (ys := [_, _, _]) rfl Try.isAgg26 Try.sizeOf26 (Nat.le_of_ble_eq_true rfl) rfl) ?_
    first
      | refine s1 rfl (lop_load_rf_agg (ys := [.int _ _, .int _ _, .int _ _, .str _, .int _ _, .int _ _, .int _ _, .int _ _, .int _ _, .int _ _, .int _ _, _]) rfl rfl Try.isAgg30 Try.sizeOf30 (Nat.le_of_ble_eq_true rfl) rfl) ?_
      | refine s1 rfl (lop_load_fp_agg (ys := [.int _ _, .int _ _, .int _ _, .str _, .int _ _, .int _ _, .int _ _, .int _ _, .int _ _, .int _ _, .int _ _, _]) rfl Try.isAgg30 Try.sizeOf30 (Nat.le_of_ble_eq_true rfl) rfl) ?_
    refine s1 rfl (lop_call rfl Try.call41 (FrzL.tf rfl) (.inl rfl) (open_ac hx hm)) ?_
    refine s1 rfl (lop_extract rfl rfl) ?_
    refine s1 rfl (lop_extract rfl rfl) ?_
    first
      | refine s0w rfl (lop_storeK (v := .agg [_, _, _]) (cs' := [_, _, _]) (f' := true) rfl rfl rfl Try.sizeOf26 rfl rfl rfl rfl rfl) ?_
      | refine s0w rfl (lop_storeK (v := .agg [_, _, _]) (cs' := [_, _, _]) (f' := false) rfl rfl rfl Try.sizeOf26 rfl rfl rfl rfl rfl) ?_
    first
      | refine s0w rfl (lop_storeK (v := .agg [.int _ _, .int _ _, .int _ _, .int _ _, .int _ _, .bool _]) (cs' := [.int _ _, .int _ _, .int _ _, .int _ _, .int _ _, .bool _]) (f' := true) rfl rfl rfl Try.sizeOf35 rfl rfl rfl rfl rfl) ?_
      | refine s0w rfl (lop_storeK (v := .agg [.int _ _, .int _ _, .int _ _, .int _ _, .int _ _, .bool _]) (cs' := [.int _ _, .int _ _, .int _ _, .int _ _, .int _ _, .bool _]) (f' := false) rfl rfl rfl Try.sizeOf35 rfl rfl rfl rfl rfl) ?_
    refine ops_nil ?_
    refine ok_ret ?_
    rw [show doesF x c = openF x c by unfold doesF; rw [if_pos h_t8]]
    exact ret_gen (R := [4, 5]) ⟨_, _, rfl, ⟨rfl, 4, 0, _, _, rfl, rfl, .inl ⟨3, Try.isAgg26, Try.sizeOf26, Nat.le_of_ble_eq_true rfl, rfl⟩⟩, _, _, rfl, ⟨rfl, 5, 0, _, _, rfl, rfl, .inl ⟨6, Try.isAgg35, Try.sizeOf35, Nat.le_of_ble_eq_true rfl, rfl⟩⟩, rfl⟩ (.tup (.cons (.agg (FrzL.tf rfl)) (.cons (.agg (FrzL.tf rfl)) .nil))) (fun t ht => by simp at ht; rcases ht with rfl | rfl <;> exact Option.some_ne_none _)
  · refine ok_reg ?_
    refine s1 rfl (lop_eql rfl rfl) ?_
    refine s1 rfl (lop_assign (v := .bool _) rfl) ?_
    refine ops_nil ?_
    first
      | refine ok_if _ rfl rfl (fun h_t15 => ?_) (fun h_t15 => ?_)
      | refine ok_cond rfl rfl (fun h_t15 => ?_) (fun h_t15 => ?_)
    · refine ok_reg ?_
      first
        | refine s1 rfl (lop_load_rf_agg (ys := [_, _, _]) rfl rfl Try.isAgg26 Try.sizeOf26 (Nat.le_of_ble_eq_true rfl) rfl) ?_
        | refine s1 rfl (lop_load_fp_agg (ys := [_, _, _]) rfl Try.isAgg26 Try.sizeOf26 (Nat.le_of_ble_eq_true rfl) rfl) ?_
      first
        | refine s1 rfl (lop_load_rf_agg (ys := [.int _ _, .int _ _, .int _ _, .str _, .int _ _, .int _ _, .int _ _, .int _ _, .int _ _, .int _ _, .int _ _, _]) rfl rfl Try.isAgg30 Try.sizeOf30 (Nat.le_of_ble_eq_true rfl) rfl) ?_
        | refine s1 rfl (lop_load_fp_agg (ys := [.int _ _, .int _ _, .int _ _, .str _, .int _ _, .int _ _, .int _ _, .int _ _, .int _ _, .int _ _, .int _ _, _]) rfl Try.isAgg30 Try.sizeOf30 (Nat.le_of_ble_eq_true rfl) rfl) ?_
      refine s1 rfl (lop_call rfl Try.call42 (FrzL.tf rfl) (.inl rfl) (reserve_ac hx hm)) ?_
      refine s1 rfl (lop_extract rfl rfl) ?_
      refine s1 rfl (lop_extract rfl rfl) ?_
      first
        | refine s0w rfl (lop_storeK (v := .agg [_, _, _]) (cs' := [_, _, _]) (f' := true) rfl rfl rfl Try.sizeOf26 rfl rfl rfl rfl rfl) ?_
        | refine s0w rfl (lop_storeK (v := .agg [_, _, _]) (cs' := [_, _, _]) (f' := false) rfl rfl rfl Try.sizeOf26 rfl rfl rfl rfl rfl) ?_
      first
        | refine s0w rfl (lop_storeK (v := .agg [.int _ _, .int _ _, .int _ _, .int _ _, .int _ _, .bool _]) (cs' := [.int _ _, .int _ _, .int _ _, .int _ _, .int _ _, .bool _]) (f' := true) rfl rfl rfl Try.sizeOf35 rfl rfl rfl rfl rfl) ?_
        | refine s0w rfl (lop_storeK (v := .agg [.int _ _, .int _ _, .int _ _, .int _ _, .int _ _, .bool _]) (cs' := [.int _ _, .int _ _, .int _ _, .int _ _, .int _ _, .bool _]) (f' := false) rfl rfl rfl Try.sizeOf35 rfl rfl rfl rfl rfl) ?_
      refine ops_nil ?_
      refine ok_ret ?_
      rw [show doesF x c = reserveF x c by unfold doesF; rw [if_neg h_t8, if_pos h_t15]]
      exact ret_gen (R := [4, 5]) ⟨_, _, rfl, ⟨rfl, 4, 0, _, _, rfl, rfl, .inl ⟨3, Try.isAgg26, Try.sizeOf26, Nat.le_of_ble_eq_true rfl, rfl⟩⟩, _, _, rfl, ⟨rfl, 5, 0, _, _, rfl, rfl, .inl ⟨6, Try.isAgg35, Try.sizeOf35, Nat.le_of_ble_eq_true rfl, rfl⟩⟩, rfl⟩ (.tup (.cons (.agg (FrzL.tf rfl)) (.cons (.agg (FrzL.tf rfl)) .nil))) (fun t ht => by simp at ht; rcases ht with rfl | rfl <;> exact Option.some_ne_none _)
    · refine ok_reg ?_
      refine s1 rfl (lop_eql rfl rfl) ?_
      refine s1 rfl (lop_assign (v := .bool _) rfl) ?_
      refine ops_nil ?_
      first
        | refine ok_if _ rfl rfl (fun h_t22 => ?_) (fun h_t22 => ?_)
        | refine ok_cond rfl rfl (fun h_t22 => ?_) (fun h_t22 => ?_)
      · refine ok_reg ?_
        first
          | refine s1 rfl (lop_load_rf_agg (ys := [_, _, _]) rfl rfl Try.isAgg26 Try.sizeOf26 (Nat.le_of_ble_eq_true rfl) rfl) ?_
          | refine s1 rfl (lop_load_fp_agg (ys := [_, _, _]) rfl Try.isAgg26 Try.sizeOf26 (Nat.le_of_ble_eq_true rfl) rfl) ?_
        first
          | refine s1 rfl (lop_load_rf_agg (ys := [.int _ _, .int _ _, .int _ _, .str _, .int _ _, .int _ _, .int _ _, .int _ _, .int _ _, .int _ _, .int _ _, _]) rfl rfl Try.isAgg30 Try.sizeOf30 (Nat.le_of_ble_eq_true rfl) rfl) ?_
          | refine s1 rfl (lop_load_fp_agg (ys := [.int _ _, .int _ _, .int _ _, .str _, .int _ _, .int _ _, .int _ _, .int _ _, .int _ _, .int _ _, .int _ _, _]) rfl Try.isAgg30 Try.sizeOf30 (Nat.le_of_ble_eq_true rfl) rfl) ?_
        refine s1 rfl (lop_call rfl Try.call43 (FrzL.tf rfl) (.inl rfl) (put_ac hx hm)) ?_
        refine s1 rfl (lop_extract rfl rfl) ?_
        refine s1 rfl (lop_extract rfl rfl) ?_
        first
          | refine s0w rfl (lop_storeK (v := .agg [_, _, _]) (cs' := [_, _, _]) (f' := true) rfl rfl rfl Try.sizeOf26 rfl rfl rfl rfl rfl) ?_
          | refine s0w rfl (lop_storeK (v := .agg [_, _, _]) (cs' := [_, _, _]) (f' := false) rfl rfl rfl Try.sizeOf26 rfl rfl rfl rfl rfl) ?_
        first
          | refine s0w rfl (lop_storeK (v := .agg [.int _ _, .int _ _, .int _ _, .int _ _, .int _ _, .bool _]) (cs' := [.int _ _, .int _ _, .int _ _, .int _ _, .int _ _, .bool _]) (f' := true) rfl rfl rfl Try.sizeOf35 rfl rfl rfl rfl rfl) ?_
          | refine s0w rfl (lop_storeK (v := .agg [.int _ _, .int _ _, .int _ _, .int _ _, .int _ _, .bool _]) (cs' := [.int _ _, .int _ _, .int _ _, .int _ _, .int _ _, .bool _]) (f' := false) rfl rfl rfl Try.sizeOf35 rfl rfl rfl rfl rfl) ?_
        refine ops_nil ?_
        refine ok_ret ?_
        rw [show doesF x c = putF x c by unfold doesF; rw [if_neg h_t8, if_neg h_t15, if_pos h_t22]]
        exact ret_gen (R := [4, 5]) ⟨_, _, rfl, ⟨rfl, 4, 0, _, _, rfl, rfl, .inl ⟨3, Try.isAgg26, Try.sizeOf26, Nat.le_of_ble_eq_true rfl, rfl⟩⟩, _, _, rfl, ⟨rfl, 5, 0, _, _, rfl, rfl, .inl ⟨6, Try.isAgg35, Try.sizeOf35, Nat.le_of_ble_eq_true rfl, rfl⟩⟩, rfl⟩ (.tup (.cons (.agg (FrzL.tf rfl)) (.cons (.agg (FrzL.tf rfl)) .nil))) (fun t ht => by simp at ht; rcases ht with rfl | rfl <;> exact Option.some_ne_none _)
      · refine ok_reg ?_
        refine s1 rfl (lop_eql rfl rfl) ?_
        refine s1 rfl (lop_assign (v := .bool _) rfl) ?_
        refine ops_nil ?_
        first
          | refine ok_if _ rfl rfl (fun h_t29 => ?_) (fun h_t29 => ?_)
          | refine ok_cond rfl rfl (fun h_t29 => ?_) (fun h_t29 => ?_)
        · refine ok_reg ?_
          first
            | refine s1 rfl (lop_load_rf_agg (ys := [_, _, _]) rfl rfl Try.isAgg26 Try.sizeOf26 (Nat.le_of_ble_eq_true rfl) rfl) ?_
            | refine s1 rfl (lop_load_fp_agg (ys := [_, _, _]) rfl Try.isAgg26 Try.sizeOf26 (Nat.le_of_ble_eq_true rfl) rfl) ?_
          first
            | refine s1 rfl (lop_load_rf_agg (ys := [.int _ _, .int _ _, .int _ _, .str _, .int _ _, .int _ _, .int _ _, .int _ _, .int _ _, .int _ _, .int _ _, _]) rfl rfl Try.isAgg30 Try.sizeOf30 (Nat.le_of_ble_eq_true rfl) rfl) ?_
            | refine s1 rfl (lop_load_fp_agg (ys := [.int _ _, .int _ _, .int _ _, .str _, .int _ _, .int _ _, .int _ _, .int _ _, .int _ _, .int _ _, .int _ _, _]) rfl Try.isAgg30 Try.sizeOf30 (Nat.le_of_ble_eq_true rfl) rfl) ?_
          refine s1 rfl (lop_call rfl Try.call44 (FrzL.tf rfl) (.inl rfl) (drop_ac hx hm)) ?_
          refine s1 rfl (lop_extract rfl rfl) ?_
          refine s1 rfl (lop_extract rfl rfl) ?_
          first
            | refine s0w rfl (lop_storeK (v := .agg [_, _, _]) (cs' := [_, _, _]) (f' := true) rfl rfl rfl Try.sizeOf26 rfl rfl rfl rfl rfl) ?_
            | refine s0w rfl (lop_storeK (v := .agg [_, _, _]) (cs' := [_, _, _]) (f' := false) rfl rfl rfl Try.sizeOf26 rfl rfl rfl rfl rfl) ?_
          first
            | refine s0w rfl (lop_storeK (v := .agg [.int _ _, .int _ _, .int _ _, .int _ _, .int _ _, .bool _]) (cs' := [.int _ _, .int _ _, .int _ _, .int _ _, .int _ _, .bool _]) (f' := true) rfl rfl rfl Try.sizeOf35 rfl rfl rfl rfl rfl) ?_
            | refine s0w rfl (lop_storeK (v := .agg [.int _ _, .int _ _, .int _ _, .int _ _, .int _ _, .bool _]) (cs' := [.int _ _, .int _ _, .int _ _, .int _ _, .int _ _, .bool _]) (f' := false) rfl rfl rfl Try.sizeOf35 rfl rfl rfl rfl rfl) ?_
          refine ops_nil ?_
          refine ok_ret ?_
          rw [show doesF x c = dropF x c by unfold doesF; rw [if_neg h_t8, if_neg h_t15, if_neg h_t22, if_pos h_t29]]
          exact ret_gen (R := [4, 5]) ⟨_, _, rfl, ⟨rfl, 4, 0, _, _, rfl, rfl, .inl ⟨3, Try.isAgg26, Try.sizeOf26, Nat.le_of_ble_eq_true rfl, rfl⟩⟩, _, _, rfl, ⟨rfl, 5, 0, _, _, rfl, rfl, .inl ⟨6, Try.isAgg35, Try.sizeOf35, Nat.le_of_ble_eq_true rfl, rfl⟩⟩, rfl⟩ (.tup (.cons (.agg (FrzL.tf rfl)) (.cons (.agg (FrzL.tf rfl)) .nil))) (fun t ht => by simp at ht; rcases ht with rfl | rfl <;> exact Option.some_ne_none _)
        · refine ok_reg ?_
          refine s1 rfl (lop_eql rfl rfl) ?_
          refine s1 rfl (lop_assign (v := .bool _) rfl) ?_
          refine ops_nil ?_
          first
            | refine ok_if _ rfl rfl (fun h_t36 => ?_) (fun h_t36 => ?_)
            | refine ok_cond rfl rfl (fun h_t36 => ?_) (fun h_t36 => ?_)
          · refine ok_reg ?_
            first
              | refine s1 rfl (lop_load_rf_agg (ys := [_, _, _]) rfl rfl Try.isAgg26 Try.sizeOf26 (Nat.le_of_ble_eq_true rfl) rfl) ?_
              | refine s1 rfl (lop_load_fp_agg (ys := [_, _, _]) rfl Try.isAgg26 Try.sizeOf26 (Nat.le_of_ble_eq_true rfl) rfl) ?_
            first
              | refine s1 rfl (lop_load_rf_agg (ys := [.int _ _, .int _ _, .int _ _, .str _, .int _ _, .int _ _, .int _ _, .int _ _, .int _ _, .int _ _, .int _ _, _]) rfl rfl Try.isAgg30 Try.sizeOf30 (Nat.le_of_ble_eq_true rfl) rfl) ?_
              | refine s1 rfl (lop_load_fp_agg (ys := [.int _ _, .int _ _, .int _ _, .str _, .int _ _, .int _ _, .int _ _, .int _ _, .int _ _, .int _ _, .int _ _, _]) rfl Try.isAgg30 Try.sizeOf30 (Nat.le_of_ble_eq_true rfl) rfl) ?_
            refine s1 rfl (lop_call rfl Try.call45 (FrzL.tf rfl) (.inl rfl) (get_ac hx hm)) ?_
            refine s1 rfl (lop_extract rfl rfl) ?_
            refine s1 rfl (lop_extract rfl rfl) ?_
            first
              | refine s0w rfl (lop_storeK (v := .agg [_, _, _]) (cs' := [_, _, _]) (f' := true) rfl rfl rfl Try.sizeOf26 rfl rfl rfl rfl rfl) ?_
              | refine s0w rfl (lop_storeK (v := .agg [_, _, _]) (cs' := [_, _, _]) (f' := false) rfl rfl rfl Try.sizeOf26 rfl rfl rfl rfl rfl) ?_
            first
              | refine s0w rfl (lop_storeK (v := .agg [.int _ _, .int _ _, .int _ _, .int _ _, .int _ _, .bool _]) (cs' := [.int _ _, .int _ _, .int _ _, .int _ _, .int _ _, .bool _]) (f' := true) rfl rfl rfl Try.sizeOf35 rfl rfl rfl rfl rfl) ?_
              | refine s0w rfl (lop_storeK (v := .agg [.int _ _, .int _ _, .int _ _, .int _ _, .int _ _, .bool _]) (cs' := [.int _ _, .int _ _, .int _ _, .int _ _, .int _ _, .bool _]) (f' := false) rfl rfl rfl Try.sizeOf35 rfl rfl rfl rfl rfl) ?_
            refine ops_nil ?_
            refine ok_ret ?_
            rw [show doesF x c = getF x c by unfold doesF; rw [if_neg h_t8, if_neg h_t15, if_neg h_t22, if_neg h_t29, if_pos h_t36]]
            exact ret_gen (R := [4, 5]) ⟨_, _, rfl, ⟨rfl, 4, 0, _, _, rfl, rfl, .inl ⟨3, Try.isAgg26, Try.sizeOf26, Nat.le_of_ble_eq_true rfl, rfl⟩⟩, _, _, rfl, ⟨rfl, 5, 0, _, _, rfl, rfl, .inl ⟨6, Try.isAgg35, Try.sizeOf35, Nat.le_of_ble_eq_true rfl, rfl⟩⟩, rfl⟩ (.tup (.cons (.agg (FrzL.tf rfl)) (.cons (.agg (FrzL.tf rfl)) .nil))) (fun t ht => by simp at ht; rcases ht with rfl | rfl <;> exact Option.some_ne_none _)
          · refine ok_reg ?_
            refine s1 rfl (lop_eql rfl rfl) ?_
            refine s1 rfl (lop_assign (v := .bool _) rfl) ?_
            refine ops_nil ?_
            first
              | refine ok_if _ rfl rfl (fun h_t43 => ?_) (fun h_t43 => ?_)
              | refine ok_cond rfl rfl (fun h_t43 => ?_) (fun h_t43 => ?_)
            · refine ok_reg ?_
              first
                | refine s1 rfl (lop_load_rf_agg (ys := [_, _, _]) rfl rfl Try.isAgg26 Try.sizeOf26 (Nat.le_of_ble_eq_true rfl) rfl) ?_
                | refine s1 rfl (lop_load_fp_agg (ys := [_, _, _]) rfl Try.isAgg26 Try.sizeOf26 (Nat.le_of_ble_eq_true rfl) rfl) ?_
              first
                | refine s1 rfl (lop_load_rf_agg (ys := [.int _ _, .int _ _, .int _ _, .str _, .int _ _, .int _ _, .int _ _, .int _ _, .int _ _, .int _ _, .int _ _, _]) rfl rfl Try.isAgg30 Try.sizeOf30 (Nat.le_of_ble_eq_true rfl) rfl) ?_
                | refine s1 rfl (lop_load_fp_agg (ys := [.int _ _, .int _ _, .int _ _, .str _, .int _ _, .int _ _, .int _ _, .int _ _, .int _ _, .int _ _, .int _ _, _]) rfl Try.isAgg30 Try.sizeOf30 (Nat.le_of_ble_eq_true rfl) rfl) ?_
              refine s1 rfl (lop_call rfl Try.call46 (FrzL.tf rfl) (.inl rfl) (lock_ac hx hm)) ?_
              refine s1 rfl (lop_extract rfl rfl) ?_
              refine s1 rfl (lop_extract rfl rfl) ?_
              first
                | refine s0w rfl (lop_storeK (v := .agg [_, _, _]) (cs' := [_, _, _]) (f' := true) rfl rfl rfl Try.sizeOf26 rfl rfl rfl rfl rfl) ?_
                | refine s0w rfl (lop_storeK (v := .agg [_, _, _]) (cs' := [_, _, _]) (f' := false) rfl rfl rfl Try.sizeOf26 rfl rfl rfl rfl rfl) ?_
              first
                | refine s0w rfl (lop_storeK (v := .agg [.int _ _, .int _ _, .int _ _, .int _ _, .int _ _, .bool _]) (cs' := [.int _ _, .int _ _, .int _ _, .int _ _, .int _ _, .bool _]) (f' := true) rfl rfl rfl Try.sizeOf35 rfl rfl rfl rfl rfl) ?_
                | refine s0w rfl (lop_storeK (v := .agg [.int _ _, .int _ _, .int _ _, .int _ _, .int _ _, .bool _]) (cs' := [.int _ _, .int _ _, .int _ _, .int _ _, .int _ _, .bool _]) (f' := false) rfl rfl rfl Try.sizeOf35 rfl rfl rfl rfl rfl) ?_
              refine ops_nil ?_
              refine ok_ret ?_
              rw [show doesF x c = lockF x c by unfold doesF; rw [if_neg h_t8, if_neg h_t15, if_neg h_t22, if_neg h_t29, if_neg h_t36, if_pos h_t43]]
              exact ret_gen (R := [4, 5]) ⟨_, _, rfl, ⟨rfl, 4, 0, _, _, rfl, rfl, .inl ⟨3, Try.isAgg26, Try.sizeOf26, Nat.le_of_ble_eq_true rfl, rfl⟩⟩, _, _, rfl, ⟨rfl, 5, 0, _, _, rfl, rfl, .inl ⟨6, Try.isAgg35, Try.sizeOf35, Nat.le_of_ble_eq_true rfl, rfl⟩⟩, rfl⟩ (.tup (.cons (.agg (FrzL.tf rfl)) (.cons (.agg (FrzL.tf rfl)) .nil))) (fun t ht => by simp at ht; rcases ht with rfl | rfl <;> exact Option.some_ne_none _)
            · refine ok_reg ?_
              refine s1 rfl (lop_eql rfl rfl) ?_
              refine s1 rfl (lop_assign (v := .bool _) rfl) ?_
              refine ops_nil ?_
              first
                | refine ok_if _ rfl rfl (fun h_t50 => ?_) (fun h_t50 => ?_)
                | refine ok_cond rfl rfl (fun h_t50 => ?_) (fun h_t50 => ?_)
              · refine ok_reg ?_
                first
                  | refine s1 rfl (lop_load_rf_agg (ys := [_, _, _]) rfl rfl Try.isAgg26 Try.sizeOf26 (Nat.le_of_ble_eq_true rfl) rfl) ?_
                  | refine s1 rfl (lop_load_fp_agg (ys := [_, _, _]) rfl Try.isAgg26 Try.sizeOf26 (Nat.le_of_ble_eq_true rfl) rfl) ?_
                first
                  | refine s1 rfl (lop_load_rf_agg (ys := [.int _ _, .int _ _, .int _ _, .str _, .int _ _, .int _ _, .int _ _, .int _ _, .int _ _, .int _ _, .int _ _, _]) rfl rfl Try.isAgg30 Try.sizeOf30 (Nat.le_of_ble_eq_true rfl) rfl) ?_
                  | refine s1 rfl (lop_load_fp_agg (ys := [.int _ _, .int _ _, .int _ _, .str _, .int _ _, .int _ _, .int _ _, .int _ _, .int _ _, .int _ _, .int _ _, _]) rfl Try.isAgg30 Try.sizeOf30 (Nat.le_of_ble_eq_true rfl) rfl) ?_
                refine s1 rfl (lop_call rfl Try.call47 (FrzL.tf rfl) (.inl rfl) (seal_ac hx hm)) ?_
                refine s1 rfl (lop_extract rfl rfl) ?_
                refine s1 rfl (lop_extract rfl rfl) ?_
                first
                  | refine s0w rfl (lop_storeK (v := .agg [_, _, _]) (cs' := [_, _, _]) (f' := true) rfl rfl rfl Try.sizeOf26 rfl rfl rfl rfl rfl) ?_
                  | refine s0w rfl (lop_storeK (v := .agg [_, _, _]) (cs' := [_, _, _]) (f' := false) rfl rfl rfl Try.sizeOf26 rfl rfl rfl rfl rfl) ?_
                first
                  | refine s0w rfl (lop_storeK (v := .agg [.int _ _, .int _ _, .int _ _, .int _ _, .int _ _, .bool _]) (cs' := [.int _ _, .int _ _, .int _ _, .int _ _, .int _ _, .bool _]) (f' := true) rfl rfl rfl Try.sizeOf35 rfl rfl rfl rfl rfl) ?_
                  | refine s0w rfl (lop_storeK (v := .agg [.int _ _, .int _ _, .int _ _, .int _ _, .int _ _, .bool _]) (cs' := [.int _ _, .int _ _, .int _ _, .int _ _, .int _ _, .bool _]) (f' := false) rfl rfl rfl Try.sizeOf35 rfl rfl rfl rfl rfl) ?_
                refine ops_nil ?_
                refine ok_ret ?_
                rw [show doesF x c = sealF x c by unfold doesF; rw [if_neg h_t8, if_neg h_t15, if_neg h_t22, if_neg h_t29, if_neg h_t36, if_neg h_t43, if_pos h_t50]]
                exact ret_gen (R := [4, 5]) ⟨_, _, rfl, ⟨rfl, 4, 0, _, _, rfl, rfl, .inl ⟨3, Try.isAgg26, Try.sizeOf26, Nat.le_of_ble_eq_true rfl, rfl⟩⟩, _, _, rfl, ⟨rfl, 5, 0, _, _, rfl, rfl, .inl ⟨6, Try.isAgg35, Try.sizeOf35, Nat.le_of_ble_eq_true rfl, rfl⟩⟩, rfl⟩ (.tup (.cons (.agg (FrzL.tf rfl)) (.cons (.agg (FrzL.tf rfl)) .nil))) (fun t ht => by simp at ht; rcases ht with rfl | rfl <;> exact Option.some_ne_none _)
              · refine ok_reg ?_
                refine s1 rfl (lop_eql rfl rfl) ?_
                refine s1 rfl (lop_assign (v := .bool _) rfl) ?_
                refine ops_nil ?_
                first
                  | refine ok_if _ rfl rfl (fun h_t57 => ?_) (fun h_t57 => ?_)
                  | refine ok_cond rfl rfl (fun h_t57 => ?_) (fun h_t57 => ?_)
                · refine ok_reg ?_
                  first
                    | refine s1 rfl (lop_load_rf_agg (ys := [_, _, _]) rfl rfl Try.isAgg26 Try.sizeOf26 (Nat.le_of_ble_eq_true rfl) rfl) ?_
                    | refine s1 rfl (lop_load_fp_agg (ys := [_, _, _]) rfl Try.isAgg26 Try.sizeOf26 (Nat.le_of_ble_eq_true rfl) rfl) ?_
                  first
                    | refine s1 rfl (lop_load_rf_agg (ys := [.int _ _, .int _ _, .int _ _, .str _, .int _ _, .int _ _, .int _ _, .int _ _, .int _ _, .int _ _, .int _ _, _]) rfl rfl Try.isAgg30 Try.sizeOf30 (Nat.le_of_ble_eq_true rfl) rfl) ?_
                    | refine s1 rfl (lop_load_fp_agg (ys := [.int _ _, .int _ _, .int _ _, .str _, .int _ _, .int _ _, .int _ _, .int _ _, .int _ _, .int _ _, .int _ _, _]) rfl Try.isAgg30 Try.sizeOf30 (Nat.le_of_ble_eq_true rfl) rfl) ?_
                  refine s1 rfl (lop_call rfl Try.call48 (FrzL.tf rfl) (.inl rfl) (pair_ac hx hm)) ?_
                  refine s1 rfl (lop_extract rfl rfl) ?_
                  refine s1 rfl (lop_extract rfl rfl) ?_
                  first
                    | refine s0w rfl (lop_storeK (v := .agg [_, _, _]) (cs' := [_, _, _]) (f' := true) rfl rfl rfl Try.sizeOf26 rfl rfl rfl rfl rfl) ?_
                    | refine s0w rfl (lop_storeK (v := .agg [_, _, _]) (cs' := [_, _, _]) (f' := false) rfl rfl rfl Try.sizeOf26 rfl rfl rfl rfl rfl) ?_
                  first
                    | refine s0w rfl (lop_storeK (v := .agg [.int _ _, .int _ _, .int _ _, .int _ _, .int _ _, .bool _]) (cs' := [.int _ _, .int _ _, .int _ _, .int _ _, .int _ _, .bool _]) (f' := true) rfl rfl rfl Try.sizeOf35 rfl rfl rfl rfl rfl) ?_
                    | refine s0w rfl (lop_storeK (v := .agg [.int _ _, .int _ _, .int _ _, .int _ _, .int _ _, .bool _]) (cs' := [.int _ _, .int _ _, .int _ _, .int _ _, .int _ _, .bool _]) (f' := false) rfl rfl rfl Try.sizeOf35 rfl rfl rfl rfl rfl) ?_
                  refine ops_nil ?_
                  refine ok_ret ?_
                  rw [show doesF x c = pairF x c by unfold doesF; rw [if_neg h_t8, if_neg h_t15, if_neg h_t22, if_neg h_t29, if_neg h_t36, if_neg h_t43, if_neg h_t50, if_pos h_t57]]
                  exact ret_gen (R := [4, 5]) ⟨_, _, rfl, ⟨rfl, 4, 0, _, _, rfl, rfl, .inl ⟨3, Try.isAgg26, Try.sizeOf26, Nat.le_of_ble_eq_true rfl, rfl⟩⟩, _, _, rfl, ⟨rfl, 5, 0, _, _, rfl, rfl, .inl ⟨6, Try.isAgg35, Try.sizeOf35, Nat.le_of_ble_eq_true rfl, rfl⟩⟩, rfl⟩ (.tup (.cons (.agg (FrzL.tf rfl)) (.cons (.agg (FrzL.tf rfl)) .nil))) (fun t ht => by simp at ht; rcases ht with rfl | rfl <;> exact Option.some_ne_none _)
                · refine ok_skip ?_
                  refine ok_reg ?_
                  first
                    | refine s1 rfl (lop_load_rf_agg (ys := [_, _, _]) rfl rfl Try.isAgg26 Try.sizeOf26 (Nat.le_of_ble_eq_true rfl) rfl) ?_
                    | refine s1 rfl (lop_load_fp_agg (ys := [_, _, _]) rfl Try.isAgg26 Try.sizeOf26 (Nat.le_of_ble_eq_true rfl) rfl) ?_
                  first
                    | refine s1 rfl (lop_load_rf_agg (ys := [.int _ _, .int _ _, .int _ _, .str _, .int _ _, .int _ _, .int _ _, .int _ _, .int _ _, .int _ _, .int _ _, _]) rfl rfl Try.isAgg30 Try.sizeOf30 (Nat.le_of_ble_eq_true rfl) rfl) ?_
                    | refine s1 rfl (lop_load_fp_agg (ys := [.int _ _, .int _ _, .int _ _, .str _, .int _ _, .int _ _, .int _ _, .int _ _, .int _ _, .int _ _, .int _ _, _]) rfl Try.isAgg30 Try.sizeOf30 (Nat.le_of_ble_eq_true rfl) rfl) ?_
                  refine s1 rfl (lop_call rfl Try.call49 (FrzL.tf rfl) (.inl rfl) (move_ac hx hm)) ?_
                  refine s1 rfl (lop_extract rfl rfl) ?_
                  refine s1 rfl (lop_extract rfl rfl) ?_
                  first
                    | refine s0w rfl (lop_storeK (v := .agg [_, _, _]) (cs' := [_, _, _]) (f' := true) rfl rfl rfl Try.sizeOf26 rfl rfl rfl rfl rfl) ?_
                    | refine s0w rfl (lop_storeK (v := .agg [_, _, _]) (cs' := [_, _, _]) (f' := false) rfl rfl rfl Try.sizeOf26 rfl rfl rfl rfl rfl) ?_
                  first
                    | refine s0w rfl (lop_storeK (v := .agg [.int _ _, .int _ _, .int _ _, .int _ _, .int _ _, .bool _]) (cs' := [.int _ _, .int _ _, .int _ _, .int _ _, .int _ _, .bool _]) (f' := true) rfl rfl rfl Try.sizeOf35 rfl rfl rfl rfl rfl) ?_
                    | refine s0w rfl (lop_storeK (v := .agg [.int _ _, .int _ _, .int _ _, .int _ _, .int _ _, .bool _]) (cs' := [.int _ _, .int _ _, .int _ _, .int _ _, .int _ _, .bool _]) (f' := false) rfl rfl rfl Try.sizeOf35 rfl rfl rfl rfl rfl) ?_
                  refine ops_nil ?_
                  refine ok_ret ?_
                  rw [show doesF x c = moveF x c by unfold doesF; rw [if_neg h_t8, if_neg h_t15, if_neg h_t22, if_neg h_t29, if_neg h_t36, if_neg h_t43, if_neg h_t50, if_neg h_t57]]
                  exact ret_gen (R := [4, 5]) ⟨_, _, rfl, ⟨rfl, 4, 0, _, _, rfl, rfl, .inl ⟨3, Try.isAgg26, Try.sizeOf26, Nat.le_of_ble_eq_true rfl, rfl⟩⟩, _, _, rfl, ⟨rfl, 5, 0, _, _, rfl, rfl, .inl ⟨6, Try.isAgg35, Try.sizeOf35, Nat.le_of_ble_eq_true rfl, rfl⟩⟩, rfl⟩ (.tup (.cons (.agg (FrzL.tf rfl)) (.cons (.agg (FrzL.tf rfl)) .nil))) (fun t ht => by simp at ht; rcases ht with rfl | rfl <;> exact Option.some_ne_none _)

end Go.Proofs
