/- Chapter 15: walks. Printed by gen.py. -/
import Derived.Test.YtajlkpogccbboaaT15i
set_option linter.unusedVariables false
set_option linter.unusedSimpArgs false
set_option maxRecDepth 100000
namespace Go.Proofs
open Go.Hg

theorem setL_len0 {α : Type} {l : List α} {i : Int} {x : α} (h : 0 ≤ i) : (setL l i x).length = l.length := by
  unfold setL
  rw [if_neg (by omega), List.length_set]

set_option maxHeartbeats 4000000 in
theorem pair_ac {x : IdxD} (hx : Fit 549755000000 x) {c : CmdD} (hm : May c) : AC Try.prog 48 [.agg x.enc, .agg c.enc] (.tup [.agg (pairF x c).1.enc, .agg (pairF x c).2.enc]) := by
  have hxv := hx.vols
  refine AC.intro Try.func48 rfl (Nat.le_of_ble_eq_true rfl) ?_
  refine ok_reg ?_
  first
    | refine s1w rfl (lop_box (t := 2) (v := .agg [_, _, _]) (f := true) (cs := [_, _, _]) rfl rfl rfl rfl (fun h => by cases h)) rfl ?_
    | refine s1w rfl (lop_box (t := 2) (v := .agg [_, _, _]) (f := false) (cs := [_, _, _]) rfl rfl rfl rfl (fun _ => rfl)) rfl ?_
  first
    | refine s1w rfl (lop_box (t := 3) (v := .agg [.int _ _, .int _ _, .int _ _, .str _, .int _ _, .int _ _, .int _ _, .int _ _, .int _ _, .int _ _, .int _ _, _]) (f := true) (cs := [.int _ _, .int _ _, .int _ _, .str _, .int _ _, .int _ _, .int _ _, .int _ _, .int _ _, .int _ _, .int _ _, _]) rfl rfl rfl rfl (fun h => by cases h)) rfl ?_
    | refine s1w rfl (lop_box (t := 3) (v := .agg [.int _ _, .int _ _, .int _ _, .str _, .int _ _, .int _ _, .int _ _, .int _ _, .int _ _, .int _ _, .int _ _, _]) (f := false) (cs := [.int _ _, .int _ _, .int _ _, .str _, .int _ _, .int _ _, .int _ _, .int _ _, .int _ _, .int _ _, .int _ _, _]) rfl rfl rfl rfl (fun _ => rfl)) rfl ?_
  refine s1w rfl (lop_new (t := 4) (cs := [.z0, .z0, .z0]) Try.zeroValue26 rfl rfl rfl rfl) rfl ?_
  refine s1w rfl (lop_new (t := 5) (cs := [.int _ _, .int _ _, .int _ _, .int _ _, .int _ _, .bool _]) Try.zeroValue35 rfl rfl rfl rfl) rfl ?_
  refine ops_nil ?_
  refine ok_reg ?_
  first
    | refine s1 rfl (lop_load_rf_agg (ys := [_, _, _]) rfl rfl Try.isAgg26 Try.sizeOf26 (Nat.le_of_ble_eq_true rfl) rfl) ?_
    | refine s1 rfl (lop_load_fp_agg (ys := [_, _, _]) rfl Try.isAgg26 Try.sizeOf26 (Nat.le_of_ble_eq_true rfl) rfl) ?_
  first
    | refine s1 rfl (lop_fieldAddr_rf (fo := 4) rfl Try.underlying30 rfl rfl Try.sizeOf3 (by decide)) ?_
    | refine s1 rfl (lop_fieldAddr_fp (fo := 4) rfl Try.underlying30 rfl rfl Try.sizeOf3 (by decide) rfl) ?_
  first
    | refine s1 rfl (lop_load_rf rfl rfl Try.isAgg3 rfl) ?_
    | refine s1 rfl (lop_load_fp rfl Try.isAgg3 rfl) ?_
  refine s1 rfl (lop_call rfl Try.call30 (FrzL.tf rfl) (.inl rfl) (index_vol_ac x (by omega) c.vol)) ?_
  refine s1 rfl (lop_move (v := .tup _) rfl) ?_
  refine s1 rfl (lop_extract rfl rfl) ?_
  refine s1 rfl (lop_extract rfl rfl) ?_
  refine s1w rfl (lop_new (t := 6) (cs := [.int _ _, .int _ _, .int _ _, .int _ _, .int _ _, .z0, .z0, .int _ _, .int _ _]) Try.zeroValue50 rfl rfl rfl rfl) rfl ?_
  first
    | refine s0w rfl (lop_storeK (v := .agg [.int _ _, .int _ _, .int _ _, .int _ _, .int _ _, _, _, .int _ _, .int _ _]) (cs' := [.int _ _, .int _ _, .int _ _, .int _ _, .int _ _, _, _, .int _ _, .int _ _]) (f' := true) rfl rfl rfl Try.sizeOf50 rfl rfl rfl rfl rfl) ?_
    | refine s0w rfl (lop_storeK (v := .agg [.int _ _, .int _ _, .int _ _, .int _ _, .int _ _, _, _, .int _ _, .int _ _]) (cs' := [.int _ _, .int _ _, .int _ _, .int _ _, .int _ _, _, _, .int _ _, .int _ _]) (f' := false) rfl rfl rfl Try.sizeOf50 rfl rfl rfl rfl rfl) ?_
  refine s1 rfl (lop_assign (v := .int _ _) rfl) ?_
  refine ops_nil ?_
  refine ok_reg ?_
  first
    | refine s1 rfl (lop_load_rf_agg (ys := [_, _, _]) rfl rfl Try.isAgg26 Try.sizeOf26 (Nat.le_of_ble_eq_true rfl) rfl) ?_
    | refine s1 rfl (lop_load_fp_agg (ys := [_, _, _]) rfl Try.isAgg26 Try.sizeOf26 (Nat.le_of_ble_eq_true rfl) rfl) ?_
  first
    | refine s1 rfl (lop_fieldAddr_rf (fo := 9) rfl Try.underlying30 rfl rfl Try.sizeOf3 (by decide)) ?_
    | refine s1 rfl (lop_fieldAddr_fp (fo := 9) rfl Try.underlying30 rfl rfl Try.sizeOf3 (by decide) rfl) ?_
  first
    | refine s1 rfl (lop_load_rf rfl rfl Try.isAgg3 rfl) ?_
    | refine s1 rfl (lop_load_fp rfl Try.isAgg3 rfl) ?_
  refine s1 rfl (lop_call rfl Try.call30 (FrzL.tf rfl) (.inl rfl) (index_vol_ac x (by omega) c.mate)) ?_
  refine s1 rfl (lop_move (v := .tup _) rfl) ?_
  refine s1 rfl (lop_extract rfl rfl) ?_
  refine s1 rfl (lop_extract rfl rfl) ?_
  refine s1w rfl (lop_new (t := 8) (cs := [.int _ _, .int _ _, .int _ _, .int _ _, .int _ _, .z0, .z0, .int _ _, .int _ _]) Try.zeroValue50 rfl rfl rfl rfl) rfl ?_
  first
    | refine s0w rfl (lop_storeK (v := .agg [.int _ _, .int _ _, .int _ _, .int _ _, .int _ _, _, _, .int _ _, .int _ _]) (cs' := [.int _ _, .int _ _, .int _ _, .int _ _, .int _ _, _, _, .int _ _, .int _ _]) (f' := true) rfl rfl rfl Try.sizeOf50 rfl rfl rfl rfl rfl) ?_
    | refine s0w rfl (lop_storeK (v := .agg [.int _ _, .int _ _, .int _ _, .int _ _, .int _ _, _, _, .int _ _, .int _ _]) (cs' := [.int _ _, .int _ _, .int _ _, .int _ _, .int _ _, _, _, .int _ _, .int _ _]) (f' := false) rfl rfl rfl Try.sizeOf50 rfl rfl rfl rfl rfl) ?_
  refine s1 rfl (lop_assign (v := .int _ _) rfl) ?_
  refine ops_nil ?_
  refine ok_seq ?_
  refine ok_reg ?_
  refine s1 rfl (lop_move (v := .int _ _) rfl) ?_
  refine s1 rfl (lop_lss rfl rfl) ?_
  refine s1 rfl (lop_move (v := .bool _) rfl) ?_
  first
    | refine gsplitP 2 rfl rfl (fun g3_2 p3_2 => ?_) (fun g3_2 p3_2 => ?_)
    | refine gsplitB 2 rfl rfl (fun g3_2 p3_2 => ?_) (fun g3_2 p3_2 => ?_)
  · refine n1 rfl rfl g3_2 ?_
    refine n1 rfl rfl g3_2 ?_
    first
      | refine s1 rfl (lop_pick_t (v := .bool _) rfl g3_2 rfl) ?_
      | refine s1 rfl (lop_pick_t (v := .bool _) rfl rfl rfl) ?_
      | refine s1 rfl (lop_pick_f (v := .bool _) rfl rfl rfl) ?_
      | refine s1 rfl (lop_pick rfl rfl rfl) ?_
    refine ops_nil ?_
    refine ok_true rfl rfl ?_
    refine ok_drw Try.mixed ?_
    first
      | refine d1 rfl rfl (lop_load_rf_agg (ys := [_, _, _]) rfl rfl Try.isAgg26 Try.sizeOf26 (Nat.le_of_ble_eq_true rfl) rfl) ?_
      | refine d1 rfl rfl (lop_load_fp_agg (ys := [_, _, _]) rfl Try.isAgg26 Try.sizeOf26 (Nat.le_of_ble_eq_true rfl) rfl) ?_
    refine d1 rfl rfl (lop_call rfl Try.call23 (FrzL.tf rfl) (.inl rfl) (no_ac 7)) ?_
    first
      | refine d0w rfl rfl (lop_storeK (v := .agg [_, _, _]) (cs' := [_, _, _]) (f' := true) rfl rfl rfl Try.sizeOf26 rfl rfl rfl rfl rfl) ?_
      | refine d0w rfl rfl (lop_storeK (v := .agg [_, _, _]) (cs' := [_, _, _]) (f' := false) rfl rfl rfl Try.sizeOf26 rfl rfl rfl rfl rfl) ?_
    first
      | refine d0w rfl rfl (lop_storeK (v := .agg [.int _ _, .int _ _, .int _ _, .int _ _, .int _ _, .bool _]) (cs' := [.int _ _, .int _ _, .int _ _, .int _ _, .int _ _, .bool _]) (f' := true) rfl rfl rfl Try.sizeOf35 rfl rfl rfl rfl rfl) ?_
      | refine d0w rfl rfl (lop_storeK (v := .agg [.int _ _, .int _ _, .int _ _, .int _ _, .int _ _, .bool _]) (cs' := [.int _ _, .int _ _, .int _ _, .int _ _, .int _ _, .bool _]) (f' := false) rfl rfl rfl Try.sizeOf35 rfl rfl rfl rfl rfl) ?_
    refine dr_nil (by kernel_rfl) ?_
    refine ok_ret ?_
    rw [show pairF x c = (x, noR 7) by unfold pairF; rw [if_pos (by omega)]]
    exact ret_gen (R := [4, 5]) ⟨_, _, rfl, ⟨rfl, 4, 0, _, _, rfl, rfl, .inl ⟨3, Try.isAgg26, Try.sizeOf26, Nat.le_of_ble_eq_true rfl, rfl⟩⟩, _, _, rfl, ⟨rfl, 5, 0, _, _, rfl, rfl, .inl ⟨6, Try.isAgg35, Try.sizeOf35, Nat.le_of_ble_eq_true rfl, rfl⟩⟩, rfl⟩ (.tup (.cons (.agg (FrzL.tf rfl)) (.cons (.agg (FrzL.tf rfl)) .nil))) (fun t ht => by simp at ht; rcases ht with rfl | rfl <;> exact Option.some_ne_none _)
  · refine y1 rfl rfl g3_2 rfl (lop_move (v := .int _ _) rfl) ?_
    refine y1 rfl rfl g3_2 rfl (lop_lss rfl rfl) ?_
    first
      | refine s1 rfl (lop_pick_f (v := .bool _) rfl g3_2 rfl) ?_
      | refine s1 rfl (lop_pick_t (v := .bool _) rfl rfl rfl) ?_
      | refine s1 rfl (lop_pick_f (v := .bool _) rfl rfl rfl) ?_
      | refine s1 rfl (lop_pick rfl rfl rfl) ?_
    refine ops_nil ?_
    first
      | refine ok_if _ rfl rfl (fun h_t32 => ?_) (fun h_t32 => ?_)
      | refine ok_cond rfl rfl (fun h_t32 => ?_) (fun h_t32 => ?_)
    · refine ok_drw Try.mixed ?_
      first
        | refine d1 rfl rfl (lop_load_rf_agg (ys := [_, _, _]) rfl rfl Try.isAgg26 Try.sizeOf26 (Nat.le_of_ble_eq_true rfl) rfl) ?_
        | refine d1 rfl rfl (lop_load_fp_agg (ys := [_, _, _]) rfl Try.isAgg26 Try.sizeOf26 (Nat.le_of_ble_eq_true rfl) rfl) ?_
      refine d1 rfl rfl (lop_call rfl Try.call23 (FrzL.tf rfl) (.inl rfl) (no_ac 7)) ?_
      first
        | refine d0w rfl rfl (lop_storeK (v := .agg [_, _, _]) (cs' := [_, _, _]) (f' := true) rfl rfl rfl Try.sizeOf26 rfl rfl rfl rfl rfl) ?_
        | refine d0w rfl rfl (lop_storeK (v := .agg [_, _, _]) (cs' := [_, _, _]) (f' := false) rfl rfl rfl Try.sizeOf26 rfl rfl rfl rfl rfl) ?_
      first
        | refine d0w rfl rfl (lop_storeK (v := .agg [.int _ _, .int _ _, .int _ _, .int _ _, .int _ _, .bool _]) (cs' := [.int _ _, .int _ _, .int _ _, .int _ _, .int _ _, .bool _]) (f' := true) rfl rfl rfl Try.sizeOf35 rfl rfl rfl rfl rfl) ?_
        | refine d0w rfl rfl (lop_storeK (v := .agg [.int _ _, .int _ _, .int _ _, .int _ _, .int _ _, .bool _]) (cs' := [.int _ _, .int _ _, .int _ _, .int _ _, .int _ _, .bool _]) (f' := false) rfl rfl rfl Try.sizeOf35 rfl rfl rfl rfl rfl) ?_
      refine dr_nil (by kernel_rfl) ?_
      refine ok_ret ?_
      rw [show pairF x c = (x, noR 7) by unfold pairF; rw [if_pos (by omega)]]
      exact ret_gen (R := [4, 5]) ⟨_, _, rfl, ⟨rfl, 4, 0, _, _, rfl, rfl, .inl ⟨3, Try.isAgg26, Try.sizeOf26, Nat.le_of_ble_eq_true rfl, rfl⟩⟩, _, _, rfl, ⟨rfl, 5, 0, _, _, rfl, rfl, .inl ⟨6, Try.isAgg35, Try.sizeOf35, Nat.le_of_ble_eq_true rfl, rfl⟩⟩, rfl⟩ (.tup (.cons (.agg (FrzL.tf rfl)) (.cons (.agg (FrzL.tf rfl)) .nil))) (fun t ht => by simp at ht; rcases ht with rfl | rfl <;> exact Option.some_ne_none _)
    · have hva := volF_mem (show ¬ (volF x c.vol).2 < 0 by omega)
      have hvb := volF_mem (show ¬ (volF x c.mate).2 < 0 by omega)
      refine ok_skip ?_
      refine ok_reg ?_
      first
        | refine s1 rfl (lop_fieldAddr_rf (fo := 1) rfl Try.underlying50 rfl rfl Try.sizeOf3 (by decide)) ?_
        | refine s1 rfl (lop_fieldAddr_fp (fo := 1) rfl Try.underlying50 rfl rfl Try.sizeOf3 (by decide) rfl) ?_
      first
        | refine s1 rfl (lop_load_rf rfl rfl Try.isAgg3 rfl) ?_
        | refine s1 rfl (lop_load_fp rfl Try.isAgg3 rfl) ?_
      first
        | refine s1 rfl (lop_fieldAddr_rf (fo := 1) rfl Try.underlying50 rfl rfl Try.sizeOf3 (by decide)) ?_
        | refine s1 rfl (lop_fieldAddr_fp (fo := 1) rfl Try.underlying50 rfl rfl Try.sizeOf3 (by decide) rfl) ?_
      first
        | refine s1 rfl (lop_load_rf rfl rfl Try.isAgg3 rfl) ?_
        | refine s1 rfl (lop_load_fp rfl Try.isAgg3 rfl) ?_
      refine s1 rfl (lop_call rfl Try.call61 (FrzL.tf rfl) (.inl rfl) (site_Third_ac (volF x c.vol).1.home (volF x c.mate).1.home)) ?_
      refine s1 rfl (lop_move (v := .tup _) rfl) ?_
      refine s1 rfl (lop_extract rfl rfl) ?_
      refine s1 rfl (lop_extract rfl rfl) ?_
      refine s1 rfl (lop_assign (v := .int _ _) rfl) ?_
      refine s1 rfl (lop_assign (v := .int _ _) rfl) ?_
      refine ops_nil ?_
      refine ok_seq ?_
      refine ok_block ?_
      refine ok_reg ?_
      first
        | refine s1 rfl (lop_fieldAddr_rf (fo := 4) rfl Try.underlying50 rfl rfl Try.sizeOf3 (by decide)) ?_
        | refine s1 rfl (lop_fieldAddr_fp (fo := 4) rfl Try.underlying50 rfl rfl Try.sizeOf3 (by decide) rfl) ?_
      first
        | refine s1 rfl (lop_load_rf rfl rfl Try.isAgg3 rfl) ?_
        | refine s1 rfl (lop_load_fp rfl Try.isAgg3 rfl) ?_
      refine s1 rfl (lop_neq rfl rfl) ?_
      refine s1 rfl (lop_move (v := .bool _) rfl) ?_
      first
        | refine gsplitP 3 rfl rfl (fun g6_3 p6_3 => ?_) (fun g6_3 p6_3 => ?_)
        | refine gsplitB 3 rfl rfl (fun g6_3 p6_3 => ?_) (fun g6_3 p6_3 => ?_)
      · refine n1 rfl rfl g6_3 ?_
        refine n1 rfl rfl g6_3 ?_
        refine n1 rfl rfl g6_3 ?_
        first
          | refine s1 rfl (lop_pick_t (v := .bool _) rfl g6_3 rfl) ?_
          | refine s1 rfl (lop_pick_t (v := .bool _) rfl rfl rfl) ?_
          | refine s1 rfl (lop_pick_f (v := .bool _) rfl rfl rfl) ?_
          | refine s1 rfl (lop_pick rfl rfl rfl) ?_
        refine s1 rfl (lop_move (v := .bool _) rfl) ?_
        refine n1 rfl rfl rfl ?_
        refine n1 rfl rfl rfl ?_
        refine n1 rfl rfl rfl ?_
        refine n1 rfl rfl rfl ?_
        refine n1 rfl rfl rfl ?_
        first
          | refine s1 rfl (lop_pick_t (v := .bool _) rfl g6_3 rfl) ?_
          | refine s1 rfl (lop_pick_t (v := .bool _) rfl rfl rfl) ?_
          | refine s1 rfl (lop_pick_t (v := .bool _) rfl rfl rfl) ?_
          | refine s1 rfl (lop_pick_f (v := .bool _) rfl rfl rfl) ?_
          | refine s1 rfl (lop_pick rfl rfl rfl) ?_
        refine s1 rfl (lop_assign (v := .bool _) rfl) ?_
        refine ops_nil ?_
        refine ok_true rfl rfl ?_
        refine ok_drw Try.mixed ?_
        first
          | refine d1 rfl rfl (lop_load_rf_agg (ys := [_, _, _]) rfl rfl Try.isAgg26 Try.sizeOf26 (Nat.le_of_ble_eq_true rfl) rfl) ?_
          | refine d1 rfl rfl (lop_load_fp_agg (ys := [_, _, _]) rfl Try.isAgg26 Try.sizeOf26 (Nat.le_of_ble_eq_true rfl) rfl) ?_
        refine d1 rfl rfl (lop_call rfl Try.call23 (FrzL.tf rfl) (.inl rfl) (no_ac 9)) ?_
        first
          | refine d0w rfl rfl (lop_storeK (v := .agg [_, _, _]) (cs' := [_, _, _]) (f' := true) rfl rfl rfl Try.sizeOf26 rfl rfl rfl rfl rfl) ?_
          | refine d0w rfl rfl (lop_storeK (v := .agg [_, _, _]) (cs' := [_, _, _]) (f' := false) rfl rfl rfl Try.sizeOf26 rfl rfl rfl rfl rfl) ?_
        first
          | refine d0w rfl rfl (lop_storeK (v := .agg [.int _ _, .int _ _, .int _ _, .int _ _, .int _ _, .bool _]) (cs' := [.int _ _, .int _ _, .int _ _, .int _ _, .int _ _, .bool _]) (f' := true) rfl rfl rfl Try.sizeOf35 rfl rfl rfl rfl rfl) ?_
          | refine d0w rfl rfl (lop_storeK (v := .agg [.int _ _, .int _ _, .int _ _, .int _ _, .int _ _, .bool _]) (cs' := [.int _ _, .int _ _, .int _ _, .int _ _, .int _ _, .bool _]) (f' := false) rfl rfl rfl Try.sizeOf35 rfl rfl rfl rfl rfl) ?_
        refine dr_nil (by kernel_rfl) ?_
        refine ok_ret ?_
        rw [show pairF x c = (x, noR 9) by unfold pairF; rw [if_neg (by omega), if_pos (by omega)]]
        exact ret_gen (R := [4, 5]) ⟨_, _, rfl, ⟨rfl, 4, 0, _, _, rfl, rfl, .inl ⟨3, Try.isAgg26, Try.sizeOf26, Nat.le_of_ble_eq_true rfl, rfl⟩⟩, _, _, rfl, ⟨rfl, 5, 0, _, _, rfl, rfl, .inl ⟨6, Try.isAgg35, Try.sizeOf35, Nat.le_of_ble_eq_true rfl, rfl⟩⟩, rfl⟩ (.tup (.cons (.agg (FrzL.tf rfl)) (.cons (.agg (FrzL.tf rfl)) .nil))) (fun t ht => by simp at ht; rcases ht with rfl | rfl <;> exact Option.some_ne_none _)
      · first
          | refine y1 rfl rfl g6_3 rfl (lop_fieldAddr_rf (fo := 4) rfl Try.underlying50 rfl rfl Try.sizeOf3 (by decide)) ?_
          | refine y1 rfl rfl g6_3 rfl (lop_fieldAddr_fp (fo := 4) rfl Try.underlying50 rfl rfl Try.sizeOf3 (by decide) rfl) ?_
        first
          | refine y1 rfl rfl g6_3 rfl (lop_load_rf rfl rfl Try.isAgg3 rfl) ?_
          | refine y1 rfl rfl g6_3 rfl (lop_load_fp rfl Try.isAgg3 rfl) ?_
        refine y1 rfl rfl g6_3 rfl (lop_neq rfl rfl) ?_
        first
          | refine s1 rfl (lop_pick_f (v := .bool _) rfl g6_3 rfl) ?_
          | refine s1 rfl (lop_pick_t (v := .bool _) rfl rfl rfl) ?_
          | refine s1 rfl (lop_pick_f (v := .bool _) rfl rfl rfl) ?_
          | refine s1 rfl (lop_pick rfl rfl rfl) ?_
        refine s1 rfl (lop_move (v := .bool _) rfl) ?_
        first
          | refine gsplitP 8 rfl rfl (fun g6_8 p6_8 => ?_) (fun g6_8 p6_8 => ?_)
          | refine gsplitB 8 rfl rfl (fun g6_8 p6_8 => ?_) (fun g6_8 p6_8 => ?_)
        · refine n1 rfl rfl g6_8 ?_
          refine n1 rfl rfl g6_8 ?_
          refine n1 rfl rfl g6_8 ?_
          refine n1 rfl rfl g6_8 ?_
          refine n1 rfl rfl g6_8 ?_
          first
            | refine s1 rfl (lop_pick_f (v := .bool _) rfl g6_3 rfl) ?_
            | refine s1 rfl (lop_pick_t (v := .bool _) rfl g6_8 rfl) ?_
            | refine s1 rfl (lop_pick_t (v := .bool _) rfl rfl rfl) ?_
            | refine s1 rfl (lop_pick_f (v := .bool _) rfl rfl rfl) ?_
            | refine s1 rfl (lop_pick rfl rfl rfl) ?_
          refine s1 rfl (lop_assign (v := .bool _) rfl) ?_
          refine ops_nil ?_
          refine ok_true rfl rfl ?_
          refine ok_drw Try.mixed ?_
          first
            | refine d1 rfl rfl (lop_load_rf_agg (ys := [_, _, _]) rfl rfl Try.isAgg26 Try.sizeOf26 (Nat.le_of_ble_eq_true rfl) rfl) ?_
            | refine d1 rfl rfl (lop_load_fp_agg (ys := [_, _, _]) rfl Try.isAgg26 Try.sizeOf26 (Nat.le_of_ble_eq_true rfl) rfl) ?_
          refine d1 rfl rfl (lop_call rfl Try.call23 (FrzL.tf rfl) (.inl rfl) (no_ac 9)) ?_
          first
            | refine d0w rfl rfl (lop_storeK (v := .agg [_, _, _]) (cs' := [_, _, _]) (f' := true) rfl rfl rfl Try.sizeOf26 rfl rfl rfl rfl rfl) ?_
            | refine d0w rfl rfl (lop_storeK (v := .agg [_, _, _]) (cs' := [_, _, _]) (f' := false) rfl rfl rfl Try.sizeOf26 rfl rfl rfl rfl rfl) ?_
          first
            | refine d0w rfl rfl (lop_storeK (v := .agg [.int _ _, .int _ _, .int _ _, .int _ _, .int _ _, .bool _]) (cs' := [.int _ _, .int _ _, .int _ _, .int _ _, .int _ _, .bool _]) (f' := true) rfl rfl rfl Try.sizeOf35 rfl rfl rfl rfl rfl) ?_
            | refine d0w rfl rfl (lop_storeK (v := .agg [.int _ _, .int _ _, .int _ _, .int _ _, .int _ _, .bool _]) (cs' := [.int _ _, .int _ _, .int _ _, .int _ _, .int _ _, .bool _]) (f' := false) rfl rfl rfl Try.sizeOf35 rfl rfl rfl rfl rfl) ?_
          refine dr_nil (by kernel_rfl) ?_
          refine ok_ret ?_
          rw [show pairF x c = (x, noR 9) by unfold pairF; rw [if_neg (by omega), if_pos (by omega)]]
          exact ret_gen (R := [4, 5]) ⟨_, _, rfl, ⟨rfl, 4, 0, _, _, rfl, rfl, .inl ⟨3, Try.isAgg26, Try.sizeOf26, Nat.le_of_ble_eq_true rfl, rfl⟩⟩, _, _, rfl, ⟨rfl, 5, 0, _, _, rfl, rfl, .inl ⟨6, Try.isAgg35, Try.sizeOf35, Nat.le_of_ble_eq_true rfl, rfl⟩⟩, rfl⟩ (.tup (.cons (.agg (FrzL.tf rfl)) (.cons (.agg (FrzL.tf rfl)) .nil))) (fun t ht => by simp at ht; rcases ht with rfl | rfl <;> exact Option.some_ne_none _)
        · first
            | refine y1 rfl rfl g6_8 rfl (lop_fieldAddr_rf (fo := 1) rfl Try.underlying50 rfl rfl Try.sizeOf3 (by decide)) ?_
            | refine y1 rfl rfl g6_8 rfl (lop_fieldAddr_fp (fo := 1) rfl Try.underlying50 rfl rfl Try.sizeOf3 (by decide) rfl) ?_
          first
            | refine y1 rfl rfl g6_8 rfl (lop_load_rf rfl rfl Try.isAgg3 rfl) ?_
            | refine y1 rfl rfl g6_8 rfl (lop_load_fp rfl Try.isAgg3 rfl) ?_
          first
            | refine y1 rfl rfl g6_8 rfl (lop_fieldAddr_rf (fo := 1) rfl Try.underlying50 rfl rfl Try.sizeOf3 (by decide)) ?_
            | refine y1 rfl rfl g6_8 rfl (lop_fieldAddr_fp (fo := 1) rfl Try.underlying50 rfl rfl Try.sizeOf3 (by decide) rfl) ?_
          first
            | refine y1 rfl rfl g6_8 rfl (lop_load_rf rfl rfl Try.isAgg3 rfl) ?_
            | refine y1 rfl rfl g6_8 rfl (lop_load_fp rfl Try.isAgg3 rfl) ?_
          refine y1 rfl rfl g6_8 rfl (lop_eql rfl rfl) ?_
          first
            | refine s1 rfl (lop_pick_f (v := .bool _) rfl g6_3 rfl) ?_
            | refine s1 rfl (lop_pick_f (v := .bool _) rfl g6_8 rfl) ?_
            | refine s1 rfl (lop_pick_t (v := .bool _) rfl rfl rfl) ?_
            | refine s1 rfl (lop_pick_f (v := .bool _) rfl rfl rfl) ?_
            | refine s1 rfl (lop_pick rfl rfl rfl) ?_
          refine s1 rfl (lop_assign (v := .bool _) rfl) ?_
          refine ops_nil ?_
          first
            | refine ok_if _ rfl rfl (fun h_t43 => ?_) (fun h_t43 => ?_)
            | refine ok_cond rfl rfl (fun h_t43 => ?_) (fun h_t43 => ?_)
          · refine ok_drw Try.mixed ?_
            first
              | refine d1 rfl rfl (lop_load_rf_agg (ys := [_, _, _]) rfl rfl Try.isAgg26 Try.sizeOf26 (Nat.le_of_ble_eq_true rfl) rfl) ?_
              | refine d1 rfl rfl (lop_load_fp_agg (ys := [_, _, _]) rfl Try.isAgg26 Try.sizeOf26 (Nat.le_of_ble_eq_true rfl) rfl) ?_
            refine d1 rfl rfl (lop_call rfl Try.call23 (FrzL.tf rfl) (.inl rfl) (no_ac 9)) ?_
            first
              | refine d0w rfl rfl (lop_storeK (v := .agg [_, _, _]) (cs' := [_, _, _]) (f' := true) rfl rfl rfl Try.sizeOf26 rfl rfl rfl rfl rfl) ?_
              | refine d0w rfl rfl (lop_storeK (v := .agg [_, _, _]) (cs' := [_, _, _]) (f' := false) rfl rfl rfl Try.sizeOf26 rfl rfl rfl rfl rfl) ?_
            first
              | refine d0w rfl rfl (lop_storeK (v := .agg [.int _ _, .int _ _, .int _ _, .int _ _, .int _ _, .bool _]) (cs' := [.int _ _, .int _ _, .int _ _, .int _ _, .int _ _, .bool _]) (f' := true) rfl rfl rfl Try.sizeOf35 rfl rfl rfl rfl rfl) ?_
              | refine d0w rfl rfl (lop_storeK (v := .agg [.int _ _, .int _ _, .int _ _, .int _ _, .int _ _, .bool _]) (cs' := [.int _ _, .int _ _, .int _ _, .int _ _, .int _ _, .bool _]) (f' := false) rfl rfl rfl Try.sizeOf35 rfl rfl rfl rfl rfl) ?_
            refine dr_nil (by kernel_rfl) ?_
            refine ok_ret ?_
            rw [show pairF x c = (x, noR 9) by unfold pairF; rw [if_neg (by omega), if_pos (by omega)]]
            exact ret_gen (R := [4, 5]) ⟨_, _, rfl, ⟨rfl, 4, 0, _, _, rfl, rfl, .inl ⟨3, Try.isAgg26, Try.sizeOf26, Nat.le_of_ble_eq_true rfl, rfl⟩⟩, _, _, rfl, ⟨rfl, 5, 0, _, _, rfl, rfl, .inl ⟨6, Try.isAgg35, Try.sizeOf35, Nat.le_of_ble_eq_true rfl, rfl⟩⟩, rfl⟩ (.tup (.cons (.agg (FrzL.tf rfl)) (.cons (.agg (FrzL.tf rfl)) .nil))) (fun t ht => by simp at ht; rcases ht with rfl | rfl <;> exact Option.some_ne_none _)
          · refine ok_reg ?_
            refine s1 rfl (lop_move (v := .int _ _) rfl) ?_
            refine s1 rfl (lop_neq rfl rfl) ?_
            refine s1 rfl (lop_move (v := .bool _) rfl) ?_
            first
              | refine gsplitP 2 rfl rfl (fun g8_2 p8_2 => ?_) (fun g8_2 p8_2 => ?_)
              | refine gsplitB 2 rfl rfl (fun g8_2 p8_2 => ?_) (fun g8_2 p8_2 => ?_)
            · refine n1 rfl rfl g8_2 ?_
              refine n1 rfl rfl g8_2 ?_
              refine n1 rfl rfl g8_2 ?_
              refine n1 rfl rfl g8_2 ?_
              refine n1 rfl rfl g8_2 ?_
              first
                | refine s1 rfl (lop_pick_t (v := .bool _) rfl g8_2 rfl) ?_
                | refine s1 rfl (lop_pick_t (v := .bool _) rfl rfl rfl) ?_
                | refine s1 rfl (lop_pick_f (v := .bool _) rfl rfl rfl) ?_
                | refine s1 rfl (lop_pick rfl rfl rfl) ?_
              refine s1 rfl (lop_assign (v := .bool _) rfl) ?_
              refine ops_nil ?_
              refine ok_true rfl rfl ?_
              refine ok_drw Try.mixed ?_
              first
                | refine d1 rfl rfl (lop_load_rf_agg (ys := [_, _, _]) rfl rfl Try.isAgg26 Try.sizeOf26 (Nat.le_of_ble_eq_true rfl) rfl) ?_
                | refine d1 rfl rfl (lop_load_fp_agg (ys := [_, _, _]) rfl Try.isAgg26 Try.sizeOf26 (Nat.le_of_ble_eq_true rfl) rfl) ?_
              refine d1 rfl rfl (lop_call rfl Try.call23 (FrzL.tf rfl) (.inl rfl) (no_ac 1)) ?_
              first
                | refine d0w rfl rfl (lop_storeK (v := .agg [_, _, _]) (cs' := [_, _, _]) (f' := true) rfl rfl rfl Try.sizeOf26 rfl rfl rfl rfl rfl) ?_
                | refine d0w rfl rfl (lop_storeK (v := .agg [_, _, _]) (cs' := [_, _, _]) (f' := false) rfl rfl rfl Try.sizeOf26 rfl rfl rfl rfl rfl) ?_
              first
                | refine d0w rfl rfl (lop_storeK (v := .agg [.int _ _, .int _ _, .int _ _, .int _ _, .int _ _, .bool _]) (cs' := [.int _ _, .int _ _, .int _ _, .int _ _, .int _ _, .bool _]) (f' := true) rfl rfl rfl Try.sizeOf35 rfl rfl rfl rfl rfl) ?_
                | refine d0w rfl rfl (lop_storeK (v := .agg [.int _ _, .int _ _, .int _ _, .int _ _, .int _ _, .bool _]) (cs' := [.int _ _, .int _ _, .int _ _, .int _ _, .int _ _, .bool _]) (f' := false) rfl rfl rfl Try.sizeOf35 rfl rfl rfl rfl rfl) ?_
              refine dr_nil (by kernel_rfl) ?_
              refine ok_ret ?_
              rw [show pairF x c = (x, noR 1) by unfold pairF; rw [if_neg (by omega), if_neg (by omega), if_pos (.inl p8_2)]]
              exact ret_gen (R := [4, 5]) ⟨_, _, rfl, ⟨rfl, 4, 0, _, _, rfl, rfl, .inl ⟨3, Try.isAgg26, Try.sizeOf26, Nat.le_of_ble_eq_true rfl, rfl⟩⟩, _, _, rfl, ⟨rfl, 5, 0, _, _, rfl, rfl, .inl ⟨6, Try.isAgg35, Try.sizeOf35, Nat.le_of_ble_eq_true rfl, rfl⟩⟩, rfl⟩ (.tup (.cons (.agg (FrzL.tf rfl)) (.cons (.agg (FrzL.tf rfl)) .nil))) (fun t ht => by simp at ht; rcases ht with rfl | rfl <;> exact Option.some_ne_none _)
            · first
                | refine y1 rfl rfl g8_2 rfl (lop_fieldAddr_rf (fo := 11) rfl Try.underlying30 rfl rfl Try.sizeOf28 (by decide)) ?_
                | refine y1 rfl rfl g8_2 rfl (lop_fieldAddr_fp (fo := 11) rfl Try.underlying30 rfl rfl Try.sizeOf28 (by decide) rfl) ?_
              first
                | refine y1 rfl rfl g8_2 rfl (lop_load_rf rfl rfl Try.isAgg28 rfl) ?_
                | refine y1 rfl rfl g8_2 rfl (lop_load_fp rfl Try.isAgg28 rfl) ?_
              refine y1 rfl rfl g8_2 rfl (lop_move (v := .int _ _) rfl) ?_
              refine y1 rfl rfl g8_2 rfl (lop_call rfl Try.call69 (FrzL.tf rfl) (.inl rfl) (whole_ac (by have := hm.places; omega) (thirdF (volF x c.vol).1.home (volF x c.mate).1.home).1)) ?_
              refine y1 rfl rfl g8_2 rfl (lop_not rfl) ?_
              first
                | refine s1 rfl (lop_pick_f (v := .bool _) rfl g8_2 rfl) ?_
                | refine s1 rfl (lop_pick_t (v := .bool _) rfl rfl rfl) ?_
                | refine s1 rfl (lop_pick_f (v := .bool _) rfl rfl rfl) ?_
                | refine s1 rfl (lop_pick rfl rfl rfl) ?_
              refine s1 rfl (lop_assign (v := .bool _) rfl) ?_
              refine ops_nil ?_
              first
                | refine ok_if _ rfl rfl (fun h_t61 => ?_) (fun h_t61 => ?_)
                | refine ok_cond rfl rfl (fun h_t61 => ?_) (fun h_t61 => ?_)
              · refine ok_drw Try.mixed ?_
                first
                  | refine d1 rfl rfl (lop_load_rf_agg (ys := [_, _, _]) rfl rfl Try.isAgg26 Try.sizeOf26 (Nat.le_of_ble_eq_true rfl) rfl) ?_
                  | refine d1 rfl rfl (lop_load_fp_agg (ys := [_, _, _]) rfl Try.isAgg26 Try.sizeOf26 (Nat.le_of_ble_eq_true rfl) rfl) ?_
                refine d1 rfl rfl (lop_call rfl Try.call23 (FrzL.tf rfl) (.inl rfl) (no_ac 1)) ?_
                first
                  | refine d0w rfl rfl (lop_storeK (v := .agg [_, _, _]) (cs' := [_, _, _]) (f' := true) rfl rfl rfl Try.sizeOf26 rfl rfl rfl rfl rfl) ?_
                  | refine d0w rfl rfl (lop_storeK (v := .agg [_, _, _]) (cs' := [_, _, _]) (f' := false) rfl rfl rfl Try.sizeOf26 rfl rfl rfl rfl rfl) ?_
                first
                  | refine d0w rfl rfl (lop_storeK (v := .agg [.int _ _, .int _ _, .int _ _, .int _ _, .int _ _, .bool _]) (cs' := [.int _ _, .int _ _, .int _ _, .int _ _, .int _ _, .bool _]) (f' := true) rfl rfl rfl Try.sizeOf35 rfl rfl rfl rfl rfl) ?_
                  | refine d0w rfl rfl (lop_storeK (v := .agg [.int _ _, .int _ _, .int _ _, .int _ _, .int _ _, .bool _]) (cs' := [.int _ _, .int _ _, .int _ _, .int _ _, .int _ _, .bool _]) (f' := false) rfl rfl rfl Try.sizeOf35 rfl rfl rfl rfl rfl) ?_
                refine dr_nil (by kernel_rfl) ?_
                refine ok_ret ?_
                rw [show pairF x c = (x, noR 1) by unfold pairF; rw [if_neg (by omega), if_neg (by omega), if_pos (.inr (by simpa using h_t61))]]
                exact ret_gen (R := [4, 5]) ⟨_, _, rfl, ⟨rfl, 4, 0, _, _, rfl, rfl, .inl ⟨3, Try.isAgg26, Try.sizeOf26, Nat.le_of_ble_eq_true rfl, rfl⟩⟩, _, _, rfl, ⟨rfl, 5, 0, _, _, rfl, rfl, .inl ⟨6, Try.isAgg35, Try.sizeOf35, Nat.le_of_ble_eq_true rfl, rfl⟩⟩, rfl⟩ (.tup (.cons (.agg (FrzL.tf rfl)) (.cons (.agg (FrzL.tf rfl)) .nil))) (fun t ht => by simp at ht; rcases ht with rfl | rfl <;> exact Option.some_ne_none _)
              · refine ok_reg ?_
                first
                  | refine s1 rfl (lop_fieldAddr_rf (fo := 0) rfl Try.underlying26 rfl rfl Try.sizeOf22 (by decide)) ?_
                  | refine s1 rfl (lop_fieldAddr_fp (fo := 0) rfl Try.underlying26 rfl rfl Try.sizeOf22 (by decide) rfl) ?_
                first
                  | refine s1 rfl (lop_load_rf rfl rfl Try.isAgg22 rfl) ?_
                  | refine s1 rfl (lop_load_fp rfl Try.isAgg22 rfl) ?_
                refine s1 rfl (lop_len rfl Try.underlying22 ⟨⟨_, rfl⟩, rfl⟩) ?_
                refine s1 rfl (lop_geq rfl rfl) ?_
                refine s1 rfl (lop_assign (v := .bool _) rfl) ?_
                refine ops_nil ?_
                first
                  | refine ok_if _ rfl rfl (fun h_t73 => ?_) (fun h_t73 => ?_)
                  | refine ok_cond rfl rfl (fun h_t73 => ?_) (fun h_t73 => ?_)
                · refine ok_drw Try.mixed ?_
                  first
                    | refine d1 rfl rfl (lop_load_rf_agg (ys := [_, _, _]) rfl rfl Try.isAgg26 Try.sizeOf26 (Nat.le_of_ble_eq_true rfl) rfl) ?_
                    | refine d1 rfl rfl (lop_load_fp_agg (ys := [_, _, _]) rfl Try.isAgg26 Try.sizeOf26 (Nat.le_of_ble_eq_true rfl) rfl) ?_
                  refine d1 rfl rfl (lop_call rfl Try.call23 (FrzL.tf rfl) (.inl rfl) (no_ac 5)) ?_
                  first
                    | refine d0w rfl rfl (lop_storeK (v := .agg [_, _, _]) (cs' := [_, _, _]) (f' := true) rfl rfl rfl Try.sizeOf26 rfl rfl rfl rfl rfl) ?_
                    | refine d0w rfl rfl (lop_storeK (v := .agg [_, _, _]) (cs' := [_, _, _]) (f' := false) rfl rfl rfl Try.sizeOf26 rfl rfl rfl rfl rfl) ?_
                  first
                    | refine d0w rfl rfl (lop_storeK (v := .agg [.int _ _, .int _ _, .int _ _, .int _ _, .int _ _, .bool _]) (cs' := [.int _ _, .int _ _, .int _ _, .int _ _, .int _ _, .bool _]) (f' := true) rfl rfl rfl Try.sizeOf35 rfl rfl rfl rfl rfl) ?_
                    | refine d0w rfl rfl (lop_storeK (v := .agg [.int _ _, .int _ _, .int _ _, .int _ _, .int _ _, .bool _]) (cs' := [.int _ _, .int _ _, .int _ _, .int _ _, .int _ _, .bool _]) (f' := false) rfl rfl rfl Try.sizeOf35 rfl rfl rfl rfl rfl) ?_
                  refine dr_nil (by kernel_rfl) ?_
                  refine ok_ret ?_
                  rw [show pairF x c = (x, noR 5) by unfold pairF; rw [if_neg (by omega), if_neg (by omega), if_neg (fun h => h.elim p8_2 (by simpa using h_t61)), if_pos (by omega)]]
                  exact ret_gen (R := [4, 5]) ⟨_, _, rfl, ⟨rfl, 4, 0, _, _, rfl, rfl, .inl ⟨3, Try.isAgg26, Try.sizeOf26, Nat.le_of_ble_eq_true rfl, rfl⟩⟩, _, _, rfl, ⟨rfl, 5, 0, _, _, rfl, rfl, .inl ⟨6, Try.isAgg35, Try.sizeOf35, Nat.le_of_ble_eq_true rfl, rfl⟩⟩, rfl⟩ (.tup (.cons (.agg (FrzL.tf rfl)) (.cons (.agg (FrzL.tf rfl)) .nil))) (fun t ht => by simp at ht; rcases ht with rfl | rfl <;> exact Option.some_ne_none _)
                · obtain ⟨m1, hm1⟩ : ∃ m1, bop .mul .i64 64 (volF x c.vol).1.id = m1 := ⟨_, rfl⟩
                  obtain ⟨m2, hm2⟩ : ∃ m2, bop .add .i64 1000 m1 = m2 := ⟨_, rfl⟩
                  obtain ⟨sid, hs3⟩ : ∃ sid, bop .add .i64 m2 (volF x c.mate).1.id = sid := ⟨_, rfl⟩
                  have hsid : sumId (volF x c.vol).1.id (volF x c.mate).1.id = sid := by unfold sumId; rw [hm1, hm2, hs3]
                  refine ok_skip ?_
                  refine ok_reg ?_
                  first
                    | refine s1 rfl (lop_fieldAddr_rf (fo := 0) rfl Try.underlying50 rfl rfl Try.sizeOf3 (by decide)) ?_
                    | refine s1 rfl (lop_fieldAddr_fp (fo := 0) rfl Try.underlying50 rfl rfl Try.sizeOf3 (by decide) rfl) ?_
                  first
                    | refine s1 rfl (lop_load_rf rfl rfl Try.isAgg3 rfl) ?_
                    | refine s1 rfl (lop_load_fp rfl Try.isAgg3 rfl) ?_
                  refine s1 rfl (lop_bop rfl rfl rfl hm1) ?_
                  refine s1 rfl (lop_bop rfl rfl rfl hm2) ?_
                  first
                    | refine s1 rfl (lop_fieldAddr_rf (fo := 0) rfl Try.underlying50 rfl rfl Try.sizeOf3 (by decide)) ?_
                    | refine s1 rfl (lop_fieldAddr_fp (fo := 0) rfl Try.underlying50 rfl rfl Try.sizeOf3 (by decide) rfl) ?_
                  first
                    | refine s1 rfl (lop_load_rf rfl rfl Try.isAgg3 rfl) ?_
                    | refine s1 rfl (lop_load_fp rfl Try.isAgg3 rfl) ?_
                  refine s1 rfl (lop_bop rfl rfl rfl hs3) ?_
                  refine s1 rfl (lop_move (v := .int _ _) rfl) ?_
                  first
                    | refine s1 rfl (lop_fieldAddr_rf (fo := 11) rfl Try.underlying30 rfl rfl Try.sizeOf28 (by decide)) ?_
                    | refine s1 rfl (lop_fieldAddr_fp (fo := 11) rfl Try.underlying30 rfl rfl Try.sizeOf28 (by decide) rfl) ?_
                  first
                    | refine s1 rfl (lop_load_rf rfl rfl Try.isAgg28 rfl) ?_
                    | refine s1 rfl (lop_load_fp rfl Try.isAgg28 rfl) ?_
                  first
                    | refine s1 rfl (lop_fieldAddr_rf (fo := 0) rfl Try.underlying50 rfl rfl Try.sizeOf3 (by decide)) ?_
                    | refine s1 rfl (lop_fieldAddr_fp (fo := 0) rfl Try.underlying50 rfl rfl Try.sizeOf3 (by decide) rfl) ?_
                  first
                    | refine s1 rfl (lop_load_rf rfl rfl Try.isAgg3 rfl) ?_
                    | refine s1 rfl (lop_load_fp rfl Try.isAgg3 rfl) ?_
                  first
                    | refine s1 rfl (lop_fieldAddr_rf (fo := 0) rfl Try.underlying50 rfl rfl Try.sizeOf3 (by decide)) ?_
                    | refine s1 rfl (lop_fieldAddr_fp (fo := 0) rfl Try.underlying50 rfl rfl Try.sizeOf3 (by decide) rfl) ?_
                  first
                    | refine s1 rfl (lop_load_rf rfl rfl Try.isAgg3 rfl) ?_
                    | refine s1 rfl (lop_load_fp rfl Try.isAgg3 rfl) ?_
                  first
                    | refine s1 rfl (lop_buildK (cs := [.int _ _, .int _ _, .int _ _, .int _ _, .int _ _, .z0, .sl _ _, .int _ _, .int _ _]) Try.underlying50 Try.zeroValue50 rfl rfl places50 rfl) ?_
                    | refine s1 rfl (lop_buildK (cs := [.int _ _, .int _ _, .int _ _, .int _ _, .int _ _, .z0, .os _ _ _ _, .int _ _, .int _ _]) Try.underlying50 Try.zeroValue50 rfl rfl places50 rfl) ?_
                    | refine s1 rfl (lop_buildK (cs := [.int _ _, .int _ _, .int _ _, .int _ _, .int _ _, .z0, .z0, .int _ _, .int _ _]) Try.underlying50 Try.zeroValue50 rfl rfl places50 rfl) ?_
                  refine s1w rfl (lop_new (t := 12) (cs := [.int _ _, .int _ _, .int _ _, .int _ _, .int _ _, .z0, .z0, .int _ _, .int _ _]) Try.zeroValue50 rfl rfl rfl rfl) rfl ?_
                  first
                    | refine s0w rfl (lop_storeK (v := .agg [.int _ _, .int _ _, .int _ _, .int _ _, .int _ _, _, _, .int _ _, .int _ _]) (cs' := [.int _ _, .int _ _, .int _ _, .int _ _, .int _ _, _, _, .int _ _, .int _ _]) (f' := true) rfl rfl rfl Try.sizeOf50 rfl rfl rfl rfl rfl) ?_
                    | refine s0w rfl (lop_storeK (v := .agg [.int _ _, .int _ _, .int _ _, .int _ _, .int _ _, _, _, .int _ _, .int _ _]) (cs' := [.int _ _, .int _ _, .int _ _, .int _ _, .int _ _, _, _, .int _ _, .int _ _]) (f' := false) rfl rfl rfl Try.sizeOf50 rfl rfl rfl rfl rfl) ?_
                  refine ops_nil ?_
                  refine ok_drw Try.mixed ?_
                  first
                    | refine d1 rfl rfl (lop_fieldAddr_rf (fo := 0) rfl Try.underlying50 rfl rfl Try.sizeOf3 (by decide)) ?_
                    | refine d1 rfl rfl (lop_fieldAddr_fp (fo := 0) rfl Try.underlying50 rfl rfl Try.sizeOf3 (by decide) rfl) ?_
                  first
                    | refine d1 rfl rfl (lop_load_rf rfl rfl Try.isAgg3 rfl) ?_
                    | refine d1 rfl rfl (lop_load_fp rfl Try.isAgg3 rfl) ?_
                  first
                    | refine d1 rfl rfl (lop_fieldAddr_rf (fo := 0) rfl Try.underlying50 rfl rfl Try.sizeOf3 (by decide)) ?_
                    | refine d1 rfl rfl (lop_fieldAddr_fp (fo := 0) rfl Try.underlying50 rfl rfl Try.sizeOf3 (by decide) rfl) ?_
                  first
                    | refine d1 rfl rfl (lop_load_rf rfl rfl Try.isAgg3 rfl) ?_
                    | refine d1 rfl rfl (lop_load_fp rfl Try.isAgg3 rfl) ?_
                  first
                    | refine d1 rfl rfl (lop_fieldAddr_rf (fo := 4) rfl Try.underlying50 rfl rfl Try.sizeOf3 (by decide)) ?_
                    | refine d1 rfl rfl (lop_fieldAddr_fp (fo := 4) rfl Try.underlying50 rfl rfl Try.sizeOf3 (by decide) rfl) ?_
                  first
                    | refine d0w rfl rfl (lop_storeK (v := .int _ _) (cs' := [.int _ _, .int _ _, .int _ _, .int _ _, .int _ _, _, _, .int _ _, .int _ _]) (f' := true) rfl rfl rfl Try.sizeOf3 rfl rfl rfl rfl rfl) ?_
                    | refine d0w rfl rfl (lop_storeK (v := .int _ _) (cs' := [.int _ _, .int _ _, .int _ _, .int _ _, .int _ _, _, _, .int _ _, .int _ _]) (f' := false) rfl rfl rfl Try.sizeOf3 rfl rfl rfl rfl rfl) ?_
                  first
                    | refine d1 rfl rfl (lop_fieldAddr_rf (fo := 7) rfl Try.underlying50 rfl rfl Try.sizeOf3 (by decide)) ?_
                    | refine d1 rfl rfl (lop_fieldAddr_fp (fo := 7) rfl Try.underlying50 rfl rfl Try.sizeOf3 (by decide) rfl) ?_
                  first
                    | refine d0w rfl rfl (lop_storeK (v := .int _ _) (cs' := [.int _ _, .int _ _, .int _ _, .int _ _, .int _ _, _, _, .int _ _, .int _ _]) (f' := true) rfl rfl rfl Try.sizeOf3 rfl rfl rfl rfl rfl) ?_
                    | refine d0w rfl rfl (lop_storeK (v := .int _ _) (cs' := [.int _ _, .int _ _, .int _ _, .int _ _, .int _ _, _, _, .int _ _, .int _ _]) (f' := false) rfl rfl rfl Try.sizeOf3 rfl rfl rfl rfl rfl) ?_
                  first
                    | refine d1 rfl rfl (lop_fieldAddr_rf (fo := 8) rfl Try.underlying50 rfl rfl Try.sizeOf3 (by decide)) ?_
                    | refine d1 rfl rfl (lop_fieldAddr_fp (fo := 8) rfl Try.underlying50 rfl rfl Try.sizeOf3 (by decide) rfl) ?_
                  first
                    | refine d0w rfl rfl (lop_storeK (v := .int _ _) (cs' := [.int _ _, .int _ _, .int _ _, .int _ _, .int _ _, _, _, .int _ _, .int _ _]) (f' := true) rfl rfl rfl Try.sizeOf3 rfl rfl rfl rfl rfl) ?_
                    | refine d0w rfl rfl (lop_storeK (v := .int _ _) (cs' := [.int _ _, .int _ _, .int _ _, .int _ _, .int _ _, _, _, .int _ _, .int _ _]) (f' := false) rfl rfl rfl Try.sizeOf3 rfl rfl rfl rfl rfl) ?_
                  refine dr_nil (by kernel_rfl) ?_
                  refine ok_drw Try.mixed ?_
                  first
                    | refine d1 rfl rfl (lop_fieldAddr_rf (fo := 0) rfl Try.underlying50 rfl rfl Try.sizeOf3 (by decide)) ?_
                    | refine d1 rfl rfl (lop_fieldAddr_fp (fo := 0) rfl Try.underlying50 rfl rfl Try.sizeOf3 (by decide) rfl) ?_
                  first
                    | refine d1 rfl rfl (lop_load_rf rfl rfl Try.isAgg3 rfl) ?_
                    | refine d1 rfl rfl (lop_load_fp rfl Try.isAgg3 rfl) ?_
                  first
                    | refine d1 rfl rfl (lop_fieldAddr_rf (fo := 0) rfl Try.underlying50 rfl rfl Try.sizeOf3 (by decide)) ?_
                    | refine d1 rfl rfl (lop_fieldAddr_fp (fo := 0) rfl Try.underlying50 rfl rfl Try.sizeOf3 (by decide) rfl) ?_
                  first
                    | refine d1 rfl rfl (lop_load_rf rfl rfl Try.isAgg3 rfl) ?_
                    | refine d1 rfl rfl (lop_load_fp rfl Try.isAgg3 rfl) ?_
                  first
                    | refine d1 rfl rfl (lop_fieldAddr_rf (fo := 4) rfl Try.underlying50 rfl rfl Try.sizeOf3 (by decide)) ?_
                    | refine d1 rfl rfl (lop_fieldAddr_fp (fo := 4) rfl Try.underlying50 rfl rfl Try.sizeOf3 (by decide) rfl) ?_
                  first
                    | refine d0w rfl rfl (lop_storeK (v := .int _ _) (cs' := [.int _ _, .int _ _, .int _ _, .int _ _, .int _ _, _, _, .int _ _, .int _ _]) (f' := true) rfl rfl rfl Try.sizeOf3 rfl rfl rfl rfl rfl) ?_
                    | refine d0w rfl rfl (lop_storeK (v := .int _ _) (cs' := [.int _ _, .int _ _, .int _ _, .int _ _, .int _ _, _, _, .int _ _, .int _ _]) (f' := false) rfl rfl rfl Try.sizeOf3 rfl rfl rfl rfl rfl) ?_
                  first
                    | refine d1 rfl rfl (lop_fieldAddr_rf (fo := 7) rfl Try.underlying50 rfl rfl Try.sizeOf3 (by decide)) ?_
                    | refine d1 rfl rfl (lop_fieldAddr_fp (fo := 7) rfl Try.underlying50 rfl rfl Try.sizeOf3 (by decide) rfl) ?_
                  first
                    | refine d0w rfl rfl (lop_storeK (v := .int _ _) (cs' := [.int _ _, .int _ _, .int _ _, .int _ _, .int _ _, _, _, .int _ _, .int _ _]) (f' := true) rfl rfl rfl Try.sizeOf3 rfl rfl rfl rfl rfl) ?_
                    | refine d0w rfl rfl (lop_storeK (v := .int _ _) (cs' := [.int _ _, .int _ _, .int _ _, .int _ _, .int _ _, _, _, .int _ _, .int _ _]) (f' := false) rfl rfl rfl Try.sizeOf3 rfl rfl rfl rfl rfl) ?_
                  first
                    | refine d1 rfl rfl (lop_fieldAddr_rf (fo := 8) rfl Try.underlying50 rfl rfl Try.sizeOf3 (by decide)) ?_
                    | refine d1 rfl rfl (lop_fieldAddr_fp (fo := 8) rfl Try.underlying50 rfl rfl Try.sizeOf3 (by decide) rfl) ?_
                  first
                    | refine d0w rfl rfl (lop_storeK (v := .int _ _) (cs' := [.int _ _, .int _ _, .int _ _, .int _ _, .int _ _, _, _, .int _ _, .int _ _]) (f' := true) rfl rfl rfl Try.sizeOf3 rfl rfl rfl rfl rfl) ?_
                    | refine d0w rfl rfl (lop_storeK (v := .int _ _) (cs' := [.int _ _, .int _ _, .int _ _, .int _ _, .int _ _, _, _, .int _ _, .int _ _]) (f' := false) rfl rfl rfl Try.sizeOf3 rfl rfl rfl rfl rfl) ?_
                  refine dr_nil (by kernel_rfl) ?_
                  refine ok_drw Try.mixed ?_
                  first
                    | refine d1 rfl rfl (lop_fieldAddr_rf (fo := 0) rfl Try.underlying26 rfl rfl Try.sizeOf22 (by decide)) ?_
                    | refine d1 rfl rfl (lop_fieldAddr_fp (fo := 0) rfl Try.underlying26 rfl rfl Try.sizeOf22 (by decide) rfl) ?_
                  first
                    | refine d1 rfl rfl (lop_load_rf rfl rfl Try.isAgg22 rfl) ?_
                    | refine d1 rfl rfl (lop_load_fp rfl Try.isAgg22 rfl) ?_
                  refine d1 rfl rfl (lop_move (v := .int _ _) rfl) ?_
                  first
                    | refine d1 rfl rfl (lop_load_rf_agg (ys := [.int _ _, .int _ _, .int _ _, .int _ _, .int _ _, _, _, .int _ _, .int _ _]) rfl rfl Try.isAgg50 Try.sizeOf50 (Nat.le_of_ble_eq_true rfl) rfl) ?_
                    | refine d1 rfl rfl (lop_load_fp_agg (ys := [.int _ _, .int _ _, .int _ _, .int _ _, .int _ _, _, _, .int _ _, .int _ _]) rfl Try.isAgg50 Try.sizeOf50 (Nat.le_of_ble_eq_true rfl) rfl) ?_
                  refine d1 rfl rfl (lop_call rfl Try.call62 (FrzL.tf rfl) (.inl rfl) (set_Vol_ac (l := x.vols) (by omega) hva.2.1 { (volF x c.vol).1 with phase := 4, pair := (volF x c.mate).1.id, sum := sid })) ?_
                  refine d1 rfl rfl (lop_move (v := .int _ _) rfl) ?_
                  first
                    | refine d1 rfl rfl (lop_load_rf_agg (ys := [.int _ _, .int _ _, .int _ _, .int _ _, .int _ _, _, _, .int _ _, .int _ _]) rfl rfl Try.isAgg50 Try.sizeOf50 (Nat.le_of_ble_eq_true rfl) rfl) ?_
                    | refine d1 rfl rfl (lop_load_fp_agg (ys := [.int _ _, .int _ _, .int _ _, .int _ _, .int _ _, _, _, .int _ _, .int _ _]) rfl Try.isAgg50 Try.sizeOf50 (Nat.le_of_ble_eq_true rfl) rfl) ?_
                  refine d1 rfl rfl (lop_call rfl Try.call62 (FrzL.tf rfl) (.inl rfl) (set_Vol_ac (l := (setL x.vols (volF x c.vol).2 { (volF x c.vol).1 with phase := 4, pair := (volF x c.mate).1.id, sum := sid })) (by rw [setL_len0 hva.2.2.1]; omega) (by rw [setL_len0 hva.2.2.1]; exact hvb.2.1) { (volF x c.mate).1 with phase := 4, pair := (volF x c.vol).1.id, sum := sid })) ?_
                  first
                    | refine d1 rfl rfl (lop_load_rf_agg (ys := [.int _ _, .int _ _, .int _ _, .int _ _, .int _ _, _, _, .int _ _, .int _ _]) rfl rfl Try.isAgg50 Try.sizeOf50 (Nat.le_of_ble_eq_true rfl) rfl) ?_
                    | refine d1 rfl rfl (lop_load_fp_agg (ys := [.int _ _, .int _ _, .int _ _, .int _ _, .int _ _, _, _, .int _ _, .int _ _]) rfl Try.isAgg50 Try.sizeOf50 (Nat.le_of_ble_eq_true rfl) rfl) ?_
                  refine d1 rfl rfl (lop_call rfl Try.call62 (fzL_sound _ [] _ rfl) (.inl rfl) (set_Vol_ac (l := (setL (setL x.vols (volF x c.vol).2 { (volF x c.vol).1 with phase := 4, pair := (volF x c.mate).1.id, sum := sid }) (volF x c.mate).2 { (volF x c.mate).1 with phase := 4, pair := (volF x c.vol).1.id, sum := sid })) (by rw [setL_len0 hvb.2.2.1, setL_len0 hva.2.2.1]; omega) (i := -1) (by omega) ⟨sid, (thirdF (volF x c.vol).1.home (volF x c.mate).1.home).1, 0, 0, 5, [], c.places, (volF x c.vol).1.id, (volF x c.mate).1.id⟩)) ?_
                  first
                    | refine d1 rfl rfl (lop_fieldAddr_rf (fo := 0) rfl Try.underlying26 rfl rfl Try.sizeOf22 (by decide)) ?_
                    | refine d1 rfl rfl (lop_fieldAddr_fp (fo := 0) rfl Try.underlying26 rfl rfl Try.sizeOf22 (by decide) rfl) ?_
                  first
                    | refine d0w rfl rfl (lop_storeK (v := .sl _ _) (cs' := [_, _, _]) (f' := true) rfl rfl rfl Try.sizeOf22 rfl rfl rfl rfl rfl) ?_
                    | refine d0w rfl rfl (lop_storeK (v := .os _ _ _ _) (cs' := [_, _, _]) (f' := true) rfl rfl rfl Try.sizeOf22 rfl rfl rfl rfl rfl) ?_
                    | refine d0w rfl rfl (lop_storeK (v := .z0) (cs' := [_, _, _]) (f' := true) rfl rfl rfl Try.sizeOf22 rfl rfl rfl rfl rfl) ?_
                    | refine d0w rfl rfl (lop_storeK (v := .sl _ _) (cs' := [_, _, _]) (f' := false) rfl rfl rfl Try.sizeOf22 rfl rfl rfl rfl rfl) ?_
                    | refine d0w rfl rfl (lop_storeK (v := .os _ _ _ _) (cs' := [_, _, _]) (f' := false) rfl rfl rfl Try.sizeOf22 rfl rfl rfl rfl rfl) ?_
                    | refine d0w rfl rfl (lop_storeK (v := .z0) (cs' := [_, _, _]) (f' := false) rfl rfl rfl Try.sizeOf22 rfl rfl rfl rfl rfl) ?_
                  refine dr_nil (by kernel_rfl) ?_
                  refine ok_drw Try.mixed ?_
                  first
                    | refine d1 rfl rfl (lop_load_rf_agg (ys := [_, _, _]) rfl rfl Try.isAgg26 Try.sizeOf26 (Nat.le_of_ble_eq_true rfl) rfl) ?_
                    | refine d1 rfl rfl (lop_load_fp_agg (ys := [_, _, _]) rfl Try.isAgg26 Try.sizeOf26 (Nat.le_of_ble_eq_true rfl) rfl) ?_
                  first
                    | refine d1 rfl rfl (lop_fieldAddr_rf (fo := 0) rfl Try.underlying50 rfl rfl Try.sizeOf3 (by decide)) ?_
                    | refine d1 rfl rfl (lop_fieldAddr_fp (fo := 0) rfl Try.underlying50 rfl rfl Try.sizeOf3 (by decide) rfl) ?_
                  first
                    | refine d1 rfl rfl (lop_load_rf rfl rfl Try.isAgg3 rfl) ?_
                    | refine d1 rfl rfl (lop_load_fp rfl Try.isAgg3 rfl) ?_
                  refine d1 rfl rfl (lop_buildK (cs := [.int _ _, .int _ _, .int _ _, .int _ _, .int _ _, .bool _]) Try.underlying35 Try.zeroValue35 rfl rfl places35 rfl) ?_
                  first
                    | refine d0w rfl rfl (lop_storeK (v := .agg [_, _, _]) (cs' := [_, _, _]) (f' := true) rfl rfl rfl Try.sizeOf26 rfl rfl rfl rfl rfl) ?_
                    | refine d0w rfl rfl (lop_storeK (v := .agg [_, _, _]) (cs' := [_, _, _]) (f' := false) rfl rfl rfl Try.sizeOf26 rfl rfl rfl rfl rfl) ?_
                  first
                    | refine d0w rfl rfl (lop_storeK (v := .agg [.int _ _, .int _ _, .int _ _, .int _ _, .int _ _, .bool _]) (cs' := [.int _ _, .int _ _, .int _ _, .int _ _, .int _ _, .bool _]) (f' := true) rfl rfl rfl Try.sizeOf35 rfl rfl rfl rfl rfl) ?_
                    | refine d0w rfl rfl (lop_storeK (v := .agg [.int _ _, .int _ _, .int _ _, .int _ _, .int _ _, .bool _]) (cs' := [.int _ _, .int _ _, .int _ _, .int _ _, .int _ _, .bool _]) (f' := false) rfl rfl rfl Try.sizeOf35 rfl rfl rfl rfl rfl) ?_
                  refine dr_nil (by kernel_rfl) ?_
                  refine ok_ret ?_
                  rw [show pairF x c = (⟨(setL (setL x.vols (volF x c.vol).2 { (volF x c.vol).1 with phase := 4, pair := (volF x c.mate).1.id, sum := sid }) (volF x c.mate).2 { (volF x c.mate).1 with phase := 4, pair := (volF x c.vol).1.id, sum := sid }) ++ [⟨sid, (thirdF (volF x c.vol).1.home (volF x c.mate).1.home).1, 0, 0, 5, [], c.places, (volF x c.vol).1.id, (volF x c.mate).1.id⟩], x.names, x.last⟩, ⟨0, sid, 0, 0, 0, false⟩) by unfold pairF; rw [if_neg (by omega), if_neg (by omega), if_neg (fun h => h.elim p8_2 (by simpa using h_t61)), if_neg (by omega), hsid]]
                  exact ret_gen (R := [4, 5]) ⟨_, _, rfl, ⟨rfl, 4, 0, _, _, rfl, rfl, .inl ⟨3, Try.isAgg26, Try.sizeOf26, Nat.le_of_ble_eq_true rfl, rfl⟩⟩, _, _, rfl, ⟨rfl, 5, 0, _, _, rfl, rfl, .inl ⟨6, Try.isAgg35, Try.sizeOf35, Nat.le_of_ble_eq_true rfl, rfl⟩⟩, rfl⟩ (.tup (.cons (.agg (FrzL.tf rfl)) (.cons (.agg (FrzL.tf rfl)) .nil))) (fun t ht => by simp at ht; rcases ht with rfl | rfl <;> exact Option.some_ne_none _)

end Go.Proofs
