/- Chapter 15: walks. Printed by gen.py. -/
import Derived.Test.YtajlkpogccbboaaT15h
set_option linter.unusedVariables false
set_option linter.unusedSimpArgs false
set_option maxRecDepth 100000
namespace Go.Proofs
open Go.Hg

theorem put_ac {x : IdxD} (hx : Fit 549755000000 x) {c : CmdD} (hm : May c) : AC Try.prog 43 [.agg x.enc, .agg c.enc] (.tup [.agg (putF x c).1.enc, .agg (putF x c).2.enc]) := by
  have hxn := hx.names
  have hxv := hx.vols
  have hof := hm.off
  have hcn := hm.n
  refine AC.intro Try.func43 rfl (Nat.le_of_ble_eq_true rfl) ?_
  refine ok_reg ?_
  first
    | refine s1w rfl (lop_box (t := 2) (v := .agg [_, _, _]) (f := true) (cs := [_, _, _]) rfl rfl rfl rfl (fun h => by cases h)) rfl ?_
    | refine s1w rfl (lop_box (t := 2) (v := .agg [_, _, _]) (f := false) (cs := [_, _, _]) rfl rfl rfl rfl (fun _ => rfl)) rfl ?_
  first
    | refine s1w rfl (lop_box (t := 3) (v := .agg [.int _ _, .int _ _, .int _ _, .str _, .int _ _, .int _ _, .int _ _, .int _ _, .int _ _, .int _ _, .int _ _, _]) (f := true) (cs := [.int _ _, .int _ _, .int _ _, .str _, .int _ _, .int _ _, .int _ _, .int _ _, .int _ _, .int _ _, .int _ _, _]) rfl rfl rfl rfl (fun h => by cases h)) rfl ?_
    | refine s1w rfl (lop_box (t := 3) (v := .agg [.int _ _, .int _ _, .int _ _, .str _, .int _ _, .int _ _, .int _ _, .int _ _, .int _ _, .int _ _, .int _ _, _]) (f := false) (cs := [.int _ _, .int _ _, .int _ _, .str _, .int _ _, .int _ _, .int _ _, .int _ _, .int _ _, .int _ _, .int _ _, _]) rfl rfl rfl rfl (fun _ => rfl)) rfl ?_
  refine s1w rfl (lop_new (t := 4) (cs := [.z0, .z0, .z0]) Try.zeroValue26 rfl rfl rfl rfl) rfl ?_
  refine s1w rfl (lop_new (t := 5) (cs := [.int _ _, .int _ _, .int _ _, .int _ _, .int _ _, .bool _]) Try.zeroValue35 rfl rfl rfl rfl) rfl ?_
  refine ops_nil ?_
  refine ok_reg ?_
  first
    | refine s1 rfl (lop_load_rf_agg (ys := [_, _, _]) rfl rfl Try.isAgg26 Try.sizeOf26 (Nat.le_of_ble_eq_true rfl) rfl) ?_
    | refine s1 rfl (lop_load_fp_agg (ys := [_, _, _]) rfl Try.isAgg26 Try.sizeOf26 (Nat.le_of_ble_eq_true rfl) rfl) ?_
  first
    | refine s1 rfl (lop_fieldAddr_rf (fo := 4) rfl Try.underlying30 rfl rfl Try.sizeOf3 (by decide)) ?_
    | refine s1 rfl (lop_fieldAddr_fp (fo := 4) rfl Try.underlying30 rfl rfl Try.sizeOf3 (by decide) rfl) ?_
  first
    | refine s1 rfl (lop_load_rf rfl rfl Try.isAgg3 rfl) ?_
    | refine s1 rfl (lop_load_fp rfl Try.isAgg3 rfl) ?_
  refine s1 rfl (lop_call rfl Try.call30 (FrzL.tf rfl) (.inl rfl) (index_vol_ac x (by omega) c.vol)) ?_
  refine s1 rfl (lop_move (v := .tup _) rfl) ?_
  refine s1 rfl (lop_extract rfl rfl) ?_
  refine s1 rfl (lop_extract rfl rfl) ?_
  refine s1w rfl (lop_new (t := 6) (cs := [.int _ _, .int _ _, .int _ _, .int _ _, .int _ _, .z0, .z0, .int _ _, .int _ _]) Try.zeroValue50 rfl rfl rfl rfl) rfl ?_
  first
    | refine s0w rfl (lop_storeK (v := .agg [.int _ _, .int _ _, .int _ _, .int _ _, .int _ _, _, _, .int _ _, .int _ _]) (cs' := [.int _ _, .int _ _, .int _ _, .int _ _, .int _ _, _, _, .int _ _, .int _ _]) (f' := true) rfl rfl rfl Try.sizeOf50 rfl rfl rfl rfl rfl) ?_
    | refine s0w rfl (lop_storeK (v := .agg [.int _ _, .int _ _, .int _ _, .int _ _, .int _ _, _, _, .int _ _, .int _ _]) (cs' := [.int _ _, .int _ _, .int _ _, .int _ _, .int _ _, _, _, .int _ _, .int _ _]) (f' := false) rfl rfl rfl Try.sizeOf50 rfl rfl rfl rfl rfl) ?_
  refine s1 rfl (lop_assign (v := .int _ _) rfl) ?_
  refine ops_nil ?_
  refine ok_reg ?_
  first
    | refine s1 rfl (lop_load_rf_agg (ys := [_, _, _]) rfl rfl Try.isAgg26 Try.sizeOf26 (Nat.le_of_ble_eq_true rfl) rfl) ?_
    | refine s1 rfl (lop_load_fp_agg (ys := [_, _, _]) rfl Try.isAgg26 Try.sizeOf26 (Nat.le_of_ble_eq_true rfl) rfl) ?_
  first
    | refine s1 rfl (lop_fieldAddr_rf (fo := 3) rfl Try.underlying30 rfl rfl Try.sizeOf9 (by decide)) ?_
    | refine s1 rfl (lop_fieldAddr_fp (fo := 3) rfl Try.underlying30 rfl rfl Try.sizeOf9 (by decide) rfl) ?_
  first
    | refine s1 rfl (lop_load_rf rfl rfl Try.isAgg9 rfl) ?_
    | refine s1 rfl (lop_load_fp rfl Try.isAgg9 rfl) ?_
  refine s1 rfl (lop_call rfl Try.call31 (FrzL.tf rfl) (.inl rfl) (index_name_ac x (by omega) c.name)) ?_
  refine s1 rfl (lop_move (v := .tup _) rfl) ?_
  refine s1 rfl (lop_extract rfl rfl) ?_
  refine s1 rfl (lop_extract rfl rfl) ?_
  refine s1w rfl (lop_new (t := 8) (cs := [.str _, .int _ _, .int _ _, .int _ _, .int _ _]) Try.zeroValue47 rfl rfl rfl rfl) rfl ?_
  first
    | refine s0w rfl (lop_storeK (v := .agg [.str _, .int _ _, .int _ _, .int _ _, .int _ _]) (cs' := [.str _, .int _ _, .int _ _, .int _ _, .int _ _]) (f' := true) rfl rfl rfl Try.sizeOf47 rfl rfl rfl rfl rfl) ?_
    | refine s0w rfl (lop_storeK (v := .agg [.str _, .int _ _, .int _ _, .int _ _, .int _ _]) (cs' := [.str _, .int _ _, .int _ _, .int _ _, .int _ _]) (f' := false) rfl rfl rfl Try.sizeOf47 rfl rfl rfl rfl rfl) ?_
  refine s1 rfl (lop_assign (v := .int _ _) rfl) ?_
  refine ops_nil ?_
  refine ok_seq ?_
  refine ok_block ?_
  refine ok_reg ?_
  first
    | refine s1 rfl (lop_fieldAddr_rf (fo := 3) rfl Try.underlying30 rfl rfl Try.sizeOf9 (by decide)) ?_
    | refine s1 rfl (lop_fieldAddr_fp (fo := 3) rfl Try.underlying30 rfl rfl Try.sizeOf9 (by decide) rfl) ?_
  first
    | refine s1 rfl (lop_load_rf rfl rfl Try.isAgg9 rfl) ?_
    | refine s1 rfl (lop_load_fp rfl Try.isAgg9 rfl) ?_
  refine s1 rfl (lop_seql rfl rfl) ?_
  refine s1 rfl (lop_assign (v := .bool _) rfl) ?_
  refine ops_nil ?_
  first
    | refine ok_if _ rfl rfl (fun h_t27 => ?_) (fun h_t27 => ?_)
    | refine ok_cond rfl rfl (fun h_t27 => ?_) (fun h_t27 => ?_)
  · refine ok_drw Try.mixed ?_
    first
      | refine d1 rfl rfl (lop_load_rf_agg (ys := [_, _, _]) rfl rfl Try.isAgg26 Try.sizeOf26 (Nat.le_of_ble_eq_true rfl) rfl) ?_
      | refine d1 rfl rfl (lop_load_fp_agg (ys := [_, _, _]) rfl Try.isAgg26 Try.sizeOf26 (Nat.le_of_ble_eq_true rfl) rfl) ?_
    refine d1 rfl rfl (lop_call rfl Try.call23 (FrzL.tf rfl) (.inl rfl) (no_ac 1)) ?_
    first
      | refine d0w rfl rfl (lop_storeK (v := .agg [_, _, _]) (cs' := [_, _, _]) (f' := true) rfl rfl rfl Try.sizeOf26 rfl rfl rfl rfl rfl) ?_
      | refine d0w rfl rfl (lop_storeK (v := .agg [_, _, _]) (cs' := [_, _, _]) (f' := false) rfl rfl rfl Try.sizeOf26 rfl rfl rfl rfl rfl) ?_
    first
      | refine d0w rfl rfl (lop_storeK (v := .agg [.int _ _, .int _ _, .int _ _, .int _ _, .int _ _, .bool _]) (cs' := [.int _ _, .int _ _, .int _ _, .int _ _, .int _ _, .bool _]) (f' := true) rfl rfl rfl Try.sizeOf35 rfl rfl rfl rfl rfl) ?_
      | refine d0w rfl rfl (lop_storeK (v := .agg [.int _ _, .int _ _, .int _ _, .int _ _, .int _ _, .bool _]) (cs' := [.int _ _, .int _ _, .int _ _, .int _ _, .int _ _, .bool _]) (f' := false) rfl rfl rfl Try.sizeOf35 rfl rfl rfl rfl rfl) ?_
    refine dr_nil (by kernel_rfl) ?_
    refine ok_ret ?_
    rw [show putF x c = (x, noR 1) by unfold putF; rw [if_pos h_t27]]
    exact ret_gen (R := [4, 5]) ⟨_, _, rfl, ⟨rfl, 4, 0, _, _, rfl, rfl, .inl ⟨3, Try.isAgg26, Try.sizeOf26, Nat.le_of_ble_eq_true rfl, rfl⟩⟩, _, _, rfl, ⟨rfl, 5, 0, _, _, rfl, rfl, .inl ⟨6, Try.isAgg35, Try.sizeOf35, Nat.le_of_ble_eq_true rfl, rfl⟩⟩, rfl⟩ (.tup (.cons (.agg (FrzL.tf rfl)) (.cons (.agg (FrzL.tf rfl)) .nil))) (fun t ht => by simp at ht; rcases ht with rfl | rfl <;> exact Option.some_ne_none _)
  · refine ok_reg ?_
    refine s1 rfl (lop_move (v := .int _ _) rfl) ?_
    refine s1 rfl (lop_lss rfl rfl) ?_
    refine s1 rfl (lop_assign (v := .bool _) rfl) ?_
    refine ops_nil ?_
    first
      | refine ok_if _ rfl rfl (fun h_t33 => ?_) (fun h_t33 => ?_)
      | refine ok_cond rfl rfl (fun h_t33 => ?_) (fun h_t33 => ?_)
    · refine ok_drw Try.mixed ?_
      first
        | refine d1 rfl rfl (lop_load_rf_agg (ys := [_, _, _]) rfl rfl Try.isAgg26 Try.sizeOf26 (Nat.le_of_ble_eq_true rfl) rfl) ?_
        | refine d1 rfl rfl (lop_load_fp_agg (ys := [_, _, _]) rfl Try.isAgg26 Try.sizeOf26 (Nat.le_of_ble_eq_true rfl) rfl) ?_
      refine d1 rfl rfl (lop_call rfl Try.call23 (FrzL.tf rfl) (.inl rfl) (no_ac 7)) ?_
      first
        | refine d0w rfl rfl (lop_storeK (v := .agg [_, _, _]) (cs' := [_, _, _]) (f' := true) rfl rfl rfl Try.sizeOf26 rfl rfl rfl rfl rfl) ?_
        | refine d0w rfl rfl (lop_storeK (v := .agg [_, _, _]) (cs' := [_, _, _]) (f' := false) rfl rfl rfl Try.sizeOf26 rfl rfl rfl rfl rfl) ?_
      first
        | refine d0w rfl rfl (lop_storeK (v := .agg [.int _ _, .int _ _, .int _ _, .int _ _, .int _ _, .bool _]) (cs' := [.int _ _, .int _ _, .int _ _, .int _ _, .int _ _, .bool _]) (f' := true) rfl rfl rfl Try.sizeOf35 rfl rfl rfl rfl rfl) ?_
        | refine d0w rfl rfl (lop_storeK (v := .agg [.int _ _, .int _ _, .int _ _, .int _ _, .int _ _, .bool _]) (cs' := [.int _ _, .int _ _, .int _ _, .int _ _, .int _ _, .bool _]) (f' := false) rfl rfl rfl Try.sizeOf35 rfl rfl rfl rfl rfl) ?_
      refine dr_nil (by kernel_rfl) ?_
      refine ok_ret ?_
      rw [show putF x c = (x, noR 7) by unfold putF; rw [if_neg h_t27, if_pos h_t33]]
      exact ret_gen (R := [4, 5]) ⟨_, _, rfl, ⟨rfl, 4, 0, _, _, rfl, rfl, .inl ⟨3, Try.isAgg26, Try.sizeOf26, Nat.le_of_ble_eq_true rfl, rfl⟩⟩, _, _, rfl, ⟨rfl, 5, 0, _, _, rfl, rfl, .inl ⟨6, Try.isAgg35, Try.sizeOf35, Nat.le_of_ble_eq_true rfl, rfl⟩⟩, rfl⟩ (.tup (.cons (.agg (FrzL.tf rfl)) (.cons (.agg (FrzL.tf rfl)) .nil))) (fun t ht => by simp at ht; rcases ht with rfl | rfl <;> exact Option.some_ne_none _)
    · have hvm := volF_mem h_t33
      have hvp := hx.parts _ hvm.1
      refine ok_reg ?_
      first
        | refine s1 rfl (lop_fieldAddr_rf (fo := 4) rfl Try.underlying50 rfl rfl Try.sizeOf3 (by decide)) ?_
        | refine s1 rfl (lop_fieldAddr_fp (fo := 4) rfl Try.underlying50 rfl rfl Try.sizeOf3 (by decide) rfl) ?_
      first
        | refine s1 rfl (lop_load_rf rfl rfl Try.isAgg3 rfl) ?_
        | refine s1 rfl (lop_load_fp rfl Try.isAgg3 rfl) ?_
      refine s1 rfl (lop_neq rfl rfl) ?_
      refine s1 rfl (lop_assign (v := .bool _) rfl) ?_
      refine ops_nil ?_
      first
        | refine ok_if _ rfl rfl (fun h_t38 => ?_) (fun h_t38 => ?_)
        | refine ok_cond rfl rfl (fun h_t38 => ?_) (fun h_t38 => ?_)
      · refine ok_drw Try.mixed ?_
        first
          | refine d1 rfl rfl (lop_load_rf_agg (ys := [_, _, _]) rfl rfl Try.isAgg26 Try.sizeOf26 (Nat.le_of_ble_eq_true rfl) rfl) ?_
          | refine d1 rfl rfl (lop_load_fp_agg (ys := [_, _, _]) rfl Try.isAgg26 Try.sizeOf26 (Nat.le_of_ble_eq_true rfl) rfl) ?_
        refine d1 rfl rfl (lop_call rfl Try.call23 (FrzL.tf rfl) (.inl rfl) (no_ac 9)) ?_
        first
          | refine d0w rfl rfl (lop_storeK (v := .agg [_, _, _]) (cs' := [_, _, _]) (f' := true) rfl rfl rfl Try.sizeOf26 rfl rfl rfl rfl rfl) ?_
          | refine d0w rfl rfl (lop_storeK (v := .agg [_, _, _]) (cs' := [_, _, _]) (f' := false) rfl rfl rfl Try.sizeOf26 rfl rfl rfl rfl rfl) ?_
        first
          | refine d0w rfl rfl (lop_storeK (v := .agg [.int _ _, .int _ _, .int _ _, .int _ _, .int _ _, .bool _]) (cs' := [.int _ _, .int _ _, .int _ _, .int _ _, .int _ _, .bool _]) (f' := true) rfl rfl rfl Try.sizeOf35 rfl rfl rfl rfl rfl) ?_
          | refine d0w rfl rfl (lop_storeK (v := .agg [.int _ _, .int _ _, .int _ _, .int _ _, .int _ _, .bool _]) (cs' := [.int _ _, .int _ _, .int _ _, .int _ _, .int _ _, .bool _]) (f' := false) rfl rfl rfl Try.sizeOf35 rfl rfl rfl rfl rfl) ?_
        refine dr_nil (by kernel_rfl) ?_
        refine ok_ret ?_
        rw [show putF x c = (x, noR 9) by unfold putF; rw [if_neg h_t27, if_neg h_t33, if_pos h_t38]]
        exact ret_gen (R := [4, 5]) ⟨_, _, rfl, ⟨rfl, 4, 0, _, _, rfl, rfl, .inl ⟨3, Try.isAgg26, Try.sizeOf26, Nat.le_of_ble_eq_true rfl, rfl⟩⟩, _, _, rfl, ⟨rfl, 5, 0, _, _, rfl, rfl, .inl ⟨6, Try.isAgg35, Try.sizeOf35, Nat.le_of_ble_eq_true rfl, rfl⟩⟩, rfl⟩ (.tup (.cons (.agg (FrzL.tf rfl)) (.cons (.agg (FrzL.tf rfl)) .nil))) (fun t ht => by simp at ht; rcases ht with rfl | rfl <;> exact Option.some_ne_none _)
      · refine ok_reg ?_
        first
          | refine s1 rfl (lop_fieldAddr_rf (fo := 6) rfl Try.underlying30 rfl rfl Try.sizeOf3 (by decide)) ?_
          | refine s1 rfl (lop_fieldAddr_fp (fo := 6) rfl Try.underlying30 rfl rfl Try.sizeOf3 (by decide) rfl) ?_
        first
          | refine s1 rfl (lop_load_rf rfl rfl Try.isAgg3 rfl) ?_
          | refine s1 rfl (lop_load_fp rfl Try.isAgg3 rfl) ?_
        refine s1 rfl (lop_eql rfl rfl) ?_
        refine s1 rfl (lop_move (v := .bool _) rfl) ?_
        first
          | refine gsplitP 3 rfl rfl (fun g9_3 p9_3 => ?_) (fun g9_3 p9_3 => ?_)
          | refine gsplitB 3 rfl rfl (fun g9_3 p9_3 => ?_) (fun g9_3 p9_3 => ?_)
        · refine n1 rfl rfl g9_3 ?_
          refine n1 rfl rfl g9_3 ?_
          refine n1 rfl rfl g9_3 ?_
          refine n1 rfl rfl g9_3 ?_
          refine n1 rfl rfl g9_3 ?_
          refine n1 rfl rfl g9_3 ?_
          refine n1 rfl rfl g9_3 ?_
          refine n1 rfl rfl g9_3 ?_
          first
            | refine s1 rfl (lop_pick_t (v := .bool _) rfl g9_3 rfl) ?_
            | refine s1 rfl (lop_pick_t (v := .bool _) rfl rfl rfl) ?_
            | refine s1 rfl (lop_pick_f (v := .bool _) rfl rfl rfl) ?_
            | refine s1 rfl (lop_pick rfl rfl rfl) ?_
          refine s1 rfl (lop_assign (v := .bool _) rfl) ?_
          refine ops_nil ?_
          refine ok_true rfl rfl ?_
          refine ok_drw Try.mixed ?_
          first
            | refine d1 rfl rfl (lop_load_rf_agg (ys := [_, _, _]) rfl rfl Try.isAgg26 Try.sizeOf26 (Nat.le_of_ble_eq_true rfl) rfl) ?_
            | refine d1 rfl rfl (lop_load_fp_agg (ys := [_, _, _]) rfl Try.isAgg26 Try.sizeOf26 (Nat.le_of_ble_eq_true rfl) rfl) ?_
          refine d1 rfl rfl (lop_call rfl Try.call23 (FrzL.tf rfl) (.inl rfl) (no_ac 1)) ?_
          first
            | refine d0w rfl rfl (lop_storeK (v := .agg [_, _, _]) (cs' := [_, _, _]) (f' := true) rfl rfl rfl Try.sizeOf26 rfl rfl rfl rfl rfl) ?_
            | refine d0w rfl rfl (lop_storeK (v := .agg [_, _, _]) (cs' := [_, _, _]) (f' := false) rfl rfl rfl Try.sizeOf26 rfl rfl rfl rfl rfl) ?_
          first
            | refine d0w rfl rfl (lop_storeK (v := .agg [.int _ _, .int _ _, .int _ _, .int _ _, .int _ _, .bool _]) (cs' := [.int _ _, .int _ _, .int _ _, .int _ _, .int _ _, .bool _]) (f' := true) rfl rfl rfl Try.sizeOf35 rfl rfl rfl rfl rfl) ?_
            | refine d0w rfl rfl (lop_storeK (v := .agg [.int _ _, .int _ _, .int _ _, .int _ _, .int _ _, .bool _]) (cs' := [.int _ _, .int _ _, .int _ _, .int _ _, .int _ _, .bool _]) (f' := false) rfl rfl rfl Try.sizeOf35 rfl rfl rfl rfl rfl) ?_
          refine dr_nil (by kernel_rfl) ?_
          refine ok_ret ?_
          rw [show putF x c = (x, noR 1) by unfold putF; rw [if_neg h_t27, if_neg h_t33, if_neg h_t38, if_pos (by omega)]]
          exact ret_gen (R := [4, 5]) ⟨_, _, rfl, ⟨rfl, 4, 0, _, _, rfl, rfl, .inl ⟨3, Try.isAgg26, Try.sizeOf26, Nat.le_of_ble_eq_true rfl, rfl⟩⟩, _, _, rfl, ⟨rfl, 5, 0, _, _, rfl, rfl, .inl ⟨6, Try.isAgg35, Try.sizeOf35, Nat.le_of_ble_eq_true rfl, rfl⟩⟩, rfl⟩ (.tup (.cons (.agg (FrzL.tf rfl)) (.cons (.agg (FrzL.tf rfl)) .nil))) (fun t ht => by simp at ht; rcases ht with rfl | rfl <;> exact Option.some_ne_none _)
        · first
            | refine y1 rfl rfl g9_3 rfl (lop_fieldAddr_rf (fo := 5) rfl Try.underlying30 rfl rfl Try.sizeOf3 (by decide)) ?_
            | refine y1 rfl rfl g9_3 rfl (lop_fieldAddr_fp (fo := 5) rfl Try.underlying30 rfl rfl Try.sizeOf3 (by decide) rfl) ?_
          first
            | refine y1 rfl rfl g9_3 rfl (lop_load_rf rfl rfl Try.isAgg3 rfl) ?_
            | refine y1 rfl rfl g9_3 rfl (lop_load_fp rfl Try.isAgg3 rfl) ?_
          first
            | refine y1 rfl rfl g9_3 rfl (lop_fieldAddr_rf (fo := 6) rfl Try.underlying30 rfl rfl Try.sizeOf3 (by decide)) ?_
            | refine y1 rfl rfl g9_3 rfl (lop_fieldAddr_fp (fo := 6) rfl Try.underlying30 rfl rfl Try.sizeOf3 (by decide) rfl) ?_
          first
            | refine y1 rfl rfl g9_3 rfl (lop_load_rf rfl rfl Try.isAgg3 rfl) ?_
            | refine y1 rfl rfl g9_3 rfl (lop_load_fp rfl Try.isAgg3 rfl) ?_
          refine y1 rfl rfl g9_3 rfl (lop_bop rfl rfl rfl (bop_add (by omega) (by omega))) ?_
          first
            | refine y1 rfl rfl g9_3 rfl (lop_fieldAddr_rf (fo := 3) rfl Try.underlying50 rfl rfl Try.sizeOf3 (by decide)) ?_
            | refine y1 rfl rfl g9_3 rfl (lop_fieldAddr_fp (fo := 3) rfl Try.underlying50 rfl rfl Try.sizeOf3 (by decide) rfl) ?_
          first
            | refine y1 rfl rfl g9_3 rfl (lop_load_rf rfl rfl Try.isAgg3 rfl) ?_
            | refine y1 rfl rfl g9_3 rfl (lop_load_fp rfl Try.isAgg3 rfl) ?_
          refine y1 rfl rfl g9_3 rfl (lop_gtr rfl rfl) ?_
          first
            | refine s1 rfl (lop_pick_f (v := .bool _) rfl g9_3 rfl) ?_
            | refine s1 rfl (lop_pick_t (v := .bool _) rfl rfl rfl) ?_
            | refine s1 rfl (lop_pick_f (v := .bool _) rfl rfl rfl) ?_
            | refine s1 rfl (lop_pick rfl rfl rfl) ?_
          refine s1 rfl (lop_assign (v := .bool _) rfl) ?_
          refine ops_nil ?_
          first
            | refine ok_if _ rfl rfl (fun h_t44 => ?_) (fun h_t44 => ?_)
            | refine ok_cond rfl rfl (fun h_t44 => ?_) (fun h_t44 => ?_)
          · refine ok_drw Try.mixed ?_
            first
              | refine d1 rfl rfl (lop_load_rf_agg (ys := [_, _, _]) rfl rfl Try.isAgg26 Try.sizeOf26 (Nat.le_of_ble_eq_true rfl) rfl) ?_
              | refine d1 rfl rfl (lop_load_fp_agg (ys := [_, _, _]) rfl Try.isAgg26 Try.sizeOf26 (Nat.le_of_ble_eq_true rfl) rfl) ?_
            refine d1 rfl rfl (lop_call rfl Try.call23 (FrzL.tf rfl) (.inl rfl) (no_ac 1)) ?_
            first
              | refine d0w rfl rfl (lop_storeK (v := .agg [_, _, _]) (cs' := [_, _, _]) (f' := true) rfl rfl rfl Try.sizeOf26 rfl rfl rfl rfl rfl) ?_
              | refine d0w rfl rfl (lop_storeK (v := .agg [_, _, _]) (cs' := [_, _, _]) (f' := false) rfl rfl rfl Try.sizeOf26 rfl rfl rfl rfl rfl) ?_
            first
              | refine d0w rfl rfl (lop_storeK (v := .agg [.int _ _, .int _ _, .int _ _, .int _ _, .int _ _, .bool _]) (cs' := [.int _ _, .int _ _, .int _ _, .int _ _, .int _ _, .bool _]) (f' := true) rfl rfl rfl Try.sizeOf35 rfl rfl rfl rfl rfl) ?_
              | refine d0w rfl rfl (lop_storeK (v := .agg [.int _ _, .int _ _, .int _ _, .int _ _, .int _ _, .bool _]) (cs' := [.int _ _, .int _ _, .int _ _, .int _ _, .int _ _, .bool _]) (f' := false) rfl rfl rfl Try.sizeOf35 rfl rfl rfl rfl rfl) ?_
            refine dr_nil (by kernel_rfl) ?_
            refine ok_ret ?_
            rw [show putF x c = (x, noR 1) by unfold putF; rw [if_neg h_t27, if_neg h_t33, if_neg h_t38, if_pos (by omega)]]
            exact ret_gen (R := [4, 5]) ⟨_, _, rfl, ⟨rfl, 4, 0, _, _, rfl, rfl, .inl ⟨3, Try.isAgg26, Try.sizeOf26, Nat.le_of_ble_eq_true rfl, rfl⟩⟩, _, _, rfl, ⟨rfl, 5, 0, _, _, rfl, rfl, .inl ⟨6, Try.isAgg35, Try.sizeOf35, Nat.le_of_ble_eq_true rfl, rfl⟩⟩, rfl⟩ (.tup (.cons (.agg (FrzL.tf rfl)) (.cons (.agg (FrzL.tf rfl)) .nil))) (fun t ht => by simp at ht; rcases ht with rfl | rfl <;> exact Option.some_ne_none _)
          · refine ok_reg ?_
            refine s1 rfl (lop_move (v := .int _ _) rfl) ?_
            refine s1 rfl (lop_lss rfl rfl) ?_
            refine s1 rfl (lop_move (v := .bool _) rfl) ?_
            first
              | refine gsplitP 2 rfl rfl (fun g11_2 p11_2 => ?_) (fun g11_2 p11_2 => ?_)
              | refine gsplitB 2 rfl rfl (fun g11_2 p11_2 => ?_) (fun g11_2 p11_2 => ?_)
            · first
                | refine y1 rfl rfl g11_2 rfl (lop_fieldAddr_rf (fo := 1) rfl Try.underlying26 rfl rfl Try.sizeOf23 (by decide)) ?_
                | refine y1 rfl rfl g11_2 rfl (lop_fieldAddr_fp (fo := 1) rfl Try.underlying26 rfl rfl Try.sizeOf23 (by decide) rfl) ?_
              first
                | refine y1 rfl rfl g11_2 rfl (lop_load_rf rfl rfl Try.isAgg23 rfl) ?_
                | refine y1 rfl rfl g11_2 rfl (lop_load_fp rfl Try.isAgg23 rfl) ?_
              refine y1 rfl rfl g11_2 rfl (lop_len rfl Try.underlying23 ⟨⟨_, rfl⟩, rfl⟩) ?_
              refine y1 rfl rfl g11_2 rfl (lop_geq rfl rfl) ?_
              first
                | refine s1 rfl (lop_pick_t (v := .bool _) rfl g11_2 rfl) ?_
                | refine s1 rfl (lop_pick_t (v := .bool _) rfl rfl rfl) ?_
                | refine s1 rfl (lop_pick_f (v := .bool _) rfl rfl rfl) ?_
                | refine s1 rfl (lop_pick rfl rfl rfl) ?_
              refine s1 rfl (lop_assign (v := .bool _) rfl) ?_
              refine ops_nil ?_
              first
                | refine ok_if _ rfl rfl (fun h_t60 => ?_) (fun h_t60 => ?_)
                | refine ok_cond rfl rfl (fun h_t60 => ?_) (fun h_t60 => ?_)
              · refine ok_drw Try.mixed ?_
                first
                  | refine d1 rfl rfl (lop_load_rf_agg (ys := [_, _, _]) rfl rfl Try.isAgg26 Try.sizeOf26 (Nat.le_of_ble_eq_true rfl) rfl) ?_
                  | refine d1 rfl rfl (lop_load_fp_agg (ys := [_, _, _]) rfl Try.isAgg26 Try.sizeOf26 (Nat.le_of_ble_eq_true rfl) rfl) ?_
                refine d1 rfl rfl (lop_call rfl Try.call23 (FrzL.tf rfl) (.inl rfl) (no_ac 5)) ?_
                first
                  | refine d0w rfl rfl (lop_storeK (v := .agg [_, _, _]) (cs' := [_, _, _]) (f' := true) rfl rfl rfl Try.sizeOf26 rfl rfl rfl rfl rfl) ?_
                  | refine d0w rfl rfl (lop_storeK (v := .agg [_, _, _]) (cs' := [_, _, _]) (f' := false) rfl rfl rfl Try.sizeOf26 rfl rfl rfl rfl rfl) ?_
                first
                  | refine d0w rfl rfl (lop_storeK (v := .agg [.int _ _, .int _ _, .int _ _, .int _ _, .int _ _, .bool _]) (cs' := [.int _ _, .int _ _, .int _ _, .int _ _, .int _ _, .bool _]) (f' := true) rfl rfl rfl Try.sizeOf35 rfl rfl rfl rfl rfl) ?_
                  | refine d0w rfl rfl (lop_storeK (v := .agg [.int _ _, .int _ _, .int _ _, .int _ _, .int _ _, .bool _]) (cs' := [.int _ _, .int _ _, .int _ _, .int _ _, .int _ _, .bool _]) (f' := false) rfl rfl rfl Try.sizeOf35 rfl rfl rfl rfl rfl) ?_
                refine dr_nil (by kernel_rfl) ?_
                refine ok_ret ?_
                rw [show putF x c = (x, noR 5) by unfold putF; rw [if_neg h_t27, if_neg h_t33, if_neg h_t38, if_neg (by omega), if_pos (by omega)]]
                exact ret_gen (R := [4, 5]) ⟨_, _, rfl, ⟨rfl, 4, 0, _, _, rfl, rfl, .inl ⟨3, Try.isAgg26, Try.sizeOf26, Nat.le_of_ble_eq_true rfl, rfl⟩⟩, _, _, rfl, ⟨rfl, 5, 0, _, _, rfl, rfl, .inl ⟨6, Try.isAgg35, Try.sizeOf35, Nat.le_of_ble_eq_true rfl, rfl⟩⟩, rfl⟩ (.tup (.cons (.agg (FrzL.tf rfl)) (.cons (.agg (FrzL.tf rfl)) .nil))) (fun t ht => by simp at ht; rcases ht with rfl | rfl <;> exact Option.some_ne_none _)
              · refine ok_skip ?_
                refine ok_reg ?_
                first
                  | refine s1 rfl (lop_fieldAddr_rf (fo := 5) rfl Try.underlying50 rfl rfl Try.sizeOf48 (by decide)) ?_
                  | refine s1 rfl (lop_fieldAddr_fp (fo := 5) rfl Try.underlying50 rfl rfl Try.sizeOf48 (by decide) rfl) ?_
                first
                  | refine s1 rfl (lop_load_rf rfl rfl Try.isAgg48 rfl) ?_
                  | refine s1 rfl (lop_load_fp rfl Try.isAgg48 rfl) ?_
                first
                  | refine s1 rfl (lop_fieldAddr_rf (fo := 5) rfl Try.underlying30 rfl rfl Try.sizeOf3 (by decide)) ?_
                  | refine s1 rfl (lop_fieldAddr_fp (fo := 5) rfl Try.underlying30 rfl rfl Try.sizeOf3 (by decide) rfl) ?_
                first
                  | refine s1 rfl (lop_load_rf rfl rfl Try.isAgg3 rfl) ?_
                  | refine s1 rfl (lop_load_fp rfl Try.isAgg3 rfl) ?_
                first
                  | refine s1 rfl (lop_fieldAddr_rf (fo := 6) rfl Try.underlying30 rfl rfl Try.sizeOf3 (by decide)) ?_
                  | refine s1 rfl (lop_fieldAddr_fp (fo := 6) rfl Try.underlying30 rfl rfl Try.sizeOf3 (by decide) rfl) ?_
                first
                  | refine s1 rfl (lop_load_rf rfl rfl Try.isAgg3 rfl) ?_
                  | refine s1 rfl (lop_load_fp rfl Try.isAgg3 rfl) ?_
                refine s1 rfl (lop_buildK (cs := [.int _ _, .int _ _]) Try.underlying54 Try.zeroValue54 rfl rfl places54 rfl) ?_
                refine s1 rfl (lop_call rfl Try.call63 (FrzL.tf rfl) (.inl rfl) (set_Span_ac (l := (volF x c.vol).1.parts) (by omega) (i := -1) (by omega) ⟨c.off, c.n⟩)) ?_
                first
                  | refine s1 rfl (lop_fieldAddr_rf (fo := 5) rfl Try.underlying50 rfl rfl Try.sizeOf48 (by decide)) ?_
                  | refine s1 rfl (lop_fieldAddr_fp (fo := 5) rfl Try.underlying50 rfl rfl Try.sizeOf48 (by decide) rfl) ?_
                first
                  | refine s0w rfl (lop_storeK (v := .sl _ _) (cs' := [.int _ _, .int _ _, .int _ _, .int _ _, .int _ _, _, _, .int _ _, .int _ _]) (f' := true) rfl rfl rfl Try.sizeOf48 rfl rfl rfl rfl rfl) ?_
                  | refine s0w rfl (lop_storeK (v := .os _ _ _ _) (cs' := [.int _ _, .int _ _, .int _ _, .int _ _, .int _ _, _, _, .int _ _, .int _ _]) (f' := true) rfl rfl rfl Try.sizeOf48 rfl rfl rfl rfl rfl) ?_
                  | refine s0w rfl (lop_storeK (v := .z0) (cs' := [.int _ _, .int _ _, .int _ _, .int _ _, .int _ _, _, _, .int _ _, .int _ _]) (f' := true) rfl rfl rfl Try.sizeOf48 rfl rfl rfl rfl rfl) ?_
                  | refine s0w rfl (lop_storeK (v := .sl _ _) (cs' := [.int _ _, .int _ _, .int _ _, .int _ _, .int _ _, _, _, .int _ _, .int _ _]) (f' := false) rfl rfl rfl Try.sizeOf48 rfl rfl rfl rfl rfl) ?_
                  | refine s0w rfl (lop_storeK (v := .os _ _ _ _) (cs' := [.int _ _, .int _ _, .int _ _, .int _ _, .int _ _, _, _, .int _ _, .int _ _]) (f' := false) rfl rfl rfl Try.sizeOf48 rfl rfl rfl rfl rfl) ?_
                  | refine s0w rfl (lop_storeK (v := .z0) (cs' := [.int _ _, .int _ _, .int _ _, .int _ _, .int _ _, _, _, .int _ _, .int _ _]) (f' := false) rfl rfl rfl Try.sizeOf48 rfl rfl rfl rfl rfl) ?_
                refine ops_nil ?_
                refine ok_reg ?_
                first
                  | refine s1 rfl (lop_fieldAddr_rf (fo := 0) rfl Try.underlying26 rfl rfl Try.sizeOf22 (by decide)) ?_
                  | refine s1 rfl (lop_fieldAddr_fp (fo := 0) rfl Try.underlying26 rfl rfl Try.sizeOf22 (by decide) rfl) ?_
                first
                  | refine s1 rfl (lop_load_rf rfl rfl Try.isAgg22 rfl) ?_
                  | refine s1 rfl (lop_load_fp rfl Try.isAgg22 rfl) ?_
                refine s1 rfl (lop_move (v := .int _ _) rfl) ?_
                first
                  | refine s1 rfl (lop_load_rf_agg (ys := [.int _ _, .int _ _, .int _ _, .int _ _, .int _ _, _, _, .int _ _, .int _ _]) rfl rfl Try.isAgg50 Try.sizeOf50 (Nat.le_of_ble_eq_true rfl) rfl) ?_
                  | refine s1 rfl (lop_load_fp_agg (ys := [.int _ _, .int _ _, .int _ _, .int _ _, .int _ _, _, _, .int _ _, .int _ _]) rfl Try.isAgg50 Try.sizeOf50 (Nat.le_of_ble_eq_true rfl) rfl) ?_
                refine s1 rfl (lop_call rfl Try.call62 (FrzL.tf rfl) (.inl rfl) (set_Vol_ac (l := x.vols) (by omega) hvm.2.1 { (volF x c.vol).1 with parts := (volF x c.vol).1.parts ++ [⟨c.off, c.n⟩] })) ?_
                first
                  | refine s1 rfl (lop_fieldAddr_rf (fo := 0) rfl Try.underlying26 rfl rfl Try.sizeOf22 (by decide)) ?_
                  | refine s1 rfl (lop_fieldAddr_fp (fo := 0) rfl Try.underlying26 rfl rfl Try.sizeOf22 (by decide) rfl) ?_
                first
                  | refine s0w rfl (lop_storeK (v := .sl _ _) (cs' := [_, _, _]) (f' := true) rfl rfl rfl Try.sizeOf22 rfl rfl rfl rfl rfl) ?_
                  | refine s0w rfl (lop_storeK (v := .os _ _ _ _) (cs' := [_, _, _]) (f' := true) rfl rfl rfl Try.sizeOf22 rfl rfl rfl rfl rfl) ?_
                  | refine s0w rfl (lop_storeK (v := .z0) (cs' := [_, _, _]) (f' := true) rfl rfl rfl Try.sizeOf22 rfl rfl rfl rfl rfl) ?_
                  | refine s0w rfl (lop_storeK (v := .sl _ _) (cs' := [_, _, _]) (f' := false) rfl rfl rfl Try.sizeOf22 rfl rfl rfl rfl rfl) ?_
                  | refine s0w rfl (lop_storeK (v := .os _ _ _ _) (cs' := [_, _, _]) (f' := false) rfl rfl rfl Try.sizeOf22 rfl rfl rfl rfl rfl) ?_
                  | refine s0w rfl (lop_storeK (v := .z0) (cs' := [_, _, _]) (f' := false) rfl rfl rfl Try.sizeOf22 rfl rfl rfl rfl rfl) ?_
                refine ops_nil ?_
                refine ok_reg ?_
                first
                  | refine s1 rfl (lop_fieldAddr_rf (fo := 3) rfl Try.underlying30 rfl rfl Try.sizeOf9 (by decide)) ?_
                  | refine s1 rfl (lop_fieldAddr_fp (fo := 3) rfl Try.underlying30 rfl rfl Try.sizeOf9 (by decide) rfl) ?_
                first
                  | refine s1 rfl (lop_load_rf rfl rfl Try.isAgg9 rfl) ?_
                  | refine s1 rfl (lop_load_fp rfl Try.isAgg9 rfl) ?_
                first
                  | refine s1 rfl (lop_fieldAddr_rf (fo := 4) rfl Try.underlying30 rfl rfl Try.sizeOf3 (by decide)) ?_
                  | refine s1 rfl (lop_fieldAddr_fp (fo := 4) rfl Try.underlying30 rfl rfl Try.sizeOf3 (by decide) rfl) ?_
                first
                  | refine s1 rfl (lop_load_rf rfl rfl Try.isAgg3 rfl) ?_
                  | refine s1 rfl (lop_load_fp rfl Try.isAgg3 rfl) ?_
                first
                  | refine s1 rfl (lop_fieldAddr_rf (fo := 5) rfl Try.underlying30 rfl rfl Try.sizeOf3 (by decide)) ?_
                  | refine s1 rfl (lop_fieldAddr_fp (fo := 5) rfl Try.underlying30 rfl rfl Try.sizeOf3 (by decide) rfl) ?_
                first
                  | refine s1 rfl (lop_load_rf rfl rfl Try.isAgg3 rfl) ?_
                  | refine s1 rfl (lop_load_fp rfl Try.isAgg3 rfl) ?_
                first
                  | refine s1 rfl (lop_fieldAddr_rf (fo := 6) rfl Try.underlying30 rfl rfl Try.sizeOf3 (by decide)) ?_
                  | refine s1 rfl (lop_fieldAddr_fp (fo := 6) rfl Try.underlying30 rfl rfl Try.sizeOf3 (by decide) rfl) ?_
                first
                  | refine s1 rfl (lop_load_rf rfl rfl Try.isAgg3 rfl) ?_
                  | refine s1 rfl (lop_load_fp rfl Try.isAgg3 rfl) ?_
                first
                  | refine s1 rfl (lop_fieldAddr_rf (fo := 7) rfl Try.underlying30 rfl rfl Try.sizeOf27 (by decide)) ?_
                  | refine s1 rfl (lop_fieldAddr_fp (fo := 7) rfl Try.underlying30 rfl rfl Try.sizeOf27 (by decide) rfl) ?_
                first
                  | refine s1 rfl (lop_load_rf rfl rfl Try.isAgg27 rfl) ?_
                  | refine s1 rfl (lop_load_fp rfl Try.isAgg27 rfl) ?_
                refine s1 rfl (lop_buildK (cs := [.str _, .int _ _, .int _ _, .int _ _, .int _ _]) Try.underlying47 Try.zeroValue47 rfl rfl places47 rfl) ?_
                refine s1w rfl (lop_new (t := 10) (cs := [.str _, .int _ _, .int _ _, .int _ _, .int _ _]) Try.zeroValue47 rfl rfl rfl rfl) rfl ?_
                first
                  | refine s0w rfl (lop_storeK (v := .agg [.str _, .int _ _, .int _ _, .int _ _, .int _ _]) (cs' := [.str _, .int _ _, .int _ _, .int _ _, .int _ _]) (f' := true) rfl rfl rfl Try.sizeOf47 rfl rfl rfl rfl rfl) ?_
                  | refine s0w rfl (lop_storeK (v := .agg [.str _, .int _ _, .int _ _, .int _ _, .int _ _]) (cs' := [.str _, .int _ _, .int _ _, .int _ _, .int _ _]) (f' := false) rfl rfl rfl Try.sizeOf47 rfl rfl rfl rfl rfl) ?_
                refine ops_nil ?_
                refine ok_seq ?_
                refine ok_reg ?_
                refine s1 rfl (lop_move (v := .int _ _) rfl) ?_
                refine s1 rfl (lop_geq rfl rfl) ?_
                refine ops_nil ?_
                first
                  | refine ok_if _ rfl rfl (fun h_t98 => ?_) (fun h_t98 => ?_)
                  | refine ok_cond rfl rfl (fun h_t98 => ?_) (fun h_t98 => ?_)
                · have hnm := nameF_mem (show ¬ (nameF x c.name).2 < 0 by omega)
                  refine ok_reg ?_
                  first
                    | refine s1 rfl (lop_fieldAddr_rf (fo := 1) rfl Try.underlying26 rfl rfl Try.sizeOf23 (by decide)) ?_
                    | refine s1 rfl (lop_fieldAddr_fp (fo := 1) rfl Try.underlying26 rfl rfl Try.sizeOf23 (by decide) rfl) ?_
                  first
                    | refine s1 rfl (lop_load_rf rfl rfl Try.isAgg23 rfl) ?_
                    | refine s1 rfl (lop_load_fp rfl Try.isAgg23 rfl) ?_
                  refine s1 rfl (lop_move (v := .int _ _) rfl) ?_
                  first
                    | refine s1 rfl (lop_load_rf_agg (ys := [.str _, .int _ _, .int _ _, .int _ _, .int _ _]) rfl rfl Try.isAgg47 Try.sizeOf47 (Nat.le_of_ble_eq_true rfl) rfl) ?_
                    | refine s1 rfl (lop_load_fp_agg (ys := [.str _, .int _ _, .int _ _, .int _ _, .int _ _]) rfl Try.isAgg47 Try.sizeOf47 (Nat.le_of_ble_eq_true rfl) rfl) ?_
                  refine s1 rfl (lop_call rfl Try.call64 (FrzL.tf rfl) (.inl rfl) (set_Name_ac (l := x.names) (by omega) hnm.2.1 ⟨c.name, c.vol, c.off, c.n, c.sum⟩)) ?_
                  first
                    | refine s1 rfl (lop_fieldAddr_rf (fo := 1) rfl Try.underlying26 rfl rfl Try.sizeOf23 (by decide)) ?_
                    | refine s1 rfl (lop_fieldAddr_fp (fo := 1) rfl Try.underlying26 rfl rfl Try.sizeOf23 (by decide) rfl) ?_
                  first
                    | refine s0w rfl (lop_storeK (v := .sl _ _) (cs' := [_, _, _]) (f' := true) rfl rfl rfl Try.sizeOf23 rfl rfl rfl rfl rfl) ?_
                    | refine s0w rfl (lop_storeK (v := .os _ _ _ _) (cs' := [_, _, _]) (f' := true) rfl rfl rfl Try.sizeOf23 rfl rfl rfl rfl rfl) ?_
                    | refine s0w rfl (lop_storeK (v := .z0) (cs' := [_, _, _]) (f' := true) rfl rfl rfl Try.sizeOf23 rfl rfl rfl rfl rfl) ?_
                    | refine s0w rfl (lop_storeK (v := .sl _ _) (cs' := [_, _, _]) (f' := false) rfl rfl rfl Try.sizeOf23 rfl rfl rfl rfl rfl) ?_
                    | refine s0w rfl (lop_storeK (v := .os _ _ _ _) (cs' := [_, _, _]) (f' := false) rfl rfl rfl Try.sizeOf23 rfl rfl rfl rfl rfl) ?_
                    | refine s0w rfl (lop_storeK (v := .z0) (cs' := [_, _, _]) (f' := false) rfl rfl rfl Try.sizeOf23 rfl rfl rfl rfl rfl) ?_
                  refine ops_nil ?_
                  refine ok_reg ?_
                  first
                    | refine s1 rfl (lop_load_rf_agg (ys := [_, _, _]) rfl rfl Try.isAgg26 Try.sizeOf26 (Nat.le_of_ble_eq_true rfl) rfl) ?_
                    | refine s1 rfl (lop_load_fp_agg (ys := [_, _, _]) rfl Try.isAgg26 Try.sizeOf26 (Nat.le_of_ble_eq_true rfl) rfl) ?_
                  refine s1 rfl (lop_buildK (cs := [.int _ _, .int _ _, .int _ _, .int _ _, .int _ _, .bool _]) Try.underlying35 Try.zeroValue35 rfl rfl places35 rfl) ?_
                  first
                    | refine s0w rfl (lop_storeK (v := .agg [_, _, _]) (cs' := [_, _, _]) (f' := true) rfl rfl rfl Try.sizeOf26 rfl rfl rfl rfl rfl) ?_
                    | refine s0w rfl (lop_storeK (v := .agg [_, _, _]) (cs' := [_, _, _]) (f' := false) rfl rfl rfl Try.sizeOf26 rfl rfl rfl rfl rfl) ?_
                  first
                    | refine s0w rfl (lop_storeK (v := .agg [.int _ _, .int _ _, .int _ _, .int _ _, .int _ _, .bool _]) (cs' := [.int _ _, .int _ _, .int _ _, .int _ _, .int _ _, .bool _]) (f' := true) rfl rfl rfl Try.sizeOf35 rfl rfl rfl rfl rfl) ?_
                    | refine s0w rfl (lop_storeK (v := .agg [.int _ _, .int _ _, .int _ _, .int _ _, .int _ _, .bool _]) (cs' := [.int _ _, .int _ _, .int _ _, .int _ _, .int _ _, .bool _]) (f' := false) rfl rfl rfl Try.sizeOf35 rfl rfl rfl rfl rfl) ?_
                  refine ops_nil ?_
                  refine ok_ret ?_
                  rw [show putF x c = (⟨(setL x.vols (volF x c.vol).2 { (volF x c.vol).1 with parts := (volF x c.vol).1.parts ++ [⟨c.off, c.n⟩] }), setL x.names (nameF x c.name).2 ⟨c.name, c.vol, c.off, c.n, c.sum⟩, x.last⟩, ⟨0, 0, 0, 0, 0, true⟩) by unfold putF; rw [if_neg h_t27, if_neg h_t33, if_neg h_t38, if_neg (by omega), if_neg (by omega), if_pos h_t98]; simp only [decide_eq_true h_t98]]
                  exact ret_gen (R := [4, 5]) ⟨_, _, rfl, ⟨rfl, 4, 0, _, _, rfl, rfl, .inl ⟨3, Try.isAgg26, Try.sizeOf26, Nat.le_of_ble_eq_true rfl, rfl⟩⟩, _, _, rfl, ⟨rfl, 5, 0, _, _, rfl, rfl, .inl ⟨6, Try.isAgg35, Try.sizeOf35, Nat.le_of_ble_eq_true rfl, rfl⟩⟩, rfl⟩ (.tup (.cons (.agg (FrzL.tf rfl)) (.cons (.agg (FrzL.tf rfl)) .nil))) (fun t ht => by simp at ht; rcases ht with rfl | rfl <;> exact Option.some_ne_none _)
                · refine ok_skip ?_
                  refine ok_reg ?_
                  first
                    | refine s1 rfl (lop_fieldAddr_rf (fo := 1) rfl Try.underlying26 rfl rfl Try.sizeOf23 (by decide)) ?_
                    | refine s1 rfl (lop_fieldAddr_fp (fo := 1) rfl Try.underlying26 rfl rfl Try.sizeOf23 (by decide) rfl) ?_
                  first
                    | refine s1 rfl (lop_load_rf rfl rfl Try.isAgg23 rfl) ?_
                    | refine s1 rfl (lop_load_fp rfl Try.isAgg23 rfl) ?_
                  first
                    | refine s1 rfl (lop_func (vs := [.rf _ _]) rfl) ?_
                    | refine s1 rfl (lop_func (vs := [.fp _]) rfl) ?_
                  refine ops_le (T := ⟨[(2, .rf 2 0), (3, .fp c.enc), (4, .rf 4 0), (5, .rf 5 0), (10, .rf 10 0), (109, rowOf NameD.enc x.names), (110, .fn 65 [.fp c.enc])], [(2, some (true, [rowOf VolD.enc (setL x.vols (volF x c.vol).2 { (volF x c.vol).1 with parts := (volF x c.vol).1.parts ++ [⟨c.off, c.n⟩] }), rowOf NameD.enc x.names, rowOf SessD.enc x.last])), (4, some (true, [.z0, .z0, .z0])), (5, some (true, ReplyD.zero.enc)), (10, some (true, (⟨c.name, c.vol, c.off, c.n, c.sum⟩ : NameD).enc))], 129⟩) (le_frz [3] ⟨.inl ⟨rfl, rfl⟩, .inr (fz_sound _ [3] _ rfl), .inl ⟨rfl, rfl⟩, .inl ⟨rfl, rfl⟩, .inl ⟨rfl, rfl⟩, .inl ⟨rfl, rfl⟩, .inr (fz_sound _ [3] _ rfl), trivial⟩ ⟨.inr ⟨rfl, rfl, trivial⟩, .inr ⟨rfl, rfl, trivial⟩, .inr ⟨rfl, rfl, trivial⟩, .inr ⟨rfl, rfl, trivial⟩, trivial⟩ (fun t ht => by simp at ht; subst ht; exact Option.some_ne_none _) rfl) ?_
                  refine s1 rfl (lop_call rfl Try.call55 (FrzL.tf rfl) (.inl rfl) (find_Name_ac (p := fun y => sgt y.name c.name) (l := x.names) (by omega) Try.call65 rfl (fun y _ => put1_ac y c))) ?_
                  refine s1 rfl (lop_move (v := .tup _) rfl) ?_
                  refine s1 rfl (lop_extract rfl rfl) ?_
                  refine s1 rfl (lop_extract rfl rfl) ?_
                  refine s1w rfl (lop_new (t := 11) (cs := [.str _, .int _ _, .int _ _, .int _ _, .int _ _]) Try.zeroValue47 rfl rfl rfl rfl) rfl ?_
                  first
                    | refine s0w rfl (lop_storeK (v := .agg [.str _, .int _ _, .int _ _, .int _ _, .int _ _]) (cs' := [.str _, .int _ _, .int _ _, .int _ _, .int _ _]) (f' := true) rfl rfl rfl Try.sizeOf47 rfl rfl rfl rfl rfl) ?_
                    | refine s0w rfl (lop_storeK (v := .agg [.str _, .int _ _, .int _ _, .int _ _, .int _ _]) (cs' := [.str _, .int _ _, .int _ _, .int _ _, .int _ _]) (f' := false) rfl rfl rfl Try.sizeOf47 rfl rfl rfl rfl rfl) ?_
                  refine s1 rfl (lop_assign (v := .int _ _) rfl) ?_
                  refine ops_nil ?_
                  refine ok_seq ?_
                  refine ok_reg ?_
                  refine s1 rfl (lop_move (v := .int _ _) rfl) ?_
                  refine s1 rfl (lop_lss rfl rfl) ?_
                  refine ops_nil ?_
                  first
                    | refine ok_if _ rfl rfl (fun h_t115 => ?_) (fun h_t115 => ?_)
                    | refine ok_cond rfl rfl (fun h_t115 => ?_) (fun h_t115 => ?_)
                  · have hI := putAt_no (show idxOf (fun y : NameD => sgt y.name c.name) x.names < 0 by rw [← findG_idx NameD.zero]; exact h_t115)
                    refine ok_region ?_
                    first
                      | refine s1 rfl (lop_fieldAddr_rf (fo := 1) rfl Try.underlying26 rfl rfl Try.sizeOf23 (by decide)) ?_
                      | refine s1 rfl (lop_fieldAddr_fp (fo := 1) rfl Try.underlying26 rfl rfl Try.sizeOf23 (by decide) rfl) ?_
                    first
                      | refine s1 rfl (lop_load_rf rfl rfl Try.isAgg23 rfl) ?_
                      | refine s1 rfl (lop_load_fp rfl Try.isAgg23 rfl) ?_
                    refine s1 rfl (lop_len rfl Try.underlying23 ⟨⟨_, rfl⟩, rfl⟩) ?_
                    refine s1 rfl (lop_assign (v := .int _ _) rfl) ?_
                    refine ops_nil ?_
                    refine ok_drw Try.mixed ?_
                    first
                      | refine d1 rfl rfl (lop_fieldAddr_rf (fo := 1) rfl Try.underlying26 rfl rfl Try.sizeOf23 (by decide)) ?_
                      | refine d1 rfl rfl (lop_fieldAddr_fp (fo := 1) rfl Try.underlying26 rfl rfl Try.sizeOf23 (by decide) rfl) ?_
                    first
                      | refine d1 rfl rfl (lop_load_rf rfl rfl Try.isAgg23 rfl) ?_
                      | refine d1 rfl rfl (lop_load_fp rfl Try.isAgg23 rfl) ?_
                    refine d1w rfl rfl (lop_callH (R := []) (nw := [500]) (W := [(500, some (true, x.names.flatMap NameD.enc))]) rfl Try.call67 rfl (clone_Name_ac (by have := hx.names; omega)) trivial rfl rfl rfl rfl rfl rfl) ?_
                    refine d1 rfl rfl (lop_move (v := .int _ _) rfl) ?_
                    first
                      | refine d1 rfl rfl (lop_load_rf_agg (ys := [.str _, .int _ _, .int _ _, .int _ _, .int _ _]) rfl rfl Try.isAgg47 Try.sizeOf47 (Nat.le_of_ble_eq_true rfl) rfl) ?_
                      | refine d1 rfl rfl (lop_load_fp_agg (ys := [.str _, .int _ _, .int _ _, .int _ _, .int _ _]) rfl Try.isAgg47 Try.sizeOf47 (Nat.le_of_ble_eq_true rfl) rfl) ?_
                    first
                      | refine d1w rfl rfl (lop_buildSlice (t := 501) (cs := [.str _, .int _ _, .int _ _, .int _ _, .int _ _]) (f := true) Try.underlying23 Try.sizeOf47 (by decide) Try.zeroValue47 rfl rfl rfl (by decide) rfl (.inr (by decide)) rfl (fun h => by cases h)) ?_
                      | refine d1w rfl rfl (lop_buildSlice (t := 501) (cs := [.str _, .int _ _, .int _ _, .int _ _, .int _ _]) (f := false) Try.underlying23 Try.sizeOf47 (by decide) Try.zeroValue47 rfl rfl rfl (by decide) rfl (.inr (by decide)) rfl (fun _ => rfl)) ?_
                    first
                      | refine d3w rfl rfl (lop_callH (R := [500, 501]) (nw := [502]) (W := [(502, some (true, (insG x.names x.names.length ⟨c.name, c.vol, c.off, c.n, c.sum⟩).flatMap NameD.enc)), (500, none), (501, none)]) rfl Try.call66 rfl (insert_Name_ac (L := x.names) (n := x.names.length) (i := x.names.length) rfl (by omega) (by omega) ⟨c.name, c.vol, c.off, c.n, c.sum⟩) (by exact ⟨.inr rfl, .inr rfl, trivial⟩) rfl rfl rfl rfl rfl rfl) ?_
                      | refine d3w rfl rfl (lop_callH (R := [500, 501]) (nw := [502]) (W := [(502, some (true, (insG x.names i ⟨c.name, c.vol, c.off, c.n, c.sum⟩).flatMap NameD.enc)), (500, none), (501, none)]) rfl Try.call66 rfl (insert_Name_ac (L := x.names) (n := x.names.length) (i := i) rfl (by omega) (by omega) ⟨c.name, c.vol, c.off, c.n, c.sum⟩) (by exact ⟨.inr rfl, .inr rfl, trivial⟩) rfl rfl rfl rfl rfl rfl) ?_
                    first
                      | refine d1 rfl rfl (lop_fieldAddr_rf (fo := 1) rfl Try.underlying26 rfl rfl Try.sizeOf23 (by decide)) ?_
                      | refine d1 rfl rfl (lop_fieldAddr_fp (fo := 1) rfl Try.underlying26 rfl rfl Try.sizeOf23 (by decide) rfl) ?_
                    first
                      | refine d0w rfl rfl (lop_storeK (v := .sl _ _) (cs' := [_, _, _]) (f' := true) rfl rfl rfl Try.sizeOf23 rfl rfl rfl rfl rfl) ?_
                      | refine d0w rfl rfl (lop_storeK (v := .os _ _ _ _) (cs' := [_, _, _]) (f' := true) rfl rfl rfl Try.sizeOf23 rfl rfl rfl rfl rfl) ?_
                      | refine d0w rfl rfl (lop_storeK (v := .z0) (cs' := [_, _, _]) (f' := true) rfl rfl rfl Try.sizeOf23 rfl rfl rfl rfl rfl) ?_
                      | refine d0w rfl rfl (lop_storeK (v := .sl _ _) (cs' := [_, _, _]) (f' := false) rfl rfl rfl Try.sizeOf23 rfl rfl rfl rfl rfl) ?_
                      | refine d0w rfl rfl (lop_storeK (v := .os _ _ _ _) (cs' := [_, _, _]) (f' := false) rfl rfl rfl Try.sizeOf23 rfl rfl rfl rfl rfl) ?_
                      | refine d0w rfl rfl (lop_storeK (v := .z0) (cs' := [_, _, _]) (f' := false) rfl rfl rfl Try.sizeOf23 rfl rfl rfl rfl rfl) ?_
                    refine dr_nil (by kernel_rfl) ?_
                    refine ok_reg ?_
                    first
                      | refine s1 rfl (lop_load_rf_agg (ys := [_, _, _]) rfl rfl Try.isAgg26 Try.sizeOf26 (Nat.le_of_ble_eq_true rfl) rfl) ?_
                      | refine s1 rfl (lop_load_fp_agg (ys := [_, _, _]) rfl Try.isAgg26 Try.sizeOf26 (Nat.le_of_ble_eq_true rfl) rfl) ?_
                    refine s1 rfl (lop_buildK (cs := [.int _ _, .int _ _, .int _ _, .int _ _, .int _ _, .bool _]) Try.underlying35 Try.zeroValue35 rfl rfl places35 rfl) ?_
                    first
                      | refine s0w rfl (lop_storeK (v := .agg [_, _, _]) (cs' := [_, _, _]) (f' := true) rfl rfl rfl Try.sizeOf26 rfl rfl rfl rfl rfl) ?_
                      | refine s0w rfl (lop_storeK (v := .agg [_, _, _]) (cs' := [_, _, _]) (f' := false) rfl rfl rfl Try.sizeOf26 rfl rfl rfl rfl rfl) ?_
                    first
                      | refine s0w rfl (lop_storeK (v := .agg [.int _ _, .int _ _, .int _ _, .int _ _, .int _ _, .bool _]) (cs' := [.int _ _, .int _ _, .int _ _, .int _ _, .int _ _, .bool _]) (f' := true) rfl rfl rfl Try.sizeOf35 rfl rfl rfl rfl rfl) ?_
                      | refine s0w rfl (lop_storeK (v := .agg [.int _ _, .int _ _, .int _ _, .int _ _, .int _ _, .bool _]) (cs' := [.int _ _, .int _ _, .int _ _, .int _ _, .int _ _, .bool _]) (f' := false) rfl rfl rfl Try.sizeOf35 rfl rfl rfl rfl rfl) ?_
                    refine ops_nil ?_
                    refine ok_ret ?_
                    rw [show putF x c = (⟨(setL x.vols (volF x c.vol).2 { (volF x c.vol).1 with parts := (volF x c.vol).1.parts ++ [⟨c.off, c.n⟩] }), (insG x.names x.names.length ⟨c.name, c.vol, c.off, c.n, c.sum⟩), x.last⟩, ⟨0, 0, 0, 0, 0, false⟩) by unfold putF; rw [if_neg h_t27, if_neg h_t33, if_neg h_t38, if_neg (by omega), if_neg (by omega), if_neg (by omega), hI]; simp only [decide_eq_false h_t98]; rfl]
                    have hdl : (insG x.names x.names.length ⟨c.name, c.vol, c.off, c.n, c.sum⟩).length = x.names.length + 1 := insG_len (by omega) rfl
                    simp only [IdxD.enc]
                    rw [show rowOf NameD.enc (insG x.names x.names.length ⟨c.name, c.vol, c.off, c.n, c.sum⟩) = .sl (x.names.length + 1) ((insG x.names x.names.length ⟨c.name, c.vol, c.off, c.n, c.sum⟩).flatMap NameD.enc) by unfold rowOf; rw [hdl]]
                    exact ret_gen (R := [4, 5, 502]) ⟨_, _, rfl, ⟨rfl, 4, 0, _, _, rfl, rfl, .inl ⟨3, Try.isAgg26, Try.sizeOf26, Nat.le_of_ble_eq_true rfl, rfl⟩⟩, _, _, rfl, ⟨rfl, 5, 0, _, _, rfl, rfl, .inl ⟨6, Try.isAgg35, Try.sizeOf35, Nat.le_of_ble_eq_true rfl, rfl⟩⟩, rfl⟩ (.tup (.cons (.agg (.cons (.tf rfl) (.cons (.osf (by simp) rfl (by rw [flat_length NameD.len, hdl]; omega) (by rw [List.drop_zero, List.take_of_length_le (by rw [flat_length NameD.len, hdl]; omega)])) (.cons (.tf rfl) .nil)))) (.cons (.agg (FrzL.tf rfl)) .nil))) (fun t ht => by simp at ht; rcases ht with rfl | rfl | rfl <;> exact Option.some_ne_none _)
                  · obtain ⟨i, hi, hix, hat, _⟩ := findG_at (z := NameD.zero) (show ¬ idxOf (fun y : NameD => sgt y.name c.name) x.names < 0 by rw [← findG_idx NameD.zero]; exact h_t115)
                    have hI := putAt_at hix
                    rw [hat]
                    dsimp only
                    refine ok_skip ?_
                    refine ok_drw Try.mixed ?_
                    first
                      | refine d1 rfl rfl (lop_fieldAddr_rf (fo := 1) rfl Try.underlying26 rfl rfl Try.sizeOf23 (by decide)) ?_
                      | refine d1 rfl rfl (lop_fieldAddr_fp (fo := 1) rfl Try.underlying26 rfl rfl Try.sizeOf23 (by decide) rfl) ?_
                    first
                      | refine d1 rfl rfl (lop_load_rf rfl rfl Try.isAgg23 rfl) ?_
                      | refine d1 rfl rfl (lop_load_fp rfl Try.isAgg23 rfl) ?_
                    refine d1w rfl rfl (lop_callH (R := []) (nw := [500]) (W := [(500, some (true, x.names.flatMap NameD.enc))]) rfl Try.call67 rfl (clone_Name_ac (by have := hx.names; omega)) trivial rfl rfl rfl rfl rfl rfl) ?_
                    refine d1 rfl rfl (lop_move (v := .int _ _) rfl) ?_
                    first
                      | refine d1 rfl rfl (lop_load_rf_agg (ys := [.str _, .int _ _, .int _ _, .int _ _, .int _ _]) rfl rfl Try.isAgg47 Try.sizeOf47 (Nat.le_of_ble_eq_true rfl) rfl) ?_
                      | refine d1 rfl rfl (lop_load_fp_agg (ys := [.str _, .int _ _, .int _ _, .int _ _, .int _ _]) rfl Try.isAgg47 Try.sizeOf47 (Nat.le_of_ble_eq_true rfl) rfl) ?_
                    first
                      | refine d1w rfl rfl (lop_buildSlice (t := 501) (cs := [.str _, .int _ _, .int _ _, .int _ _, .int _ _]) (f := true) Try.underlying23 Try.sizeOf47 (by decide) Try.zeroValue47 rfl rfl rfl (by decide) rfl (.inr (by decide)) rfl (fun h => by cases h)) ?_
                      | refine d1w rfl rfl (lop_buildSlice (t := 501) (cs := [.str _, .int _ _, .int _ _, .int _ _, .int _ _]) (f := false) Try.underlying23 Try.sizeOf47 (by decide) Try.zeroValue47 rfl rfl rfl (by decide) rfl (.inr (by decide)) rfl (fun _ => rfl)) ?_
                    first
                      | refine d3w rfl rfl (lop_callH (R := [500, 501]) (nw := [502]) (W := [(502, some (true, (insG x.names x.names.length ⟨c.name, c.vol, c.off, c.n, c.sum⟩).flatMap NameD.enc)), (500, none), (501, none)]) rfl Try.call66 rfl (insert_Name_ac (L := x.names) (n := x.names.length) (i := x.names.length) rfl (by omega) (by omega) ⟨c.name, c.vol, c.off, c.n, c.sum⟩) (by exact ⟨.inr rfl, .inr rfl, trivial⟩) rfl rfl rfl rfl rfl rfl) ?_
                      | refine d3w rfl rfl (lop_callH (R := [500, 501]) (nw := [502]) (W := [(502, some (true, (insG x.names i ⟨c.name, c.vol, c.off, c.n, c.sum⟩).flatMap NameD.enc)), (500, none), (501, none)]) rfl Try.call66 rfl (insert_Name_ac (L := x.names) (n := x.names.length) (i := i) rfl (by omega) (by omega) ⟨c.name, c.vol, c.off, c.n, c.sum⟩) (by exact ⟨.inr rfl, .inr rfl, trivial⟩) rfl rfl rfl rfl rfl rfl) ?_
                    first
                      | refine d1 rfl rfl (lop_fieldAddr_rf (fo := 1) rfl Try.underlying26 rfl rfl Try.sizeOf23 (by decide)) ?_
                      | refine d1 rfl rfl (lop_fieldAddr_fp (fo := 1) rfl Try.underlying26 rfl rfl Try.sizeOf23 (by decide) rfl) ?_
                    first
                      | refine d0w rfl rfl (lop_storeK (v := .sl _ _) (cs' := [_, _, _]) (f' := true) rfl rfl rfl Try.sizeOf23 rfl rfl rfl rfl rfl) ?_
                      | refine d0w rfl rfl (lop_storeK (v := .os _ _ _ _) (cs' := [_, _, _]) (f' := true) rfl rfl rfl Try.sizeOf23 rfl rfl rfl rfl rfl) ?_
                      | refine d0w rfl rfl (lop_storeK (v := .z0) (cs' := [_, _, _]) (f' := true) rfl rfl rfl Try.sizeOf23 rfl rfl rfl rfl rfl) ?_
                      | refine d0w rfl rfl (lop_storeK (v := .sl _ _) (cs' := [_, _, _]) (f' := false) rfl rfl rfl Try.sizeOf23 rfl rfl rfl rfl rfl) ?_
                      | refine d0w rfl rfl (lop_storeK (v := .os _ _ _ _) (cs' := [_, _, _]) (f' := false) rfl rfl rfl Try.sizeOf23 rfl rfl rfl rfl rfl) ?_
                      | refine d0w rfl rfl (lop_storeK (v := .z0) (cs' := [_, _, _]) (f' := false) rfl rfl rfl Try.sizeOf23 rfl rfl rfl rfl rfl) ?_
                    refine dr_nil (by kernel_rfl) ?_
                    refine ok_reg ?_
                    first
                      | refine s1 rfl (lop_load_rf_agg (ys := [_, _, _]) rfl rfl Try.isAgg26 Try.sizeOf26 (Nat.le_of_ble_eq_true rfl) rfl) ?_
                      | refine s1 rfl (lop_load_fp_agg (ys := [_, _, _]) rfl Try.isAgg26 Try.sizeOf26 (Nat.le_of_ble_eq_true rfl) rfl) ?_
                    refine s1 rfl (lop_buildK (cs := [.int _ _, .int _ _, .int _ _, .int _ _, .int _ _, .bool _]) Try.underlying35 Try.zeroValue35 rfl rfl places35 rfl) ?_
                    first
                      | refine s0w rfl (lop_storeK (v := .agg [_, _, _]) (cs' := [_, _, _]) (f' := true) rfl rfl rfl Try.sizeOf26 rfl rfl rfl rfl rfl) ?_
                      | refine s0w rfl (lop_storeK (v := .agg [_, _, _]) (cs' := [_, _, _]) (f' := false) rfl rfl rfl Try.sizeOf26 rfl rfl rfl rfl rfl) ?_
                    first
                      | refine s0w rfl (lop_storeK (v := .agg [.int _ _, .int _ _, .int _ _, .int _ _, .int _ _, .bool _]) (cs' := [.int _ _, .int _ _, .int _ _, .int _ _, .int _ _, .bool _]) (f' := true) rfl rfl rfl Try.sizeOf35 rfl rfl rfl rfl rfl) ?_
                      | refine s0w rfl (lop_storeK (v := .agg [.int _ _, .int _ _, .int _ _, .int _ _, .int _ _, .bool _]) (cs' := [.int _ _, .int _ _, .int _ _, .int _ _, .int _ _, .bool _]) (f' := false) rfl rfl rfl Try.sizeOf35 rfl rfl rfl rfl rfl) ?_
                    refine ops_nil ?_
                    refine ok_ret ?_
                    rw [show putF x c = (⟨(setL x.vols (volF x c.vol).2 { (volF x c.vol).1 with parts := (volF x c.vol).1.parts ++ [⟨c.off, c.n⟩] }), (insG x.names i ⟨c.name, c.vol, c.off, c.n, c.sum⟩), x.last⟩, ⟨0, 0, 0, 0, 0, false⟩) by unfold putF; rw [if_neg h_t27, if_neg h_t33, if_neg h_t38, if_neg (by omega), if_neg (by omega), if_neg (by omega), hI]; simp only [decide_eq_false h_t98]; rfl]
                    have hdl : (insG x.names i ⟨c.name, c.vol, c.off, c.n, c.sum⟩).length = x.names.length + 1 := insG_len (by omega) rfl
                    simp only [IdxD.enc]
                    rw [show rowOf NameD.enc (insG x.names i ⟨c.name, c.vol, c.off, c.n, c.sum⟩) = .sl (x.names.length + 1) ((insG x.names i ⟨c.name, c.vol, c.off, c.n, c.sum⟩).flatMap NameD.enc) by unfold rowOf; rw [hdl]]
                    exact ret_gen (R := [4, 5, 502]) ⟨_, _, rfl, ⟨rfl, 4, 0, _, _, rfl, rfl, .inl ⟨3, Try.isAgg26, Try.sizeOf26, Nat.le_of_ble_eq_true rfl, rfl⟩⟩, _, _, rfl, ⟨rfl, 5, 0, _, _, rfl, rfl, .inl ⟨6, Try.isAgg35, Try.sizeOf35, Nat.le_of_ble_eq_true rfl, rfl⟩⟩, rfl⟩ (.tup (.cons (.agg (.cons (.tf rfl) (.cons (.osf (by simp) rfl (by rw [flat_length NameD.len, hdl]; omega) (by rw [List.drop_zero, List.take_of_length_le (by rw [flat_length NameD.len, hdl]; omega)])) (.cons (.tf rfl) .nil)))) (.cons (.agg (FrzL.tf rfl)) .nil))) (fun t ht => by simp at ht; rcases ht with rfl | rfl | rfl <;> exact Option.some_ne_none _)
            · refine n1 rfl rfl g11_2 ?_
              refine n1 rfl rfl g11_2 ?_
              refine n1 rfl rfl g11_2 ?_
              refine n1 rfl rfl g11_2 ?_
              first
                | refine s1 rfl (lop_pick_f (v := .bool _) rfl g11_2 rfl) ?_
                | refine s1 rfl (lop_pick_t (v := .bool _) rfl rfl rfl) ?_
                | refine s1 rfl (lop_pick_f (v := .bool _) rfl rfl rfl) ?_
                | refine s1 rfl (lop_pick rfl rfl rfl) ?_
              refine s1 rfl (lop_assign (v := .bool _) rfl) ?_
              refine ops_nil ?_
              refine ok_false rfl rfl ?_
              refine ok_skip ?_
              refine ok_reg ?_
              first
                | refine s1 rfl (lop_fieldAddr_rf (fo := 5) rfl Try.underlying50 rfl rfl Try.sizeOf48 (by decide)) ?_
                | refine s1 rfl (lop_fieldAddr_fp (fo := 5) rfl Try.underlying50 rfl rfl Try.sizeOf48 (by decide) rfl) ?_
              first
                | refine s1 rfl (lop_load_rf rfl rfl Try.isAgg48 rfl) ?_
                | refine s1 rfl (lop_load_fp rfl Try.isAgg48 rfl) ?_
              first
                | refine s1 rfl (lop_fieldAddr_rf (fo := 5) rfl Try.underlying30 rfl rfl Try.sizeOf3 (by decide)) ?_
                | refine s1 rfl (lop_fieldAddr_fp (fo := 5) rfl Try.underlying30 rfl rfl Try.sizeOf3 (by decide) rfl) ?_
              first
                | refine s1 rfl (lop_load_rf rfl rfl Try.isAgg3 rfl) ?_
                | refine s1 rfl (lop_load_fp rfl Try.isAgg3 rfl) ?_
              first
                | refine s1 rfl (lop_fieldAddr_rf (fo := 6) rfl Try.underlying30 rfl rfl Try.sizeOf3 (by decide)) ?_
                | refine s1 rfl (lop_fieldAddr_fp (fo := 6) rfl Try.underlying30 rfl rfl Try.sizeOf3 (by decide) rfl) ?_
              first
                | refine s1 rfl (lop_load_rf rfl rfl Try.isAgg3 rfl) ?_
                | refine s1 rfl (lop_load_fp rfl Try.isAgg3 rfl) ?_
              refine s1 rfl (lop_buildK (cs := [.int _ _, .int _ _]) Try.underlying54 Try.zeroValue54 rfl rfl places54 rfl) ?_
              refine s1 rfl (lop_call rfl Try.call63 (FrzL.tf rfl) (.inl rfl) (set_Span_ac (l := (volF x c.vol).1.parts) (by omega) (i := -1) (by omega) ⟨c.off, c.n⟩)) ?_
              first
                | refine s1 rfl (lop_fieldAddr_rf (fo := 5) rfl Try.underlying50 rfl rfl Try.sizeOf48 (by decide)) ?_
                | refine s1 rfl (lop_fieldAddr_fp (fo := 5) rfl Try.underlying50 rfl rfl Try.sizeOf48 (by decide) rfl) ?_
              first
                | refine s0w rfl (lop_storeK (v := .sl _ _) (cs' := [.int _ _, .int _ _, .int _ _, .int _ _, .int _ _, _, _, .int _ _, .int _ _]) (f' := true) rfl rfl rfl Try.sizeOf48 rfl rfl rfl rfl rfl) ?_
                | refine s0w rfl (lop_storeK (v := .os _ _ _ _) (cs' := [.int _ _, .int _ _, .int _ _, .int _ _, .int _ _, _, _, .int _ _, .int _ _]) (f' := true) rfl rfl rfl Try.sizeOf48 rfl rfl rfl rfl rfl) ?_
                | refine s0w rfl (lop_storeK (v := .z0) (cs' := [.int _ _, .int _ _, .int _ _, .int _ _, .int _ _, _, _, .int _ _, .int _ _]) (f' := true) rfl rfl rfl Try.sizeOf48 rfl rfl rfl rfl rfl) ?_
                | refine s0w rfl (lop_storeK (v := .sl _ _) (cs' := [.int _ _, .int _ _, .int _ _, .int _ _, .int _ _, _, _, .int _ _, .int _ _]) (f' := false) rfl rfl rfl Try.sizeOf48 rfl rfl rfl rfl rfl) ?_
                | refine s0w rfl (lop_storeK (v := .os _ _ _ _) (cs' := [.int _ _, .int _ _, .int _ _, .int _ _, .int _ _, _, _, .int _ _, .int _ _]) (f' := false) rfl rfl rfl Try.sizeOf48 rfl rfl rfl rfl rfl) ?_
                | refine s0w rfl (lop_storeK (v := .z0) (cs' := [.int _ _, .int _ _, .int _ _, .int _ _, .int _ _, _, _, .int _ _, .int _ _]) (f' := false) rfl rfl rfl Try.sizeOf48 rfl rfl rfl rfl rfl) ?_
              refine ops_nil ?_
              refine ok_reg ?_
              first
                | refine s1 rfl (lop_fieldAddr_rf (fo := 0) rfl Try.underlying26 rfl rfl Try.sizeOf22 (by decide)) ?_
                | refine s1 rfl (lop_fieldAddr_fp (fo := 0) rfl Try.underlying26 rfl rfl Try.sizeOf22 (by decide) rfl) ?_
              first
                | refine s1 rfl (lop_load_rf rfl rfl Try.isAgg22 rfl) ?_
                | refine s1 rfl (lop_load_fp rfl Try.isAgg22 rfl) ?_
              refine s1 rfl (lop_move (v := .int _ _) rfl) ?_
              first
                | refine s1 rfl (lop_load_rf_agg (ys := [.int _ _, .int _ _, .int _ _, .int _ _, .int _ _, _, _, .int _ _, .int _ _]) rfl rfl Try.isAgg50 Try.sizeOf50 (Nat.le_of_ble_eq_true rfl) rfl) ?_
                | refine s1 rfl (lop_load_fp_agg (ys := [.int _ _, .int _ _, .int _ _, .int _ _, .int _ _, _, _, .int _ _, .int _ _]) rfl Try.isAgg50 Try.sizeOf50 (Nat.le_of_ble_eq_true rfl) rfl) ?_
              refine s1 rfl (lop_call rfl Try.call62 (FrzL.tf rfl) (.inl rfl) (set_Vol_ac (l := x.vols) (by omega) hvm.2.1 { (volF x c.vol).1 with parts := (volF x c.vol).1.parts ++ [⟨c.off, c.n⟩] })) ?_
              first
                | refine s1 rfl (lop_fieldAddr_rf (fo := 0) rfl Try.underlying26 rfl rfl Try.sizeOf22 (by decide)) ?_
                | refine s1 rfl (lop_fieldAddr_fp (fo := 0) rfl Try.underlying26 rfl rfl Try.sizeOf22 (by decide) rfl) ?_
              first
                | refine s0w rfl (lop_storeK (v := .sl _ _) (cs' := [_, _, _]) (f' := true) rfl rfl rfl Try.sizeOf22 rfl rfl rfl rfl rfl) ?_
                | refine s0w rfl (lop_storeK (v := .os _ _ _ _) (cs' := [_, _, _]) (f' := true) rfl rfl rfl Try.sizeOf22 rfl rfl rfl rfl rfl) ?_
                | refine s0w rfl (lop_storeK (v := .z0) (cs' := [_, _, _]) (f' := true) rfl rfl rfl Try.sizeOf22 rfl rfl rfl rfl rfl) ?_
                | refine s0w rfl (lop_storeK (v := .sl _ _) (cs' := [_, _, _]) (f' := false) rfl rfl rfl Try.sizeOf22 rfl rfl rfl rfl rfl) ?_
                | refine s0w rfl (lop_storeK (v := .os _ _ _ _) (cs' := [_, _, _]) (f' := false) rfl rfl rfl Try.sizeOf22 rfl rfl rfl rfl rfl) ?_
                | refine s0w rfl (lop_storeK (v := .z0) (cs' := [_, _, _]) (f' := false) rfl rfl rfl Try.sizeOf22 rfl rfl rfl rfl rfl) ?_
              refine ops_nil ?_
              refine ok_reg ?_
              first
                | refine s1 rfl (lop_fieldAddr_rf (fo := 3) rfl Try.underlying30 rfl rfl Try.sizeOf9 (by decide)) ?_
                | refine s1 rfl (lop_fieldAddr_fp (fo := 3) rfl Try.underlying30 rfl rfl Try.sizeOf9 (by decide) rfl) ?_
              first
                | refine s1 rfl (lop_load_rf rfl rfl Try.isAgg9 rfl) ?_
                | refine s1 rfl (lop_load_fp rfl Try.isAgg9 rfl) ?_
              first
                | refine s1 rfl (lop_fieldAddr_rf (fo := 4) rfl Try.underlying30 rfl rfl Try.sizeOf3 (by decide)) ?_
                | refine s1 rfl (lop_fieldAddr_fp (fo := 4) rfl Try.underlying30 rfl rfl Try.sizeOf3 (by decide) rfl) ?_
              first
                | refine s1 rfl (lop_load_rf rfl rfl Try.isAgg3 rfl) ?_
                | refine s1 rfl (lop_load_fp rfl Try.isAgg3 rfl) ?_
              first
                | refine s1 rfl (lop_fieldAddr_rf (fo := 5) rfl Try.underlying30 rfl rfl Try.sizeOf3 (by decide)) ?_
                | refine s1 rfl (lop_fieldAddr_fp (fo := 5) rfl Try.underlying30 rfl rfl Try.sizeOf3 (by decide) rfl) ?_
              first
                | refine s1 rfl (lop_load_rf rfl rfl Try.isAgg3 rfl) ?_
                | refine s1 rfl (lop_load_fp rfl Try.isAgg3 rfl) ?_
              first
                | refine s1 rfl (lop_fieldAddr_rf (fo := 6) rfl Try.underlying30 rfl rfl Try.sizeOf3 (by decide)) ?_
                | refine s1 rfl (lop_fieldAddr_fp (fo := 6) rfl Try.underlying30 rfl rfl Try.sizeOf3 (by decide) rfl) ?_
              first
                | refine s1 rfl (lop_load_rf rfl rfl Try.isAgg3 rfl) ?_
                | refine s1 rfl (lop_load_fp rfl Try.isAgg3 rfl) ?_
              first
                | refine s1 rfl (lop_fieldAddr_rf (fo := 7) rfl Try.underlying30 rfl rfl Try.sizeOf27 (by decide)) ?_
                | refine s1 rfl (lop_fieldAddr_fp (fo := 7) rfl Try.underlying30 rfl rfl Try.sizeOf27 (by decide) rfl) ?_
              first
                | refine s1 rfl (lop_load_rf rfl rfl Try.isAgg27 rfl) ?_
                | refine s1 rfl (lop_load_fp rfl Try.isAgg27 rfl) ?_
              refine s1 rfl (lop_buildK (cs := [.str _, .int _ _, .int _ _, .int _ _, .int _ _]) Try.underlying47 Try.zeroValue47 rfl rfl places47 rfl) ?_
              refine s1w rfl (lop_new (t := 10) (cs := [.str _, .int _ _, .int _ _, .int _ _, .int _ _]) Try.zeroValue47 rfl rfl rfl rfl) rfl ?_
              first
                | refine s0w rfl (lop_storeK (v := .agg [.str _, .int _ _, .int _ _, .int _ _, .int _ _]) (cs' := [.str _, .int _ _, .int _ _, .int _ _, .int _ _]) (f' := true) rfl rfl rfl Try.sizeOf47 rfl rfl rfl rfl rfl) ?_
                | refine s0w rfl (lop_storeK (v := .agg [.str _, .int _ _, .int _ _, .int _ _, .int _ _]) (cs' := [.str _, .int _ _, .int _ _, .int _ _, .int _ _]) (f' := false) rfl rfl rfl Try.sizeOf47 rfl rfl rfl rfl rfl) ?_
              refine ops_nil ?_
              refine ok_seq ?_
              refine ok_reg ?_
              refine s1 rfl (lop_move (v := .int _ _) rfl) ?_
              refine s1 rfl (lop_geq rfl rfl) ?_
              refine ops_nil ?_
              first
                | refine ok_if _ rfl rfl (fun h_t98 => ?_) (fun h_t98 => ?_)
                | refine ok_cond rfl rfl (fun h_t98 => ?_) (fun h_t98 => ?_)
              · have hnm := nameF_mem (show ¬ (nameF x c.name).2 < 0 by omega)
                refine ok_reg ?_
                first
                  | refine s1 rfl (lop_fieldAddr_rf (fo := 1) rfl Try.underlying26 rfl rfl Try.sizeOf23 (by decide)) ?_
                  | refine s1 rfl (lop_fieldAddr_fp (fo := 1) rfl Try.underlying26 rfl rfl Try.sizeOf23 (by decide) rfl) ?_
                first
                  | refine s1 rfl (lop_load_rf rfl rfl Try.isAgg23 rfl) ?_
                  | refine s1 rfl (lop_load_fp rfl Try.isAgg23 rfl) ?_
                refine s1 rfl (lop_move (v := .int _ _) rfl) ?_
                first
                  | refine s1 rfl (lop_load_rf_agg (ys := [.str _, .int _ _, .int _ _, .int _ _, .int _ _]) rfl rfl Try.isAgg47 Try.sizeOf47 (Nat.le_of_ble_eq_true rfl) rfl) ?_
                  | refine s1 rfl (lop_load_fp_agg (ys := [.str _, .int _ _, .int _ _, .int _ _, .int _ _]) rfl Try.isAgg47 Try.sizeOf47 (Nat.le_of_ble_eq_true rfl) rfl) ?_
                refine s1 rfl (lop_call rfl Try.call64 (FrzL.tf rfl) (.inl rfl) (set_Name_ac (l := x.names) (by omega) hnm.2.1 ⟨c.name, c.vol, c.off, c.n, c.sum⟩)) ?_
                first
                  | refine s1 rfl (lop_fieldAddr_rf (fo := 1) rfl Try.underlying26 rfl rfl Try.sizeOf23 (by decide)) ?_
                  | refine s1 rfl (lop_fieldAddr_fp (fo := 1) rfl Try.underlying26 rfl rfl Try.sizeOf23 (by decide) rfl) ?_
                first
                  | refine s0w rfl (lop_storeK (v := .sl _ _) (cs' := [_, _, _]) (f' := true) rfl rfl rfl Try.sizeOf23 rfl rfl rfl rfl rfl) ?_
                  | refine s0w rfl (lop_storeK (v := .os _ _ _ _) (cs' := [_, _, _]) (f' := true) rfl rfl rfl Try.sizeOf23 rfl rfl rfl rfl rfl) ?_
                  | refine s0w rfl (lop_storeK (v := .z0) (cs' := [_, _, _]) (f' := true) rfl rfl rfl Try.sizeOf23 rfl rfl rfl rfl rfl) ?_
                  | refine s0w rfl (lop_storeK (v := .sl _ _) (cs' := [_, _, _]) (f' := false) rfl rfl rfl Try.sizeOf23 rfl rfl rfl rfl rfl) ?_
                  | refine s0w rfl (lop_storeK (v := .os _ _ _ _) (cs' := [_, _, _]) (f' := false) rfl rfl rfl Try.sizeOf23 rfl rfl rfl rfl rfl) ?_
                  | refine s0w rfl (lop_storeK (v := .z0) (cs' := [_, _, _]) (f' := false) rfl rfl rfl Try.sizeOf23 rfl rfl rfl rfl rfl) ?_
                refine ops_nil ?_
                refine ok_reg ?_
                first
                  | refine s1 rfl (lop_load_rf_agg (ys := [_, _, _]) rfl rfl Try.isAgg26 Try.sizeOf26 (Nat.le_of_ble_eq_true rfl) rfl) ?_
                  | refine s1 rfl (lop_load_fp_agg (ys := [_, _, _]) rfl Try.isAgg26 Try.sizeOf26 (Nat.le_of_ble_eq_true rfl) rfl) ?_
                refine s1 rfl (lop_buildK (cs := [.int _ _, .int _ _, .int _ _, .int _ _, .int _ _, .bool _]) Try.underlying35 Try.zeroValue35 rfl rfl places35 rfl) ?_
                first
                  | refine s0w rfl (lop_storeK (v := .agg [_, _, _]) (cs' := [_, _, _]) (f' := true) rfl rfl rfl Try.sizeOf26 rfl rfl rfl rfl rfl) ?_
                  | refine s0w rfl (lop_storeK (v := .agg [_, _, _]) (cs' := [_, _, _]) (f' := false) rfl rfl rfl Try.sizeOf26 rfl rfl rfl rfl rfl) ?_
                first
                  | refine s0w rfl (lop_storeK (v := .agg [.int _ _, .int _ _, .int _ _, .int _ _, .int _ _, .bool _]) (cs' := [.int _ _, .int _ _, .int _ _, .int _ _, .int _ _, .bool _]) (f' := true) rfl rfl rfl Try.sizeOf35 rfl rfl rfl rfl rfl) ?_
                  | refine s0w rfl (lop_storeK (v := .agg [.int _ _, .int _ _, .int _ _, .int _ _, .int _ _, .bool _]) (cs' := [.int _ _, .int _ _, .int _ _, .int _ _, .int _ _, .bool _]) (f' := false) rfl rfl rfl Try.sizeOf35 rfl rfl rfl rfl rfl) ?_
                refine ops_nil ?_
                refine ok_ret ?_
                rw [show putF x c = (⟨(setL x.vols (volF x c.vol).2 { (volF x c.vol).1 with parts := (volF x c.vol).1.parts ++ [⟨c.off, c.n⟩] }), setL x.names (nameF x c.name).2 ⟨c.name, c.vol, c.off, c.n, c.sum⟩, x.last⟩, ⟨0, 0, 0, 0, 0, true⟩) by unfold putF; rw [if_neg h_t27, if_neg h_t33, if_neg h_t38, if_neg (by omega), if_neg (by omega), if_pos h_t98]; simp only [decide_eq_true h_t98]]
                exact ret_gen (R := [4, 5]) ⟨_, _, rfl, ⟨rfl, 4, 0, _, _, rfl, rfl, .inl ⟨3, Try.isAgg26, Try.sizeOf26, Nat.le_of_ble_eq_true rfl, rfl⟩⟩, _, _, rfl, ⟨rfl, 5, 0, _, _, rfl, rfl, .inl ⟨6, Try.isAgg35, Try.sizeOf35, Nat.le_of_ble_eq_true rfl, rfl⟩⟩, rfl⟩ (.tup (.cons (.agg (FrzL.tf rfl)) (.cons (.agg (FrzL.tf rfl)) .nil))) (fun t ht => by simp at ht; rcases ht with rfl | rfl <;> exact Option.some_ne_none _)
              · refine ok_skip ?_
                refine ok_reg ?_
                first
                  | refine s1 rfl (lop_fieldAddr_rf (fo := 1) rfl Try.underlying26 rfl rfl Try.sizeOf23 (by decide)) ?_
                  | refine s1 rfl (lop_fieldAddr_fp (fo := 1) rfl Try.underlying26 rfl rfl Try.sizeOf23 (by decide) rfl) ?_
                first
                  | refine s1 rfl (lop_load_rf rfl rfl Try.isAgg23 rfl) ?_
                  | refine s1 rfl (lop_load_fp rfl Try.isAgg23 rfl) ?_
                first
                  | refine s1 rfl (lop_func (vs := [.rf _ _]) rfl) ?_
                  | refine s1 rfl (lop_func (vs := [.fp _]) rfl) ?_
                refine ops_le (T := ⟨[(2, .rf 2 0), (3, .fp c.enc), (4, .rf 4 0), (5, .rf 5 0), (10, .rf 10 0), (109, rowOf NameD.enc x.names), (110, .fn 65 [.fp c.enc])], [(2, some (true, [rowOf VolD.enc (setL x.vols (volF x c.vol).2 { (volF x c.vol).1 with parts := (volF x c.vol).1.parts ++ [⟨c.off, c.n⟩] }), rowOf NameD.enc x.names, rowOf SessD.enc x.last])), (4, some (true, [.z0, .z0, .z0])), (5, some (true, ReplyD.zero.enc)), (10, some (true, (⟨c.name, c.vol, c.off, c.n, c.sum⟩ : NameD).enc))], 129⟩) (le_frz [3] ⟨.inl ⟨rfl, rfl⟩, .inr (fz_sound _ [3] _ rfl), .inl ⟨rfl, rfl⟩, .inl ⟨rfl, rfl⟩, .inl ⟨rfl, rfl⟩, .inl ⟨rfl, rfl⟩, .inr (fz_sound _ [3] _ rfl), trivial⟩ ⟨.inr ⟨rfl, rfl, trivial⟩, .inr ⟨rfl, rfl, trivial⟩, .inr ⟨rfl, rfl, trivial⟩, .inr ⟨rfl, rfl, trivial⟩, trivial⟩ (fun t ht => by simp at ht; subst ht; exact Option.some_ne_none _) rfl) ?_
                refine s1 rfl (lop_call rfl Try.call55 (FrzL.tf rfl) (.inl rfl) (find_Name_ac (p := fun y => sgt y.name c.name) (l := x.names) (by omega) Try.call65 rfl (fun y _ => put1_ac y c))) ?_
                refine s1 rfl (lop_move (v := .tup _) rfl) ?_
                refine s1 rfl (lop_extract rfl rfl) ?_
                refine s1 rfl (lop_extract rfl rfl) ?_
                refine s1w rfl (lop_new (t := 11) (cs := [.str _, .int _ _, .int _ _, .int _ _, .int _ _]) Try.zeroValue47 rfl rfl rfl rfl) rfl ?_
                first
                  | refine s0w rfl (lop_storeK (v := .agg [.str _, .int _ _, .int _ _, .int _ _, .int _ _]) (cs' := [.str _, .int _ _, .int _ _, .int _ _, .int _ _]) (f' := true) rfl rfl rfl Try.sizeOf47 rfl rfl rfl rfl rfl) ?_
                  | refine s0w rfl (lop_storeK (v := .agg [.str _, .int _ _, .int _ _, .int _ _, .int _ _]) (cs' := [.str _, .int _ _, .int _ _, .int _ _, .int _ _]) (f' := false) rfl rfl rfl Try.sizeOf47 rfl rfl rfl rfl rfl) ?_
                refine s1 rfl (lop_assign (v := .int _ _) rfl) ?_
                refine ops_nil ?_
                refine ok_seq ?_
                refine ok_reg ?_
                refine s1 rfl (lop_move (v := .int _ _) rfl) ?_
                refine s1 rfl (lop_lss rfl rfl) ?_
                refine ops_nil ?_
                first
                  | refine ok_if _ rfl rfl (fun h_t115 => ?_) (fun h_t115 => ?_)
                  | refine ok_cond rfl rfl (fun h_t115 => ?_) (fun h_t115 => ?_)
                · have hI := putAt_no (show idxOf (fun y : NameD => sgt y.name c.name) x.names < 0 by rw [← findG_idx NameD.zero]; exact h_t115)
                  refine ok_region ?_
                  first
                    | refine s1 rfl (lop_fieldAddr_rf (fo := 1) rfl Try.underlying26 rfl rfl Try.sizeOf23 (by decide)) ?_
                    | refine s1 rfl (lop_fieldAddr_fp (fo := 1) rfl Try.underlying26 rfl rfl Try.sizeOf23 (by decide) rfl) ?_
                  first
                    | refine s1 rfl (lop_load_rf rfl rfl Try.isAgg23 rfl) ?_
                    | refine s1 rfl (lop_load_fp rfl Try.isAgg23 rfl) ?_
                  refine s1 rfl (lop_len rfl Try.underlying23 ⟨⟨_, rfl⟩, rfl⟩) ?_
                  refine s1 rfl (lop_assign (v := .int _ _) rfl) ?_
                  refine ops_nil ?_
                  refine ok_drw Try.mixed ?_
                  first
                    | refine d1 rfl rfl (lop_fieldAddr_rf (fo := 1) rfl Try.underlying26 rfl rfl Try.sizeOf23 (by decide)) ?_
                    | refine d1 rfl rfl (lop_fieldAddr_fp (fo := 1) rfl Try.underlying26 rfl rfl Try.sizeOf23 (by decide) rfl) ?_
                  first
                    | refine d1 rfl rfl (lop_load_rf rfl rfl Try.isAgg23 rfl) ?_
                    | refine d1 rfl rfl (lop_load_fp rfl Try.isAgg23 rfl) ?_
                  refine d1w rfl rfl (lop_callH (R := []) (nw := [500]) (W := [(500, some (true, x.names.flatMap NameD.enc))]) rfl Try.call67 rfl (clone_Name_ac (by have := hx.names; omega)) trivial rfl rfl rfl rfl rfl rfl) ?_
                  refine d1 rfl rfl (lop_move (v := .int _ _) rfl) ?_
                  first
                    | refine d1 rfl rfl (lop_load_rf_agg (ys := [.str _, .int _ _, .int _ _, .int _ _, .int _ _]) rfl rfl Try.isAgg47 Try.sizeOf47 (Nat.le_of_ble_eq_true rfl) rfl) ?_
                    | refine d1 rfl rfl (lop_load_fp_agg (ys := [.str _, .int _ _, .int _ _, .int _ _, .int _ _]) rfl Try.isAgg47 Try.sizeOf47 (Nat.le_of_ble_eq_true rfl) rfl) ?_
                  first
                    | refine d1w rfl rfl (lop_buildSlice (t := 501) (cs := [.str _, .int _ _, .int _ _, .int _ _, .int _ _]) (f := true) Try.underlying23 Try.sizeOf47 (by decide) Try.zeroValue47 rfl rfl rfl (by decide) rfl (.inr (by decide)) rfl (fun h => by cases h)) ?_
                    | refine d1w rfl rfl (lop_buildSlice (t := 501) (cs := [.str _, .int _ _, .int _ _, .int _ _, .int _ _]) (f := false) Try.underlying23 Try.sizeOf47 (by decide) Try.zeroValue47 rfl rfl rfl (by decide) rfl (.inr (by decide)) rfl (fun _ => rfl)) ?_
                  first
                    | refine d3w rfl rfl (lop_callH (R := [500, 501]) (nw := [502]) (W := [(502, some (true, (insG x.names x.names.length ⟨c.name, c.vol, c.off, c.n, c.sum⟩).flatMap NameD.enc)), (500, none), (501, none)]) rfl Try.call66 rfl (insert_Name_ac (L := x.names) (n := x.names.length) (i := x.names.length) rfl (by omega) (by omega) ⟨c.name, c.vol, c.off, c.n, c.sum⟩) (by exact ⟨.inr rfl, .inr rfl, trivial⟩) rfl rfl rfl rfl rfl rfl) ?_
                    | refine d3w rfl rfl (lop_callH (R := [500, 501]) (nw := [502]) (W := [(502, some (true, (insG x.names i ⟨c.name, c.vol, c.off, c.n, c.sum⟩).flatMap NameD.enc)), (500, none), (501, none)]) rfl Try.call66 rfl (insert_Name_ac (L := x.names) (n := x.names.length) (i := i) rfl (by omega) (by omega) ⟨c.name, c.vol, c.off, c.n, c.sum⟩) (by exact ⟨.inr rfl, .inr rfl, trivial⟩) rfl rfl rfl rfl rfl rfl) ?_
                  first
                    | refine d1 rfl rfl (lop_fieldAddr_rf (fo := 1) rfl Try.underlying26 rfl rfl Try.sizeOf23 (by decide)) ?_
                    | refine d1 rfl rfl (lop_fieldAddr_fp (fo := 1) rfl Try.underlying26 rfl rfl Try.sizeOf23 (by decide) rfl) ?_
                  first
                    | refine d0w rfl rfl (lop_storeK (v := .sl _ _) (cs' := [_, _, _]) (f' := true) rfl rfl rfl Try.sizeOf23 rfl rfl rfl rfl rfl) ?_
                    | refine d0w rfl rfl (lop_storeK (v := .os _ _ _ _) (cs' := [_, _, _]) (f' := true) rfl rfl rfl Try.sizeOf23 rfl rfl rfl rfl rfl) ?_
                    | refine d0w rfl rfl (lop_storeK (v := .z0) (cs' := [_, _, _]) (f' := true) rfl rfl rfl Try.sizeOf23 rfl rfl rfl rfl rfl) ?_
                    | refine d0w rfl rfl (lop_storeK (v := .sl _ _) (cs' := [_, _, _]) (f' := false) rfl rfl rfl Try.sizeOf23 rfl rfl rfl rfl rfl) ?_
                    | refine d0w rfl rfl (lop_storeK (v := .os _ _ _ _) (cs' := [_, _, _]) (f' := false) rfl rfl rfl Try.sizeOf23 rfl rfl rfl rfl rfl) ?_
                    | refine d0w rfl rfl (lop_storeK (v := .z0) (cs' := [_, _, _]) (f' := false) rfl rfl rfl Try.sizeOf23 rfl rfl rfl rfl rfl) ?_
                  refine dr_nil (by kernel_rfl) ?_
                  refine ok_reg ?_
                  first
                    | refine s1 rfl (lop_load_rf_agg (ys := [_, _, _]) rfl rfl Try.isAgg26 Try.sizeOf26 (Nat.le_of_ble_eq_true rfl) rfl) ?_
                    | refine s1 rfl (lop_load_fp_agg (ys := [_, _, _]) rfl Try.isAgg26 Try.sizeOf26 (Nat.le_of_ble_eq_true rfl) rfl) ?_
                  refine s1 rfl (lop_buildK (cs := [.int _ _, .int _ _, .int _ _, .int _ _, .int _ _, .bool _]) Try.underlying35 Try.zeroValue35 rfl rfl places35 rfl) ?_
                  first
                    | refine s0w rfl (lop_storeK (v := .agg [_, _, _]) (cs' := [_, _, _]) (f' := true) rfl rfl rfl Try.sizeOf26 rfl rfl rfl rfl rfl) ?_
                    | refine s0w rfl (lop_storeK (v := .agg [_, _, _]) (cs' := [_, _, _]) (f' := false) rfl rfl rfl Try.sizeOf26 rfl rfl rfl rfl rfl) ?_
                  first
                    | refine s0w rfl (lop_storeK (v := .agg [.int _ _, .int _ _, .int _ _, .int _ _, .int _ _, .bool _]) (cs' := [.int _ _, .int _ _, .int _ _, .int _ _, .int _ _, .bool _]) (f' := true) rfl rfl rfl Try.sizeOf35 rfl rfl rfl rfl rfl) ?_
                    | refine s0w rfl (lop_storeK (v := .agg [.int _ _, .int _ _, .int _ _, .int _ _, .int _ _, .bool _]) (cs' := [.int _ _, .int _ _, .int _ _, .int _ _, .int _ _, .bool _]) (f' := false) rfl rfl rfl Try.sizeOf35 rfl rfl rfl rfl rfl) ?_
                  refine ops_nil ?_
                  refine ok_ret ?_
                  rw [show putF x c = (⟨(setL x.vols (volF x c.vol).2 { (volF x c.vol).1 with parts := (volF x c.vol).1.parts ++ [⟨c.off, c.n⟩] }), (insG x.names x.names.length ⟨c.name, c.vol, c.off, c.n, c.sum⟩), x.last⟩, ⟨0, 0, 0, 0, 0, false⟩) by unfold putF; rw [if_neg h_t27, if_neg h_t33, if_neg h_t38, if_neg (by omega), if_neg (by omega), if_neg (by omega), hI]; simp only [decide_eq_false h_t98]; rfl]
                  have hdl : (insG x.names x.names.length ⟨c.name, c.vol, c.off, c.n, c.sum⟩).length = x.names.length + 1 := insG_len (by omega) rfl
                  simp only [IdxD.enc]
                  rw [show rowOf NameD.enc (insG x.names x.names.length ⟨c.name, c.vol, c.off, c.n, c.sum⟩) = .sl (x.names.length + 1) ((insG x.names x.names.length ⟨c.name, c.vol, c.off, c.n, c.sum⟩).flatMap NameD.enc) by unfold rowOf; rw [hdl]]
                  exact ret_gen (R := [4, 5, 502]) ⟨_, _, rfl, ⟨rfl, 4, 0, _, _, rfl, rfl, .inl ⟨3, Try.isAgg26, Try.sizeOf26, Nat.le_of_ble_eq_true rfl, rfl⟩⟩, _, _, rfl, ⟨rfl, 5, 0, _, _, rfl, rfl, .inl ⟨6, Try.isAgg35, Try.sizeOf35, Nat.le_of_ble_eq_true rfl, rfl⟩⟩, rfl⟩ (.tup (.cons (.agg (.cons (.tf rfl) (.cons (.osf (by simp) rfl (by rw [flat_length NameD.len, hdl]; omega) (by rw [List.drop_zero, List.take_of_length_le (by rw [flat_length NameD.len, hdl]; omega)])) (.cons (.tf rfl) .nil)))) (.cons (.agg (FrzL.tf rfl)) .nil))) (fun t ht => by simp at ht; rcases ht with rfl | rfl | rfl <;> exact Option.some_ne_none _)
                · obtain ⟨i, hi, hix, hat, _⟩ := findG_at (z := NameD.zero) (show ¬ idxOf (fun y : NameD => sgt y.name c.name) x.names < 0 by rw [← findG_idx NameD.zero]; exact h_t115)
                  have hI := putAt_at hix
                  rw [hat]
                  dsimp only
                  refine ok_skip ?_
                  refine ok_drw Try.mixed ?_
                  first
                    | refine d1 rfl rfl (lop_fieldAddr_rf (fo := 1) rfl Try.underlying26 rfl rfl Try.sizeOf23 (by decide)) ?_
                    | refine d1 rfl rfl (lop_fieldAddr_fp (fo := 1) rfl Try.underlying26 rfl rfl Try.sizeOf23 (by decide) rfl) ?_
                  first
                    | refine d1 rfl rfl (lop_load_rf rfl rfl Try.isAgg23 rfl) ?_
                    | refine d1 rfl rfl (lop_load_fp rfl Try.isAgg23 rfl) ?_
                  refine d1w rfl rfl (lop_callH (R := []) (nw := [500]) (W := [(500, some (true, x.names.flatMap NameD.enc))]) rfl Try.call67 rfl (clone_Name_ac (by have := hx.names; omega)) trivial rfl rfl rfl rfl rfl rfl) ?_
                  refine d1 rfl rfl (lop_move (v := .int _ _) rfl) ?_
                  first
                    | refine d1 rfl rfl (lop_load_rf_agg (ys := [.str _, .int _ _, .int _ _, .int _ _, .int _ _]) rfl rfl Try.isAgg47 Try.sizeOf47 (Nat.le_of_ble_eq_true rfl) rfl) ?_
                    | refine d1 rfl rfl (lop_load_fp_agg (ys := [.str _, .int _ _, .int _ _, .int _ _, .int _ _]) rfl Try.isAgg47 Try.sizeOf47 (Nat.le_of_ble_eq_true rfl) rfl) ?_
                  first
                    | refine d1w rfl rfl (lop_buildSlice (t := 501) (cs := [.str _, .int _ _, .int _ _, .int _ _, .int _ _]) (f := true) Try.underlying23 Try.sizeOf47 (by decide) Try.zeroValue47 rfl rfl rfl (by decide) rfl (.inr (by decide)) rfl (fun h => by cases h)) ?_
                    | refine d1w rfl rfl (lop_buildSlice (t := 501) (cs := [.str _, .int _ _, .int _ _, .int _ _, .int _ _]) (f := false) Try.underlying23 Try.sizeOf47 (by decide) Try.zeroValue47 rfl rfl rfl (by decide) rfl (.inr (by decide)) rfl (fun _ => rfl)) ?_
                  first
                    | refine d3w rfl rfl (lop_callH (R := [500, 501]) (nw := [502]) (W := [(502, some (true, (insG x.names x.names.length ⟨c.name, c.vol, c.off, c.n, c.sum⟩).flatMap NameD.enc)), (500, none), (501, none)]) rfl Try.call66 rfl (insert_Name_ac (L := x.names) (n := x.names.length) (i := x.names.length) rfl (by omega) (by omega) ⟨c.name, c.vol, c.off, c.n, c.sum⟩) (by exact ⟨.inr rfl, .inr rfl, trivial⟩) rfl rfl rfl rfl rfl rfl) ?_
                    | refine d3w rfl rfl (lop_callH (R := [500, 501]) (nw := [502]) (W := [(502, some (true, (insG x.names i ⟨c.name, c.vol, c.off, c.n, c.sum⟩).flatMap NameD.enc)), (500, none), (501, none)]) rfl Try.call66 rfl (insert_Name_ac (L := x.names) (n := x.names.length) (i := i) rfl (by omega) (by omega) ⟨c.name, c.vol, c.off, c.n, c.sum⟩) (by exact ⟨.inr rfl, .inr rfl, trivial⟩) rfl rfl rfl rfl rfl rfl) ?_
                  first
                    | refine d1 rfl rfl (lop_fieldAddr_rf (fo := 1) rfl Try.underlying26 rfl rfl Try.sizeOf23 (by decide)) ?_
                    | refine d1 rfl rfl (lop_fieldAddr_fp (fo := 1) rfl Try.underlying26 rfl rfl Try.sizeOf23 (by decide) rfl) ?_
                  first
                    | refine d0w rfl rfl (lop_storeK (v := .sl _ _) (cs' := [_, _, _]) (f' := true) rfl rfl rfl Try.sizeOf23 rfl rfl rfl rfl rfl) ?_
                    | refine d0w rfl rfl (lop_storeK (v := .os _ _ _ _) (cs' := [_, _, _]) (f' := true) rfl rfl rfl Try.sizeOf23 rfl rfl rfl rfl rfl) ?_
                    | refine d0w rfl rfl (lop_storeK (v := .z0) (cs' := [_, _, _]) (f' := true) rfl rfl rfl Try.sizeOf23 rfl rfl rfl rfl rfl) ?_
                    | refine d0w rfl rfl (lop_storeK (v := .sl _ _) (cs' := [_, _, _]) (f' := false) rfl rfl rfl Try.sizeOf23 rfl rfl rfl rfl rfl) ?_
                    | refine d0w rfl rfl (lop_storeK (v := .os _ _ _ _) (cs' := [_, _, _]) (f' := false) rfl rfl rfl Try.sizeOf23 rfl rfl rfl rfl rfl) ?_
                    | refine d0w rfl rfl (lop_storeK (v := .z0) (cs' := [_, _, _]) (f' := false) rfl rfl rfl Try.sizeOf23 rfl rfl rfl rfl rfl) ?_
                  refine dr_nil (by kernel_rfl) ?_
                  refine ok_reg ?_
                  first
                    | refine s1 rfl (lop_load_rf_agg (ys := [_, _, _]) rfl rfl Try.isAgg26 Try.sizeOf26 (Nat.le_of_ble_eq_true rfl) rfl) ?_
                    | refine s1 rfl (lop_load_fp_agg (ys := [_, _, _]) rfl Try.isAgg26 Try.sizeOf26 (Nat.le_of_ble_eq_true rfl) rfl) ?_
                  refine s1 rfl (lop_buildK (cs := [.int _ _, .int _ _, .int _ _, .int _ _, .int _ _, .bool _]) Try.underlying35 Try.zeroValue35 rfl rfl places35 rfl) ?_
                  first
                    | refine s0w rfl (lop_storeK (v := .agg [_, _, _]) (cs' := [_, _, _]) (f' := true) rfl rfl rfl Try.sizeOf26 rfl rfl rfl rfl rfl) ?_
                    | refine s0w rfl (lop_storeK (v := .agg [_, _, _]) (cs' := [_, _, _]) (f' := false) rfl rfl rfl Try.sizeOf26 rfl rfl rfl rfl rfl) ?_
                  first
                    | refine s0w rfl (lop_storeK (v := .agg [.int _ _, .int _ _, .int _ _, .int _ _, .int _ _, .bool _]) (cs' := [.int _ _, .int _ _, .int _ _, .int _ _, .int _ _, .bool _]) (f' := true) rfl rfl rfl Try.sizeOf35 rfl rfl rfl rfl rfl) ?_
                    | refine s0w rfl (lop_storeK (v := .agg [.int _ _, .int _ _, .int _ _, .int _ _, .int _ _, .bool _]) (cs' := [.int _ _, .int _ _, .int _ _, .int _ _, .int _ _, .bool _]) (f' := false) rfl rfl rfl Try.sizeOf35 rfl rfl rfl rfl rfl) ?_
                  refine ops_nil ?_
                  refine ok_ret ?_
                  rw [show putF x c = (⟨(setL x.vols (volF x c.vol).2 { (volF x c.vol).1 with parts := (volF x c.vol).1.parts ++ [⟨c.off, c.n⟩] }), (insG x.names i ⟨c.name, c.vol, c.off, c.n, c.sum⟩), x.last⟩, ⟨0, 0, 0, 0, 0, false⟩) by unfold putF; rw [if_neg h_t27, if_neg h_t33, if_neg h_t38, if_neg (by omega), if_neg (by omega), if_neg (by omega), hI]; simp only [decide_eq_false h_t98]; rfl]
                  have hdl : (insG x.names i ⟨c.name, c.vol, c.off, c.n, c.sum⟩).length = x.names.length + 1 := insG_len (by omega) rfl
                  simp only [IdxD.enc]
                  rw [show rowOf NameD.enc (insG x.names i ⟨c.name, c.vol, c.off, c.n, c.sum⟩) = .sl (x.names.length + 1) ((insG x.names i ⟨c.name, c.vol, c.off, c.n, c.sum⟩).flatMap NameD.enc) by unfold rowOf; rw [hdl]]
                  exact ret_gen (R := [4, 5, 502]) ⟨_, _, rfl, ⟨rfl, 4, 0, _, _, rfl, rfl, .inl ⟨3, Try.isAgg26, Try.sizeOf26, Nat.le_of_ble_eq_true rfl, rfl⟩⟩, _, _, rfl, ⟨rfl, 5, 0, _, _, rfl, rfl, .inl ⟨6, Try.isAgg35, Try.sizeOf35, Nat.le_of_ble_eq_true rfl, rfl⟩⟩, rfl⟩ (.tup (.cons (.agg (.cons (.tf rfl) (.cons (.osf (by simp) rfl (by rw [flat_length NameD.len, hdl]; omega) (by rw [List.drop_zero, List.take_of_length_le (by rw [flat_length NameD.len, hdl]; omega)])) (.cons (.tf rfl) .nil)))) (.cons (.agg (FrzL.tf rfl)) .nil))) (fun t ht => by simp at ht; rcases ht with rfl | rfl | rfl <;> exact Option.some_ne_none _)

end Go.Proofs
