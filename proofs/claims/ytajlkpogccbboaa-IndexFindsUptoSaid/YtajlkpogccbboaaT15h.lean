/- Chapter 15: walks. Printed by gen.py. -/
import Derived.Test.YtajlkpogccbboaaT15g
set_option linter.unusedVariables false
set_option linter.unusedSimpArgs false
set_option maxRecDepth 100000
namespace Go.Proofs
open Go.Hg

theorem nameF_at {x : IdxD} {s : ByteArray} (h : ¬ (nameF x s).2 < 0) : ∃ k, ∃ hk : k < x.names.length, nameF x s = (x.names[k], (k : Int)) := by
  unfold nameF at h ⊢
  rw [findG_idx] at h
  obtain ⟨i, hi, h1, h2, h3⟩ := findG_at (z := NameD.zero) h
  exact ⟨i, hi, h2⟩
theorem putAt_no {l : List NameD} {s : ByteArray} (h : idxOf (fun y : NameD => sgt y.name s) l < 0) : putAt l s = l.length := by unfold putAt; rw [if_pos h]
theorem putAt_at {l : List NameD} {s : ByteArray} {i : Nat} (h : idxOf (fun y : NameD => sgt y.name s) l = (i : Int)) : putAt l s = i := by unfold putAt; rw [if_neg (by omega), h]; rfl

theorem seal_ac {x : IdxD} (hx : Fit 549755000000 x) {c : CmdD} (hm : May c) : AC Try.prog 47 [.agg x.enc, .agg c.enc] (.tup [.agg (sealF x c).1.enc, .agg (sealF x c).2.enc]) := by
  refine AC.intro Try.func47 rfl (Nat.le_of_ble_eq_true rfl) ?_
  refine ok_reg ?_
  first
    | refine s1w rfl (lop_box (t := 2) (v := .agg [_, _, _]) (f := true) (cs := [_, _, _]) rfl rfl rfl rfl (fun h => by cases h)) rfl ?_
    | refine s1w rfl (lop_box (t := 2) (v := .agg [_, _, _]) (f := false) (cs := [_, _, _]) rfl rfl rfl rfl (fun _ => rfl)) rfl ?_
  first
    | refine s1w rfl (lop_box (t := 3) (v := .agg [.int _ _, .int _ _, .int _ _, .str _, .int _ _, .int _ _, .int _ _, .int _ _, .int _ _, .int _ _, .int _ _, _]) (f := true) (cs := [.int _ _, .int _ _, .int _ _, .str _, .int _ _, .int _ _, .int _ _, .int _ _, .int _ _, .int _ _, .int _ _, _]) rfl rfl rfl rfl (fun h => by cases h)) rfl ?_
    | refine s1w rfl (lop_box (t := 3) (v := .agg [.int _ _, .int _ _, .int _ _, .str _, .int _ _, .int _ _, .int _ _, .int _ _, .int _ _, .int _ _, .int _ _, _]) (f := false) (cs := [.int _ _, .int _ _, .int _ _, .str _, .int _ _, .int _ _, .int _ _, .int _ _, .int _ _, .int _ _, .int _ _, _]) rfl rfl rfl rfl (fun _ => rfl)) rfl ?_
  refine s1w rfl (lop_new (t := 4) (cs := [.z0, .z0, .z0]) Try.zeroValue26 rfl rfl rfl rfl) rfl ?_
  refine s1w rfl (lop_new (t := 5) (cs := [.int _ _, .int _ _, .int _ _, .int _ _, .int _ _, .bool _]) Try.zeroValue35 rfl rfl rfl rfl) rfl ?_
  refine ops_nil ?_
  refine ok_reg ?_
  first
    | refine s1 rfl (lop_load_rf_agg (ys := [_, _, _]) rfl rfl Try.isAgg26 Try.sizeOf26 (Nat.le_of_ble_eq_true rfl) rfl) ?_
    | refine s1 rfl (lop_load_fp_agg (ys := [_, _, _]) rfl Try.isAgg26 Try.sizeOf26 (Nat.le_of_ble_eq_true rfl) rfl) ?_
  first
    | refine s1 rfl (lop_fieldAddr_rf (fo := 4) rfl Try.underlying30 rfl rfl Try.sizeOf3 (by decide)) ?_
    | refine s1 rfl (lop_fieldAddr_fp (fo := 4) rfl Try.underlying30 rfl rfl Try.sizeOf3 (by decide) rfl) ?_
  first
    | refine s1 rfl (lop_load_rf rfl rfl Try.isAgg3 rfl) ?_
    | refine s1 rfl (lop_load_fp rfl Try.isAgg3 rfl) ?_
  refine s1 rfl (lop_call rfl Try.call30 (FrzL.tf rfl) (.inl rfl) (index_vol_ac x (by have := hx.vols; omega) c.vol)) ?_
  refine s1 rfl (lop_move (v := .tup _) rfl) ?_
  refine s1 rfl (lop_extract rfl rfl) ?_
  refine s1 rfl (lop_extract rfl rfl) ?_
  refine s1w rfl (lop_new (t := 6) (cs := [.int _ _, .int _ _, .int _ _, .int _ _, .int _ _, .z0, .z0, .int _ _, .int _ _]) Try.zeroValue50 rfl rfl rfl rfl) rfl ?_
  first
    | refine s0w rfl (lop_storeK (v := .agg [.int _ _, .int _ _, .int _ _, .int _ _, .int _ _, _, _, .int _ _, .int _ _]) (cs' := [.int _ _, .int _ _, .int _ _, .int _ _, .int _ _, _, _, .int _ _, .int _ _]) (f' := true) rfl rfl rfl Try.sizeOf50 rfl rfl rfl rfl rfl) ?_
    | refine s0w rfl (lop_storeK (v := .agg [.int _ _, .int _ _, .int _ _, .int _ _, .int _ _, _, _, .int _ _, .int _ _]) (cs' := [.int _ _, .int _ _, .int _ _, .int _ _, .int _ _, _, _, .int _ _, .int _ _]) (f' := false) rfl rfl rfl Try.sizeOf50 rfl rfl rfl rfl rfl) ?_
  refine s1 rfl (lop_assign (v := .int _ _) rfl) ?_
  refine ops_nil ?_
  refine ok_seq ?_
  refine ok_block ?_
  refine ok_reg ?_
  refine s1 rfl (lop_move (v := .int _ _) rfl) ?_
  refine s1 rfl (lop_lss rfl rfl) ?_
  refine s1 rfl (lop_assign (v := .bool _) rfl) ?_
  refine ops_nil ?_
  first
    | refine ok_if _ rfl rfl (fun h_t15 => ?_) (fun h_t15 => ?_)
    | refine ok_cond rfl rfl (fun h_t15 => ?_) (fun h_t15 => ?_)
  · refine ok_drw Try.mixed ?_
    first
      | refine d1 rfl rfl (lop_load_rf_agg (ys := [_, _, _]) rfl rfl Try.isAgg26 Try.sizeOf26 (Nat.le_of_ble_eq_true rfl) rfl) ?_
      | refine d1 rfl rfl (lop_load_fp_agg (ys := [_, _, _]) rfl Try.isAgg26 Try.sizeOf26 (Nat.le_of_ble_eq_true rfl) rfl) ?_
    refine d1 rfl rfl (lop_call rfl Try.call23 (FrzL.tf rfl) (.inl rfl) (no_ac 7)) ?_
    first
      | refine d0w rfl rfl (lop_storeK (v := .agg [_, _, _]) (cs' := [_, _, _]) (f' := true) rfl rfl rfl Try.sizeOf26 rfl rfl rfl rfl rfl) ?_
      | refine d0w rfl rfl (lop_storeK (v := .agg [_, _, _]) (cs' := [_, _, _]) (f' := false) rfl rfl rfl Try.sizeOf26 rfl rfl rfl rfl rfl) ?_
    first
      | refine d0w rfl rfl (lop_storeK (v := .agg [.int _ _, .int _ _, .int _ _, .int _ _, .int _ _, .bool _]) (cs' := [.int _ _, .int _ _, .int _ _, .int _ _, .int _ _, .bool _]) (f' := true) rfl rfl rfl Try.sizeOf35 rfl rfl rfl rfl rfl) ?_
      | refine d0w rfl rfl (lop_storeK (v := .agg [.int _ _, .int _ _, .int _ _, .int _ _, .int _ _, .bool _]) (cs' := [.int _ _, .int _ _, .int _ _, .int _ _, .int _ _, .bool _]) (f' := false) rfl rfl rfl Try.sizeOf35 rfl rfl rfl rfl rfl) ?_
    refine dr_nil (by kernel_rfl) ?_
    refine ok_ret ?_
    rw [show sealF x c = (x, noR 7) by unfold sealF; rw [if_pos h_t15]]
    exact ret_gen (R := [4, 5]) ⟨_, _, rfl, ⟨rfl, 4, 0, _, _, rfl, rfl, .inl ⟨3, Try.isAgg26, Try.sizeOf26, Nat.le_of_ble_eq_true rfl, rfl⟩⟩, _, _, rfl, ⟨rfl, 5, 0, _, _, rfl, rfl, .inl ⟨6, Try.isAgg35, Try.sizeOf35, Nat.le_of_ble_eq_true rfl, rfl⟩⟩, rfl⟩ (.tup (.cons (.agg (FrzL.tf rfl)) (.cons (.agg (FrzL.tf rfl)) .nil))) (fun t ht => by simp at ht; rcases ht with rfl | rfl <;> exact Option.some_ne_none _)
  · have hvm := volF_mem h_t15
    have hvu := hx.used _ hvm.1
    have hxv := hx.vols
    refine ok_reg ?_
    first
      | refine s1 rfl (lop_fieldAddr_rf (fo := 4) rfl Try.underlying50 rfl rfl Try.sizeOf3 (by decide)) ?_
      | refine s1 rfl (lop_fieldAddr_fp (fo := 4) rfl Try.underlying50 rfl rfl Try.sizeOf3 (by decide) rfl) ?_
    first
      | refine s1 rfl (lop_load_rf rfl rfl Try.isAgg3 rfl) ?_
      | refine s1 rfl (lop_load_fp rfl Try.isAgg3 rfl) ?_
    refine s1 rfl (lop_neq rfl rfl) ?_
    refine s1 rfl (lop_assign (v := .bool _) rfl) ?_
    refine ops_nil ?_
    first
      | refine ok_if _ rfl rfl (fun h_t20 => ?_) (fun h_t20 => ?_)
      | refine ok_cond rfl rfl (fun h_t20 => ?_) (fun h_t20 => ?_)
    · refine ok_drw Try.mixed ?_
      first
        | refine d1 rfl rfl (lop_load_rf_agg (ys := [_, _, _]) rfl rfl Try.isAgg26 Try.sizeOf26 (Nat.le_of_ble_eq_true rfl) rfl) ?_
        | refine d1 rfl rfl (lop_load_fp_agg (ys := [_, _, _]) rfl Try.isAgg26 Try.sizeOf26 (Nat.le_of_ble_eq_true rfl) rfl) ?_
      refine d1 rfl rfl (lop_call rfl Try.call23 (FrzL.tf rfl) (.inl rfl) (no_ac 9)) ?_
      first
        | refine d0w rfl rfl (lop_storeK (v := .agg [_, _, _]) (cs' := [_, _, _]) (f' := true) rfl rfl rfl Try.sizeOf26 rfl rfl rfl rfl rfl) ?_
        | refine d0w rfl rfl (lop_storeK (v := .agg [_, _, _]) (cs' := [_, _, _]) (f' := false) rfl rfl rfl Try.sizeOf26 rfl rfl rfl rfl rfl) ?_
      first
        | refine d0w rfl rfl (lop_storeK (v := .agg [.int _ _, .int _ _, .int _ _, .int _ _, .int _ _, .bool _]) (cs' := [.int _ _, .int _ _, .int _ _, .int _ _, .int _ _, .bool _]) (f' := true) rfl rfl rfl Try.sizeOf35 rfl rfl rfl rfl rfl) ?_
        | refine d0w rfl rfl (lop_storeK (v := .agg [.int _ _, .int _ _, .int _ _, .int _ _, .int _ _, .bool _]) (cs' := [.int _ _, .int _ _, .int _ _, .int _ _, .int _ _, .bool _]) (f' := false) rfl rfl rfl Try.sizeOf35 rfl rfl rfl rfl rfl) ?_
      refine dr_nil (by kernel_rfl) ?_
      refine ok_ret ?_
      rw [show sealF x c = (x, noR 9) by unfold sealF; rw [if_neg h_t15, if_pos h_t20]]
      exact ret_gen (R := [4, 5]) ⟨_, _, rfl, ⟨rfl, 4, 0, _, _, rfl, rfl, .inl ⟨3, Try.isAgg26, Try.sizeOf26, Nat.le_of_ble_eq_true rfl, rfl⟩⟩, _, _, rfl, ⟨rfl, 5, 0, _, _, rfl, rfl, .inl ⟨6, Try.isAgg35, Try.sizeOf35, Nat.le_of_ble_eq_true rfl, rfl⟩⟩, rfl⟩ (.tup (.cons (.agg (FrzL.tf rfl)) (.cons (.agg (FrzL.tf rfl)) .nil))) (fun t ht => by simp at ht; rcases ht with rfl | rfl <;> exact Option.some_ne_none _)
    · refine ok_reg ?_
      first
        | refine s1 rfl (lop_fieldAddr_rf (fo := 11) rfl Try.underlying30 rfl rfl Try.sizeOf28 (by decide)) ?_
        | refine s1 rfl (lop_fieldAddr_fp (fo := 11) rfl Try.underlying30 rfl rfl Try.sizeOf28 (by decide) rfl) ?_
      first
        | refine s1 rfl (lop_load_rf rfl rfl Try.isAgg28 rfl) ?_
        | refine s1 rfl (lop_load_fp rfl Try.isAgg28 rfl) ?_
      first
        | refine s1 rfl (lop_fieldAddr_rf (fo := 1) rfl Try.underlying50 rfl rfl Try.sizeOf3 (by decide)) ?_
        | refine s1 rfl (lop_fieldAddr_fp (fo := 1) rfl Try.underlying50 rfl rfl Try.sizeOf3 (by decide) rfl) ?_
      first
        | refine s1 rfl (lop_load_rf rfl rfl Try.isAgg3 rfl) ?_
        | refine s1 rfl (lop_load_fp rfl Try.isAgg3 rfl) ?_
      refine s1 rfl (lop_call rfl Try.call69 (FrzL.tf rfl) (.inl rfl) (whole_ac (by have := hm.places; omega) (volF x c.vol).1.home)) ?_
      refine s1 rfl (lop_not rfl) ?_
      refine s1 rfl (lop_assign (v := .bool _) rfl) ?_
      refine ops_nil ?_
      first
        | refine ok_if _ rfl rfl (fun h_t26 => ?_) (fun h_t26 => ?_)
        | refine ok_cond rfl rfl (fun h_t26 => ?_) (fun h_t26 => ?_)
      · refine ok_drw Try.mixed ?_
        first
          | refine d1 rfl rfl (lop_load_rf_agg (ys := [_, _, _]) rfl rfl Try.isAgg26 Try.sizeOf26 (Nat.le_of_ble_eq_true rfl) rfl) ?_
          | refine d1 rfl rfl (lop_load_fp_agg (ys := [_, _, _]) rfl Try.isAgg26 Try.sizeOf26 (Nat.le_of_ble_eq_true rfl) rfl) ?_
        refine d1 rfl rfl (lop_call rfl Try.call23 (FrzL.tf rfl) (.inl rfl) (no_ac 1)) ?_
        first
          | refine d0w rfl rfl (lop_storeK (v := .agg [_, _, _]) (cs' := [_, _, _]) (f' := true) rfl rfl rfl Try.sizeOf26 rfl rfl rfl rfl rfl) ?_
          | refine d0w rfl rfl (lop_storeK (v := .agg [_, _, _]) (cs' := [_, _, _]) (f' := false) rfl rfl rfl Try.sizeOf26 rfl rfl rfl rfl rfl) ?_
        first
          | refine d0w rfl rfl (lop_storeK (v := .agg [.int _ _, .int _ _, .int _ _, .int _ _, .int _ _, .bool _]) (cs' := [.int _ _, .int _ _, .int _ _, .int _ _, .int _ _, .bool _]) (f' := true) rfl rfl rfl Try.sizeOf35 rfl rfl rfl rfl rfl) ?_
          | refine d0w rfl rfl (lop_storeK (v := .agg [.int _ _, .int _ _, .int _ _, .int _ _, .int _ _, .bool _]) (cs' := [.int _ _, .int _ _, .int _ _, .int _ _, .int _ _, .bool _]) (f' := false) rfl rfl rfl Try.sizeOf35 rfl rfl rfl rfl rfl) ?_
        refine dr_nil (by kernel_rfl) ?_
        refine ok_ret ?_
        rw [show sealF x c = (x, noR 1) by unfold sealF; rw [if_neg h_t15, if_neg h_t20, if_pos (by simpa using h_t26)]]
        exact ret_gen (R := [4, 5]) ⟨_, _, rfl, ⟨rfl, 4, 0, _, _, rfl, rfl, .inl ⟨3, Try.isAgg26, Try.sizeOf26, Nat.le_of_ble_eq_true rfl, rfl⟩⟩, _, _, rfl, ⟨rfl, 5, 0, _, _, rfl, rfl, .inl ⟨6, Try.isAgg35, Try.sizeOf35, Nat.le_of_ble_eq_true rfl, rfl⟩⟩, rfl⟩ (.tup (.cons (.agg (FrzL.tf rfl)) (.cons (.agg (FrzL.tf rfl)) .nil))) (fun t ht => by simp at ht; rcases ht with rfl | rfl <;> exact Option.some_ne_none _)
      · refine ok_skip ?_
        refine ok_drw Try.mixed ?_
        first
          | refine d1 rfl rfl (lop_fieldAddr_rf (fo := 11) rfl Try.underlying30 rfl rfl Try.sizeOf28 (by decide)) ?_
          | refine d1 rfl rfl (lop_fieldAddr_fp (fo := 11) rfl Try.underlying30 rfl rfl Try.sizeOf28 (by decide) rfl) ?_
        first
          | refine d1 rfl rfl (lop_load_rf rfl rfl Try.isAgg28 rfl) ?_
          | refine d1 rfl rfl (lop_load_fp rfl Try.isAgg28 rfl) ?_
        first
          | refine d1 rfl rfl (lop_fieldAddr_rf (fo := 4) rfl Try.underlying50 rfl rfl Try.sizeOf3 (by decide)) ?_
          | refine d1 rfl rfl (lop_fieldAddr_fp (fo := 4) rfl Try.underlying50 rfl rfl Try.sizeOf3 (by decide) rfl) ?_
        first
          | refine d0w rfl rfl (lop_storeK (v := .int _ _) (cs' := [.int _ _, .int _ _, .int _ _, .int _ _, .int _ _, _, _, .int _ _, .int _ _]) (f' := true) rfl rfl rfl Try.sizeOf3 rfl rfl rfl rfl rfl) ?_
          | refine d0w rfl rfl (lop_storeK (v := .int _ _) (cs' := [.int _ _, .int _ _, .int _ _, .int _ _, .int _ _, _, _, .int _ _, .int _ _]) (f' := false) rfl rfl rfl Try.sizeOf3 rfl rfl rfl rfl rfl) ?_
        first
          | refine d1 rfl rfl (lop_fieldAddr_rf (fo := 6) rfl Try.underlying50 rfl rfl Try.sizeOf28 (by decide)) ?_
          | refine d1 rfl rfl (lop_fieldAddr_fp (fo := 6) rfl Try.underlying50 rfl rfl Try.sizeOf28 (by decide) rfl) ?_
        first
          | refine d0w rfl rfl (lop_storeK (v := .sl _ _) (cs' := [.int _ _, .int _ _, .int _ _, .int _ _, .int _ _, _, _, .int _ _, .int _ _]) (f' := true) rfl rfl rfl Try.sizeOf28 rfl rfl rfl rfl rfl) ?_
          | refine d0w rfl rfl (lop_storeK (v := .os _ _ _ _) (cs' := [.int _ _, .int _ _, .int _ _, .int _ _, .int _ _, _, _, .int _ _, .int _ _]) (f' := true) rfl rfl rfl Try.sizeOf28 rfl rfl rfl rfl rfl) ?_
          | refine d0w rfl rfl (lop_storeK (v := .z0) (cs' := [.int _ _, .int _ _, .int _ _, .int _ _, .int _ _, _, _, .int _ _, .int _ _]) (f' := true) rfl rfl rfl Try.sizeOf28 rfl rfl rfl rfl rfl) ?_
          | refine d0w rfl rfl (lop_storeK (v := .sl _ _) (cs' := [.int _ _, .int _ _, .int _ _, .int _ _, .int _ _, _, _, .int _ _, .int _ _]) (f' := false) rfl rfl rfl Try.sizeOf28 rfl rfl rfl rfl rfl) ?_
          | refine d0w rfl rfl (lop_storeK (v := .os _ _ _ _) (cs' := [.int _ _, .int _ _, .int _ _, .int _ _, .int _ _, _, _, .int _ _, .int _ _]) (f' := false) rfl rfl rfl Try.sizeOf28 rfl rfl rfl rfl rfl) ?_
          | refine d0w rfl rfl (lop_storeK (v := .z0) (cs' := [.int _ _, .int _ _, .int _ _, .int _ _, .int _ _, _, _, .int _ _, .int _ _]) (f' := false) rfl rfl rfl Try.sizeOf28 rfl rfl rfl rfl rfl) ?_
        refine dr_nil (by kernel_rfl) ?_
        refine ok_reg ?_
        first
          | refine s1 rfl (lop_fieldAddr_rf (fo := 0) rfl Try.underlying26 rfl rfl Try.sizeOf22 (by decide)) ?_
          | refine s1 rfl (lop_fieldAddr_fp (fo := 0) rfl Try.underlying26 rfl rfl Try.sizeOf22 (by decide) rfl) ?_
        first
          | refine s1 rfl (lop_load_rf rfl rfl Try.isAgg22 rfl) ?_
          | refine s1 rfl (lop_load_fp rfl Try.isAgg22 rfl) ?_
        refine s1 rfl (lop_move (v := .int _ _) rfl) ?_
        first
          | refine s1 rfl (lop_load_rf_agg (ys := [.int _ _, .int _ _, .int _ _, .int _ _, .int _ _, _, _, .int _ _, .int _ _]) rfl rfl Try.isAgg50 Try.sizeOf50 (Nat.le_of_ble_eq_true rfl) rfl) ?_
          | refine s1 rfl (lop_load_fp_agg (ys := [.int _ _, .int _ _, .int _ _, .int _ _, .int _ _, _, _, .int _ _, .int _ _]) rfl Try.isAgg50 Try.sizeOf50 (Nat.le_of_ble_eq_true rfl) rfl) ?_
        refine s1 rfl (lop_call rfl Try.call62 (fzL_sound _ [] _ rfl) (.inl rfl) (set_Vol_ac (l := x.vols) (by have := hx.vols; omega) hvm.2.1 { (volF x c.vol).1 with phase := 3, places := c.places })) ?_
        first
          | refine s1 rfl (lop_fieldAddr_rf (fo := 0) rfl Try.underlying26 rfl rfl Try.sizeOf22 (by decide)) ?_
          | refine s1 rfl (lop_fieldAddr_fp (fo := 0) rfl Try.underlying26 rfl rfl Try.sizeOf22 (by decide) rfl) ?_
        first
          | refine s0w rfl (lop_storeK (v := .sl _ _) (cs' := [_, _, _]) (f' := true) rfl rfl rfl Try.sizeOf22 rfl rfl rfl rfl rfl) ?_
          | refine s0w rfl (lop_storeK (v := .os _ _ _ _) (cs' := [_, _, _]) (f' := true) rfl rfl rfl Try.sizeOf22 rfl rfl rfl rfl rfl) ?_
          | refine s0w rfl (lop_storeK (v := .z0) (cs' := [_, _, _]) (f' := true) rfl rfl rfl Try.sizeOf22 rfl rfl rfl rfl rfl) ?_
          | refine s0w rfl (lop_storeK (v := .sl _ _) (cs' := [_, _, _]) (f' := false) rfl rfl rfl Try.sizeOf22 rfl rfl rfl rfl rfl) ?_
          | refine s0w rfl (lop_storeK (v := .os _ _ _ _) (cs' := [_, _, _]) (f' := false) rfl rfl rfl Try.sizeOf22 rfl rfl rfl rfl rfl) ?_
          | refine s0w rfl (lop_storeK (v := .z0) (cs' := [_, _, _]) (f' := false) rfl rfl rfl Try.sizeOf22 rfl rfl rfl rfl rfl) ?_
        refine ops_nil ?_
        refine ok_drw Try.mixed ?_
        first
          | refine d1 rfl rfl (lop_load_rf_agg (ys := [_, _, _]) rfl rfl Try.isAgg26 Try.sizeOf26 (Nat.le_of_ble_eq_true rfl) rfl) ?_
          | refine d1 rfl rfl (lop_load_fp_agg (ys := [_, _, _]) rfl Try.isAgg26 Try.sizeOf26 (Nat.le_of_ble_eq_true rfl) rfl) ?_
        first
          | refine d1 rfl rfl (lop_fieldAddr_rf (fo := 0) rfl Try.underlying50 rfl rfl Try.sizeOf3 (by decide)) ?_
          | refine d1 rfl rfl (lop_fieldAddr_fp (fo := 0) rfl Try.underlying50 rfl rfl Try.sizeOf3 (by decide) rfl) ?_
        first
          | refine d1 rfl rfl (lop_load_rf rfl rfl Try.isAgg3 rfl) ?_
          | refine d1 rfl rfl (lop_load_fp rfl Try.isAgg3 rfl) ?_
        refine d1 rfl rfl (lop_buildK (cs := [.int _ _, .int _ _, .int _ _, .int _ _, .int _ _, .bool _]) Try.underlying35 Try.zeroValue35 rfl rfl places35 rfl) ?_
        first
          | refine d0w rfl rfl (lop_storeK (v := .agg [_, _, _]) (cs' := [_, _, _]) (f' := true) rfl rfl rfl Try.sizeOf26 rfl rfl rfl rfl rfl) ?_
          | refine d0w rfl rfl (lop_storeK (v := .agg [_, _, _]) (cs' := [_, _, _]) (f' := false) rfl rfl rfl Try.sizeOf26 rfl rfl rfl rfl rfl) ?_
        first
          | refine d0w rfl rfl (lop_storeK (v := .agg [.int _ _, .int _ _, .int _ _, .int _ _, .int _ _, .bool _]) (cs' := [.int _ _, .int _ _, .int _ _, .int _ _, .int _ _, .bool _]) (f' := true) rfl rfl rfl Try.sizeOf35 rfl rfl rfl rfl rfl) ?_
          | refine d0w rfl rfl (lop_storeK (v := .agg [.int _ _, .int _ _, .int _ _, .int _ _, .int _ _, .bool _]) (cs' := [.int _ _, .int _ _, .int _ _, .int _ _, .int _ _, .bool _]) (f' := false) rfl rfl rfl Try.sizeOf35 rfl rfl rfl rfl rfl) ?_
        refine dr_nil (by kernel_rfl) ?_
        refine ok_ret ?_
        rw [show sealF x c = (⟨setL x.vols (volF x c.vol).2 { (volF x c.vol).1 with phase := 3, places := c.places }, x.names, x.last⟩, ⟨0, (volF x c.vol).1.id, 0, 0, 0, false⟩) by unfold sealF; rw [if_neg h_t15, if_neg h_t20, if_neg (by simpa using h_t26)]]
        exact ret_gen (R := [4, 5]) ⟨_, _, rfl, ⟨rfl, 4, 0, _, _, rfl, rfl, .inl ⟨3, Try.isAgg26, Try.sizeOf26, Nat.le_of_ble_eq_true rfl, rfl⟩⟩, _, _, rfl, ⟨rfl, 5, 0, _, _, rfl, rfl, .inl ⟨6, Try.isAgg35, Try.sizeOf35, Nat.le_of_ble_eq_true rfl, rfl⟩⟩, rfl⟩ (.tup (.cons (.agg (FrzL.tf rfl)) (.cons (.agg (FrzL.tf rfl)) .nil))) (fun t ht => by simp at ht; rcases ht with rfl | rfl <;> exact Option.some_ne_none _)

theorem drop_ac {x : IdxD} (hx : Fit 549755000000 x) {c : CmdD} (hm : May c) : AC Try.prog 44 [.agg x.enc, .agg c.enc] (.tup [.agg (dropF x c).1.enc, .agg (dropF x c).2.enc]) := by
  refine AC.intro Try.func44 rfl (Nat.le_of_ble_eq_true rfl) ?_
  refine ok_reg ?_
  first
    | refine s1w rfl (lop_box (t := 2) (v := .agg [_, _, _]) (f := true) (cs := [_, _, _]) rfl rfl rfl rfl (fun h => by cases h)) rfl ?_
    | refine s1w rfl (lop_box (t := 2) (v := .agg [_, _, _]) (f := false) (cs := [_, _, _]) rfl rfl rfl rfl (fun _ => rfl)) rfl ?_
  first
    | refine s1w rfl (lop_box (t := 3) (v := .agg [.int _ _, .int _ _, .int _ _, .str _, .int _ _, .int _ _, .int _ _, .int _ _, .int _ _, .int _ _, .int _ _, _]) (f := true) (cs := [.int _ _, .int _ _, .int _ _, .str _, .int _ _, .int _ _, .int _ _, .int _ _, .int _ _, .int _ _, .int _ _, _]) rfl rfl rfl rfl (fun h => by cases h)) rfl ?_
    | refine s1w rfl (lop_box (t := 3) (v := .agg [.int _ _, .int _ _, .int _ _, .str _, .int _ _, .int _ _, .int _ _, .int _ _, .int _ _, .int _ _, .int _ _, _]) (f := false) (cs := [.int _ _, .int _ _, .int _ _, .str _, .int _ _, .int _ _, .int _ _, .int _ _, .int _ _, .int _ _, .int _ _, _]) rfl rfl rfl rfl (fun _ => rfl)) rfl ?_
  refine s1w rfl (lop_new (t := 4) (cs := [.z0, .z0, .z0]) Try.zeroValue26 rfl rfl rfl rfl) rfl ?_
  refine s1w rfl (lop_new (t := 5) (cs := [.int _ _, .int _ _, .int _ _, .int _ _, .int _ _, .bool _]) Try.zeroValue35 rfl rfl rfl rfl) rfl ?_
  refine ops_nil ?_
  refine ok_reg ?_
  first
    | refine s1 rfl (lop_load_rf_agg (ys := [_, _, _]) rfl rfl Try.isAgg26 Try.sizeOf26 (Nat.le_of_ble_eq_true rfl) rfl) ?_
    | refine s1 rfl (lop_load_fp_agg (ys := [_, _, _]) rfl Try.isAgg26 Try.sizeOf26 (Nat.le_of_ble_eq_true rfl) rfl) ?_
  first
    | refine s1 rfl (lop_fieldAddr_rf (fo := 3) rfl Try.underlying30 rfl rfl Try.sizeOf9 (by decide)) ?_
    | refine s1 rfl (lop_fieldAddr_fp (fo := 3) rfl Try.underlying30 rfl rfl Try.sizeOf9 (by decide) rfl) ?_
  first
    | refine s1 rfl (lop_load_rf rfl rfl Try.isAgg9 rfl) ?_
    | refine s1 rfl (lop_load_fp rfl Try.isAgg9 rfl) ?_
  refine s1 rfl (lop_call rfl Try.call31 (FrzL.tf rfl) (.inl rfl) (index_name_ac x (by have := hx.names; omega) c.name)) ?_
  refine s1 rfl (lop_move (v := .tup _) rfl) ?_
  refine s1 rfl (lop_extract rfl rfl) ?_
  refine s1 rfl (lop_extract rfl rfl) ?_
  refine s1w rfl (lop_new (t := 6) (cs := [.str _, .int _ _, .int _ _, .int _ _, .int _ _]) Try.zeroValue47 rfl rfl rfl rfl) rfl ?_
  first
    | refine s0w rfl (lop_storeK (v := .agg [.str _, .int _ _, .int _ _, .int _ _, .int _ _]) (cs' := [.str _, .int _ _, .int _ _, .int _ _, .int _ _]) (f' := true) rfl rfl rfl Try.sizeOf47 rfl rfl rfl rfl rfl) ?_
    | refine s0w rfl (lop_storeK (v := .agg [.str _, .int _ _, .int _ _, .int _ _, .int _ _]) (cs' := [.str _, .int _ _, .int _ _, .int _ _, .int _ _]) (f' := false) rfl rfl rfl Try.sizeOf47 rfl rfl rfl rfl rfl) ?_
  refine s1 rfl (lop_assign (v := .int _ _) rfl) ?_
  refine ops_nil ?_
  refine ok_seq ?_
  refine ok_reg ?_
  refine s1 rfl (lop_move (v := .int _ _) rfl) ?_
  refine s1 rfl (lop_lss rfl rfl) ?_
  refine ops_nil ?_
  first
    | refine ok_if _ rfl rfl (fun h_t16 => ?_) (fun h_t16 => ?_)
    | refine ok_cond rfl rfl (fun h_t16 => ?_) (fun h_t16 => ?_)
  · refine ok_reg ?_
    first
      | refine s1 rfl (lop_load_rf_agg (ys := [_, _, _]) rfl rfl Try.isAgg26 Try.sizeOf26 (Nat.le_of_ble_eq_true rfl) rfl) ?_
      | refine s1 rfl (lop_load_fp_agg (ys := [_, _, _]) rfl Try.isAgg26 Try.sizeOf26 (Nat.le_of_ble_eq_true rfl) rfl) ?_
    refine s1 rfl (lop_buildK (cs := [.int _ _, .int _ _, .int _ _, .int _ _, .int _ _, .bool _]) Try.underlying35 Try.zeroValue35 rfl rfl places35 rfl) ?_
    first
      | refine s0w rfl (lop_storeK (v := .agg [_, _, _]) (cs' := [_, _, _]) (f' := true) rfl rfl rfl Try.sizeOf26 rfl rfl rfl rfl rfl) ?_
      | refine s0w rfl (lop_storeK (v := .agg [_, _, _]) (cs' := [_, _, _]) (f' := false) rfl rfl rfl Try.sizeOf26 rfl rfl rfl rfl rfl) ?_
    first
      | refine s0w rfl (lop_storeK (v := .agg [.int _ _, .int _ _, .int _ _, .int _ _, .int _ _, .bool _]) (cs' := [.int _ _, .int _ _, .int _ _, .int _ _, .int _ _, .bool _]) (f' := true) rfl rfl rfl Try.sizeOf35 rfl rfl rfl rfl rfl) ?_
      | refine s0w rfl (lop_storeK (v := .agg [.int _ _, .int _ _, .int _ _, .int _ _, .int _ _, .bool _]) (cs' := [.int _ _, .int _ _, .int _ _, .int _ _, .int _ _, .bool _]) (f' := false) rfl rfl rfl Try.sizeOf35 rfl rfl rfl rfl rfl) ?_
    refine ops_nil ?_
    refine ok_ret ?_
    rw [show dropF x c = (x, .zero) by unfold dropF; rw [if_pos h_t16]]
    exact ret_gen (R := [4, 5]) ⟨_, _, rfl, ⟨rfl, 4, 0, _, _, rfl, rfl, .inl ⟨3, Try.isAgg26, Try.sizeOf26, Nat.le_of_ble_eq_true rfl, rfl⟩⟩, _, _, rfl, ⟨rfl, 5, 0, _, _, rfl, rfl, .inl ⟨6, Try.isAgg35, Try.sizeOf35, Nat.le_of_ble_eq_true rfl, rfl⟩⟩, rfl⟩ (.tup (.cons (.agg (FrzL.tf rfl)) (.cons (.agg (FrzL.tf rfl)) .nil))) (fun t ht => by simp at ht; rcases ht with rfl | rfl <;> exact Option.some_ne_none _)
  · obtain ⟨k, hk, hat⟩ := nameF_at h_t16
    have hxn := hx.names
    rw [hat]
    dsimp only
    refine ok_skip ?_
    refine ok_reg ?_
    first
      | refine s1 rfl (lop_fieldAddr_rf (fo := 1) rfl Try.underlying26 rfl rfl Try.sizeOf23 (by decide)) ?_
      | refine s1 rfl (lop_fieldAddr_fp (fo := 1) rfl Try.underlying26 rfl rfl Try.sizeOf23 (by decide) rfl) ?_
    first
      | refine s1 rfl (lop_load_rf rfl rfl Try.isAgg23 rfl) ?_
      | refine s1 rfl (lop_load_fp rfl Try.isAgg23 rfl) ?_
    refine s1w rfl (lop_callH (R := []) (nw := [500]) (W := [(500, some (true, x.names.flatMap NameD.enc))]) rfl Try.call67 rfl (clone_Name_ac (by have := hx.names; omega)) trivial rfl rfl rfl rfl rfl rfl) rfl ?_
    refine s1 rfl (lop_move (v := .int _ _) rfl) ?_
    refine s1 rfl (lop_move (v := .int _ _) rfl) ?_
    refine s1 rfl (lop_bop rfl rfl rfl (show bop _ _ _ _ = ((k + 1 : Nat) : Int) from (bop_add (by omega) (by omega)).trans (by omega))) ?_
    refine s2w rfl (lop_callH (R := [500]) (nw := [501]) (W := [(501, some (true, (x.names.take k ++ x.names.drop (k + 1)).flatMap NameD.enc)), (500, none)]) rfl Try.call68 rfl (delete_Name_ac (L := x.names) (n := x.names.length) (k := k) rfl hk (by omega)) (by exact ⟨.inr rfl, trivial⟩) rfl rfl rfl rfl rfl rfl) rfl ?_
    first
      | refine s1 rfl (lop_fieldAddr_rf (fo := 1) rfl Try.underlying26 rfl rfl Try.sizeOf23 (by decide)) ?_
      | refine s1 rfl (lop_fieldAddr_fp (fo := 1) rfl Try.underlying26 rfl rfl Try.sizeOf23 (by decide) rfl) ?_
    first
      | refine s0w rfl (lop_storeK (v := .sl _ _) (cs' := [_, _, _]) (f' := true) rfl rfl rfl Try.sizeOf23 rfl rfl rfl rfl rfl) ?_
      | refine s0w rfl (lop_storeK (v := .os _ _ _ _) (cs' := [_, _, _]) (f' := true) rfl rfl rfl Try.sizeOf23 rfl rfl rfl rfl rfl) ?_
      | refine s0w rfl (lop_storeK (v := .z0) (cs' := [_, _, _]) (f' := true) rfl rfl rfl Try.sizeOf23 rfl rfl rfl rfl rfl) ?_
      | refine s0w rfl (lop_storeK (v := .sl _ _) (cs' := [_, _, _]) (f' := false) rfl rfl rfl Try.sizeOf23 rfl rfl rfl rfl rfl) ?_
      | refine s0w rfl (lop_storeK (v := .os _ _ _ _) (cs' := [_, _, _]) (f' := false) rfl rfl rfl Try.sizeOf23 rfl rfl rfl rfl rfl) ?_
      | refine s0w rfl (lop_storeK (v := .z0) (cs' := [_, _, _]) (f' := false) rfl rfl rfl Try.sizeOf23 rfl rfl rfl rfl rfl) ?_
    refine ops_nil ?_
    refine ok_reg ?_
    first
      | refine s1 rfl (lop_load_rf_agg (ys := [_, _, _]) rfl rfl Try.isAgg26 Try.sizeOf26 (Nat.le_of_ble_eq_true rfl) rfl) ?_
      | refine s1 rfl (lop_load_fp_agg (ys := [_, _, _]) rfl Try.isAgg26 Try.sizeOf26 (Nat.le_of_ble_eq_true rfl) rfl) ?_
    refine s1 rfl (lop_buildK (cs := [.int _ _, .int _ _, .int _ _, .int _ _, .int _ _, .bool _]) Try.underlying35 Try.zeroValue35 rfl rfl places35 rfl) ?_
    first
      | refine s0w rfl (lop_storeK (v := .agg [_, _, _]) (cs' := [_, _, _]) (f' := true) rfl rfl rfl Try.sizeOf26 rfl rfl rfl rfl rfl) ?_
      | refine s0w rfl (lop_storeK (v := .agg [_, _, _]) (cs' := [_, _, _]) (f' := false) rfl rfl rfl Try.sizeOf26 rfl rfl rfl rfl rfl) ?_
    first
      | refine s0w rfl (lop_storeK (v := .agg [.int _ _, .int _ _, .int _ _, .int _ _, .int _ _, .bool _]) (cs' := [.int _ _, .int _ _, .int _ _, .int _ _, .int _ _, .bool _]) (f' := true) rfl rfl rfl Try.sizeOf35 rfl rfl rfl rfl rfl) ?_
      | refine s0w rfl (lop_storeK (v := .agg [.int _ _, .int _ _, .int _ _, .int _ _, .int _ _, .bool _]) (cs' := [.int _ _, .int _ _, .int _ _, .int _ _, .int _ _, .bool _]) (f' := false) rfl rfl rfl Try.sizeOf35 rfl rfl rfl rfl rfl) ?_
    refine ops_nil ?_
    refine ok_ret ?_
    rw [show dropF x c = (⟨x.vols, (x.names.take k ++ x.names.drop (k + 1)), x.last⟩, ⟨0, 0, 0, 0, 0, true⟩) by unfold dropF; rw [if_neg h_t16, hat]; rfl]
    have hdl : (x.names.take k ++ x.names.drop (k + 1)).length = x.names.length - 1 := by rw [List.length_append, List.length_take, List.length_drop]; omega
    simp only [IdxD.enc]
    rw [show rowOf NameD.enc (x.names.take k ++ x.names.drop (k + 1)) = .sl (x.names.length - 1) ((x.names.take k ++ x.names.drop (k + 1)).flatMap NameD.enc) by unfold rowOf; rw [hdl]]
    exact ret_gen (R := [4, 5, 501]) ⟨_, _, rfl, ⟨rfl, 4, 0, _, _, rfl, rfl, .inl ⟨3, Try.isAgg26, Try.sizeOf26, Nat.le_of_ble_eq_true rfl, rfl⟩⟩, _, _, rfl, ⟨rfl, 5, 0, _, _, rfl, rfl, .inl ⟨6, Try.isAgg35, Try.sizeOf35, Nat.le_of_ble_eq_true rfl, rfl⟩⟩, rfl⟩ (.tup (.cons (.agg (.cons (.tf rfl) (.cons (.osf (by simp) rfl (by rw [flat_length NameD.len, hdl]; omega) (by rw [List.drop_zero, List.take_of_length_le (by rw [flat_length NameD.len, hdl]; omega)])) (.cons (.tf rfl) .nil)))) (.cons (.agg (FrzL.tf rfl)) .nil))) (fun t ht => by simp at ht; rcases ht with rfl | rfl | rfl <;> exact Option.some_ne_none _)

end Go.Proofs
