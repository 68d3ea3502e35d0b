/- Chapter 15: walks. Printed by gen.py. -/
import Derived.Test.YtajlkpogccbboaaT15s
set_option linter.unusedVariables false
set_option linter.unusedSimpArgs false
set_option maxRecDepth 100000
namespace Go.Proofs
open Go.Hg

theorem findG_snd {α : Type} (z : α) (p : α → Bool) (l : List α) : (findG z p l).2 = idxOf p l := by
 unfold findG idxOf
 cases l.findIdx? p <;> rfl
theorem same_self (x : IdxD) : sameF x x = true := by simp [sameF]

set_option maxHeartbeats 4000000 in
theorem IndexFinds_ac {x y : IdxD} (hx : Fit 1048577 x) (id : Int) (s : ByteArray) : AC Try.prog 8 [.agg (x.enc ++ ([i64 id, .str s] ++ y.enc))] (.bool true) := by
 have hx1 := hx.le (show 1048577 ≤ 549755000000 by decide)
 have hxv := hx.vols
 have hxn := hx.names
 have hxl := hx.last
 have hV := index_Vol_ac x (by omega) id
 have hN := index_Name_ac x (by omega) s
 have hL := index_Last_ac x (by omega) id
 rw [show (volF x id).2 = idxOf (fun v => decide (v.id = id)) x.vols from findG_snd _ _ _] at hV
 rw [show (nameF x s).2 = idxOf (fun v => decide (v.name = s)) x.names from findG_snd _ _ _] at hN
 rw [show (lastF x id).2 = idxOf (fun v => decide (v.client = id)) x.last from findG_snd _ _ _] at hL
 refine AC.intro Try.func8 rfl (Nat.le_of_ble_eq_true rfl) ?_
 refine ok_reg ?_
 first
  | refine s1w rfl (lop_box (t := 1) (v := .agg [_, _, _, .int _ _, .str _, _, _, _]) (f := true) (cs := [_, _, _, .int _ _, .str _, _, _, _]) rfl rfl rfl rfl (fun h => by cases h)) rfl ?_
  | refine s1w rfl (lop_box (t := 1) (v := .agg [_, _, _, .int _ _, .str _, _, _, _]) (f := false) (cs := [_, _, _, .int _ _, .str _, _, _, _]) rfl rfl rfl rfl (fun _ => rfl)) rfl ?_
 refine s1 rfl (lop_assign (v := .bool _) rfl) ?_
 refine ops_nil ?_
 refine ok_reg ?_
 first
  | refine s1 rfl (lop_fieldAddr_rf (fo := 0) rfl Try.underlying65 rfl rfl Try.sizeOf26 (by decide)) ?_
  | refine s1 rfl (lop_fieldAddr_fp (fo := 0) rfl Try.underlying65 rfl rfl Try.sizeOf26 (by decide) rfl) ?_
 first
  | refine s1 rfl (lop_load_rf_agg (ys := [_, _, _]) rfl rfl Try.isAgg26 Try.sizeOf26 (Nat.le_of_ble_eq_true rfl) rfl) ?_
  | refine s1 rfl (lop_load_fp_agg (ys := [_, _, _]) rfl Try.isAgg26 Try.sizeOf26 (Nat.le_of_ble_eq_true rfl) rfl) ?_
 refine s1w rfl (lop_new (t := 3) (cs := [.z0, .z0, .z0]) Try.zeroValue26 rfl rfl rfl rfl) rfl ?_
 first
  | refine s0w rfl (lop_storeK (v := .agg [_, _, _]) (cs' := [_, _, _]) (f' := true) rfl rfl rfl Try.sizeOf26 rfl rfl rfl rfl rfl) ?_
  | refine s0w rfl (lop_storeK (v := .agg [_, _, _]) (cs' := [_, _, _]) (f' := false) rfl rfl rfl Try.sizeOf26 rfl rfl rfl rfl rfl) ?_
 refine ops_nil ?_
 refine ok_reg ?_
 first
  | refine s1 rfl (lop_fieldAddr_rf (fo := 3) rfl Try.underlying65 rfl rfl Try.sizeOf3 (by decide)) ?_
  | refine s1 rfl (lop_fieldAddr_fp (fo := 3) rfl Try.underlying65 rfl rfl Try.sizeOf3 (by decide) rfl) ?_
 first
  | refine s1 rfl (lop_load_rf rfl rfl Try.isAgg3 rfl) ?_
  | refine s1 rfl (lop_load_fp rfl Try.isAgg3 rfl) ?_
 refine s1 rfl (lop_assign (v := .int _ _) rfl) ?_
 refine ops_nil ?_
 refine ok_reg ?_
 first
  | refine s1 rfl (lop_fieldAddr_rf (fo := 4) rfl Try.underlying65 rfl rfl Try.sizeOf9 (by decide)) ?_
  | refine s1 rfl (lop_fieldAddr_fp (fo := 4) rfl Try.underlying65 rfl rfl Try.sizeOf9 (by decide) rfl) ?_
 first
  | refine s1 rfl (lop_load_rf rfl rfl Try.isAgg9 rfl) ?_
  | refine s1 rfl (lop_load_fp rfl Try.isAgg9 rfl) ?_
 refine s1 rfl (lop_assign (v := .str _) rfl) ?_
 refine ops_nil ?_
 refine ok_reg ?_
 first
  | refine s1 rfl (lop_fieldAddr_rf (fo := 5) rfl Try.underlying65 rfl rfl Try.sizeOf26 (by decide)) ?_
  | refine s1 rfl (lop_fieldAddr_fp (fo := 5) rfl Try.underlying65 rfl rfl Try.sizeOf26 (by decide) rfl) ?_
 first
  | refine s1 rfl (lop_load_rf_agg (ys := [_, _, _]) rfl rfl Try.isAgg26 Try.sizeOf26 (Nat.le_of_ble_eq_true rfl) rfl) ?_
  | refine s1 rfl (lop_load_fp_agg (ys := [_, _, _]) rfl Try.isAgg26 Try.sizeOf26 (Nat.le_of_ble_eq_true rfl) rfl) ?_
 refine s1w rfl (lop_new (t := 6) (cs := [.z0, .z0, .z0]) Try.zeroValue26 rfl rfl rfl rfl) rfl ?_
 first
  | refine s0w rfl (lop_storeK (v := .agg [_, _, _]) (cs' := [_, _, _]) (f' := true) rfl rfl rfl Try.sizeOf26 rfl rfl rfl rfl rfl) ?_
  | refine s0w rfl (lop_storeK (v := .agg [_, _, _]) (cs' := [_, _, _]) (f' := false) rfl rfl rfl Try.sizeOf26 rfl rfl rfl rfl rfl) ?_
 refine ops_nil ?_
 refine ok_reg ?_
 refine s1 rfl (lop_call rfl Try.call9 (FrzL.tf rfl) (.inl rfl) shown_ac) ?_
 refine s1 rfl (lop_assign (v := .bool _) rfl) ?_
 refine ops_nil ?_
 refine ok_reg ?_
 first
  | refine s1 rfl (lop_load_rf_agg (ys := [_, _, _]) rfl rfl Try.isAgg26 Try.sizeOf26 (Nat.le_of_ble_eq_true rfl) rfl) ?_
  | refine s1 rfl (lop_load_fp_agg (ys := [_, _, _]) rfl Try.isAgg26 Try.sizeOf26 (Nat.le_of_ble_eq_true rfl) rfl) ?_
 refine s1 rfl (lop_move (v := .int _ _) rfl) ?_
 refine s1 rfl (lop_call rfl Try.call15 (FrzL.tf rfl) (.inl rfl) hV) ?_
 refine s1 rfl (lop_move (v := .tup _) rfl) ?_
 refine s1 rfl (lop_extract rfl rfl) ?_
 refine s1 rfl (lop_extract rfl rfl) ?_
 refine s1w rfl (lop_new (t := 8) (cs := [.int _ _, .int _ _, .int _ _, .int _ _, .int _ _, .z0, .z0, .int _ _, .int _ _]) Try.zeroValue50 rfl rfl rfl rfl) rfl ?_
 first
  | refine s0w rfl (lop_storeK (v := .agg [.int _ _, .int _ _, .int _ _, .int _ _, .int _ _, _, _, .int _ _, .int _ _]) (cs' := [.int _ _, .int _ _, .int _ _, .int _ _, .int _ _, _, _, .int _ _, .int _ _]) (f' := true) rfl rfl rfl Try.sizeOf50 rfl rfl rfl rfl rfl) ?_
  | refine s0w rfl (lop_storeK (v := .agg [.int _ _, .int _ _, .int _ _, .int _ _, .int _ _, _, _, .int _ _, .int _ _]) (cs' := [.int _ _, .int _ _, .int _ _, .int _ _, .int _ _, _, _, .int _ _, .int _ _]) (f' := false) rfl rfl rfl Try.sizeOf50 rfl rfl rfl rfl rfl) ?_
 refine s1 rfl (lop_assign (v := .bool _) rfl) ?_
 refine ops_nil ?_
 refine ok_reg ?_
 first
  | refine s1 rfl (lop_load_rf_agg (ys := [_, _, _]) rfl rfl Try.isAgg26 Try.sizeOf26 (Nat.le_of_ble_eq_true rfl) rfl) ?_
  | refine s1 rfl (lop_load_fp_agg (ys := [_, _, _]) rfl Try.isAgg26 Try.sizeOf26 (Nat.le_of_ble_eq_true rfl) rfl) ?_
 refine s1 rfl (lop_move (v := .int _ _) rfl) ?_
 refine s1 rfl (lop_call rfl Try.call17 (FrzL.tf rfl) (.inl rfl) (ref15_VolAt_ac x (by omega) id)) ?_
 refine s1 rfl (lop_assign (v := .int _ _) rfl) ?_
 refine ops_nil ?_
 refine ok_reg ?_
 first
  | refine s1 rfl (lop_load_rf_agg (ys := [_, _, _]) rfl rfl Try.isAgg26 Try.sizeOf26 (Nat.le_of_ble_eq_true rfl) rfl) ?_
  | refine s1 rfl (lop_load_fp_agg (ys := [_, _, _]) rfl Try.isAgg26 Try.sizeOf26 (Nat.le_of_ble_eq_true rfl) rfl) ?_
 refine s1 rfl (lop_move (v := .str _) rfl) ?_
 refine s1 rfl (lop_call rfl Try.call16 (FrzL.tf rfl) (.inl rfl) hN) ?_
 refine s1 rfl (lop_move (v := .tup _) rfl) ?_
 refine s1 rfl (lop_extract rfl rfl) ?_
 refine s1 rfl (lop_extract rfl rfl) ?_
 refine s1w rfl (lop_new (t := 11) (cs := [.str _, .int _ _, .int _ _, .int _ _, .int _ _]) Try.zeroValue47 rfl rfl rfl rfl) rfl ?_
 first
  | refine s0w rfl (lop_storeK (v := .agg [.str _, .int _ _, .int _ _, .int _ _, .int _ _]) (cs' := [.str _, .int _ _, .int _ _, .int _ _, .int _ _]) (f' := true) rfl rfl rfl Try.sizeOf47 rfl rfl rfl rfl rfl) ?_
  | refine s0w rfl (lop_storeK (v := .agg [.str _, .int _ _, .int _ _, .int _ _, .int _ _]) (cs' := [.str _, .int _ _, .int _ _, .int _ _, .int _ _]) (f' := false) rfl rfl rfl Try.sizeOf47 rfl rfl rfl rfl rfl) ?_
 refine s1 rfl (lop_assign (v := .bool _) rfl) ?_
 refine ops_nil ?_
 refine ok_reg ?_
 first
  | refine s1 rfl (lop_load_rf_agg (ys := [_, _, _]) rfl rfl Try.isAgg26 Try.sizeOf26 (Nat.le_of_ble_eq_true rfl) rfl) ?_
  | refine s1 rfl (lop_load_fp_agg (ys := [_, _, _]) rfl Try.isAgg26 Try.sizeOf26 (Nat.le_of_ble_eq_true rfl) rfl) ?_
 refine s1 rfl (lop_move (v := .str _) rfl) ?_
 refine s1 rfl (lop_call rfl Try.call18 (FrzL.tf rfl) (.inl rfl) (ref15_NameAt_ac x (by omega) s)) ?_
 refine s1 rfl (lop_assign (v := .int _ _) rfl) ?_
 refine ops_nil ?_
 refine ok_reg ?_
 first
  | refine s1 rfl (lop_load_rf_agg (ys := [_, _, _]) rfl rfl Try.isAgg26 Try.sizeOf26 (Nat.le_of_ble_eq_true rfl) rfl) ?_
  | refine s1 rfl (lop_load_fp_agg (ys := [_, _, _]) rfl Try.isAgg26 Try.sizeOf26 (Nat.le_of_ble_eq_true rfl) rfl) ?_
 refine s1 rfl (lop_move (v := .int _ _) rfl) ?_
 refine s1 rfl (lop_call rfl Try.call12 (FrzL.tf rfl) (.inl rfl) hL) ?_
 refine s1 rfl (lop_move (v := .tup _) rfl) ?_
 refine s1 rfl (lop_extract rfl rfl) ?_
 refine s1 rfl (lop_extract rfl rfl) ?_
 refine s1w rfl (lop_new (t := 14) (cs := [.int _ _, .int _ _, .int _ _, .int _ _, .int _ _, .int _ _, .int _ _, .bool _]) Try.zeroValue39 rfl rfl rfl rfl) rfl ?_
 first
  | refine s0w rfl (lop_storeK (v := .agg [.int _ _, .int _ _, .int _ _, .int _ _, .int _ _, .int _ _, .int _ _, .bool _]) (cs' := [.int _ _, .int _ _, .int _ _, .int _ _, .int _ _, .int _ _, .int _ _, .bool _]) (f' := true) rfl rfl rfl Try.sizeOf39 rfl rfl rfl rfl rfl) ?_
  | refine s0w rfl (lop_storeK (v := .agg [.int _ _, .int _ _, .int _ _, .int _ _, .int _ _, .int _ _, .int _ _, .bool _]) (cs' := [.int _ _, .int _ _, .int _ _, .int _ _, .int _ _, .int _ _, .int _ _, .bool _]) (f' := false) rfl rfl rfl Try.sizeOf39 rfl rfl rfl rfl rfl) ?_
 refine s1 rfl (lop_assign (v := .bool _) rfl) ?_
 refine ops_nil ?_
 refine ok_reg ?_
 first
  | refine s1 rfl (lop_load_rf_agg (ys := [_, _, _]) rfl rfl Try.isAgg26 Try.sizeOf26 (Nat.le_of_ble_eq_true rfl) rfl) ?_
  | refine s1 rfl (lop_load_fp_agg (ys := [_, _, _]) rfl Try.isAgg26 Try.sizeOf26 (Nat.le_of_ble_eq_true rfl) rfl) ?_
 refine s1 rfl (lop_move (v := .int _ _) rfl) ?_
 refine s1 rfl (lop_call rfl Try.call19 (FrzL.tf rfl) (.inl rfl) (ref15_LastAt_ac x (by omega) id)) ?_
 refine s1 rfl (lop_assign (v := .int _ _) rfl) ?_
 refine ops_nil ?_
 refine ok_seq ?_
 refine ok_reg ?_
 refine s1 rfl (lop_move (v := .bool _) rfl) ?_
 refine s1 rfl (lop_move (v := .int _ _) rfl) ?_
 refine s1 rfl (lop_geq rfl rfl) ?_
 refine s1 rfl (lop_bneq rfl rfl Try.underlying4) ?_
 refine s1 rfl (lop_move (v := .bool _) rfl) ?_
 first
  | refine gsplitP 4 rfl rfl (fun g12_4 p12_4 => ?_) (fun g12_4 p12_4 => ?_)
  | refine gsplitB 4 rfl rfl (fun g12_4 p12_4 => ?_) (fun g12_4 p12_4 => ?_)
 ·exact absurd rfl p12_4
 ·refine y1 rfl rfl g12_4 rfl (lop_move (v := .bool _) rfl) ?_
  refine y1 rfl rfl g12_4 rfl (lop_move (v := .int _ _) rfl) ?_
  refine y1 rfl rfl g12_4 rfl (lop_geq rfl rfl) ?_
  refine y1 rfl rfl g12_4 rfl (lop_bneq rfl rfl Try.underlying4) ?_
  first
   | refine s1 rfl (lop_pick_f (v := .bool _) rfl g12_4 rfl) ?_
   | refine s1 rfl (lop_pick_t (v := .bool _) rfl rfl rfl) ?_
   | refine s1 rfl (lop_pick_f (v := .bool _) rfl rfl rfl) ?_
   | refine s1 rfl (lop_pick rfl rfl rfl) ?_
  refine s1 rfl (lop_move (v := .bool _) rfl) ?_
  first
   | refine gsplitP 10 rfl rfl (fun g12_10 p12_10 => ?_) (fun g12_10 p12_10 => ?_)
   | refine gsplitB 10 rfl rfl (fun g12_10 p12_10 => ?_) (fun g12_10 p12_10 => ?_)
  ·exfalso
   simp_all
  ·refine y1 rfl rfl g12_10 rfl (lop_move (v := .bool _) rfl) ?_
   refine y1 rfl rfl g12_10 rfl (lop_move (v := .int _ _) rfl) ?_
   refine y1 rfl rfl g12_10 rfl (lop_geq rfl rfl) ?_
   refine y1 rfl rfl g12_10 rfl (lop_bneq rfl rfl Try.underlying4) ?_
   first
    | refine s1 rfl (lop_pick_f (v := .bool _) rfl g12_4 rfl) ?_
    | refine s1 rfl (lop_pick_f (v := .bool _) rfl g12_10 rfl) ?_
    | refine s1 rfl (lop_pick_t (v := .bool _) rfl rfl rfl) ?_
    | refine s1 rfl (lop_pick_f (v := .bool _) rfl rfl rfl) ?_
    | refine s1 rfl (lop_pick rfl rfl rfl) ?_
   refine ops_nil ?_
   first
    | refine ok_if _ rfl rfl (fun h_t69 => ?_) (fun h_t69 => ?_)
    | refine ok_cond rfl rfl (fun h_t69 => ?_) (fun h_t69 => ?_)
   ·exfalso
    simp at h_t69
   ·refine ok_skip ?_
    refine ok_reg ?_
    refine s1 rfl (lop_assign (v := .bool _) rfl) ?_
    refine ops_nil ?_
    refine ok_seq_cut (ι := Unit) (fun _ => ⟨[(3, .rf 3 0), (6, .rf 6 0), (7, .bool true), (11, .rf 11 0), (12, .bool (decide (0 ≤ (idxOf (fun v => decide (v.name = s)) x.names)))), (13, i64 (idxOf (fun v => decide (v.name = s)) x.names)), (14, .rf 14 0), (15, .bool (decide (0 ≤ (idxOf (fun v => decide (v.client = id)) x.last)))), (16, i64 (idxOf (fun v => decide (v.client = id)) x.last)), (17, .bool true)], [(3, some (true, x.enc)), (6, some (true, y.enc)), (11, some (true, (nameF x s).1.enc)), (14, some (true, (lastF x id).1.enc))], 122⟩) ?_ ?_
    ·refine ok_reg ?_
     refine s1 rfl (lop_move (v := .bool _) rfl) ?_
     refine ops_nil ?_
     first
      | refine ok_if _ rfl rfl (fun h_t70 => ?_) (fun h_t70 => ?_)
      | refine ok_cond rfl rfl (fun h_t70 => ?_) (fun h_t70 => ?_)
     ·obtain ⟨i, hi, hix, hat, _⟩ := findG_at (z := VolD.zero) (p := (fun v => decide (v.id = id))) (l := x.vols) (by omega)
      have hat : volF x id = (x.vols[i], (i : Int)) := hat
      have hsm : sameF ⟨[(volF x id).1], [], []⟩ ⟨[x.vols[i]], [], []⟩ = true := by rw [hat]; simp [sameF]
      have hfit : Fit 549755000000 ⟨[(volF x id).1], [], []⟩ := by
       rw [hat]
       exact ⟨by simp, by simp, by simp, fun v hv => by rw [List.mem_singleton.1 hv]; exact hx1.parts _ (List.getElem_mem hi), fun v hv => by rw [List.mem_singleton.1 hv]; exact hx1.places _ (List.getElem_mem hi), fun v hv => by rw [List.mem_singleton.1 hv]; exact hx1.used _ (List.getElem_mem hi)⟩
      refine ok_draw Try.mixed ?_
      first
       | refine d1 rfl rfl (lop_load_rf_agg (ys := [.int _ _, .int _ _, .int _ _, .int _ _, .int _ _, _, _, .int _ _, .int _ _]) rfl rfl Try.isAgg50 Try.sizeOf50 (Nat.le_of_ble_eq_true rfl) rfl) ?_
       | refine d1 rfl rfl (lop_load_fp_agg (ys := [.int _ _, .int _ _, .int _ _, .int _ _, .int _ _, _, _, .int _ _, .int _ _]) rfl Try.isAgg50 Try.sizeOf50 (Nat.le_of_ble_eq_true rfl) rfl) ?_
      first
       | refine d1w rfl rfl (lop_buildSlice (t := 72) (cs := [.int _ _, .int _ _, .int _ _, .int _ _, .int _ _, _, _, .int _ _, .int _ _]) (f := true) Try.underlying22 Try.sizeOf50 (by decide) Try.zeroValue50 rfl rfl rfl (by decide) rfl (.inr (by decide)) rfl (fun h => by cases h)) ?_
       | refine d1w rfl rfl (lop_buildSlice (t := 72) (cs := [.int _ _, .int _ _, .int _ _, .int _ _, .int _ _, _, _, .int _ _, .int _ _]) (f := false) Try.underlying22 Try.sizeOf50 (by decide) Try.zeroValue50 rfl rfl rfl (by decide) rfl (.inr (by decide)) rfl (fun _ => rfl)) ?_
      first
       | refine d1 rfl rfl (lop_buildK (cs := [.sl _ _, .z0, .z0]) Try.underlying26 Try.zeroValue26 rfl rfl places26 rfl) ?_
       | refine d1 rfl rfl (lop_buildK (cs := [.os _ _ _ _, .z0, .z0]) Try.underlying26 Try.zeroValue26 rfl rfl places26 rfl) ?_
       | refine d1 rfl rfl (lop_buildK (cs := [.z0, .z0, .z0]) Try.underlying26 Try.zeroValue26 rfl rfl places26 rfl) ?_
      first
       | refine d1 rfl rfl (lop_fieldAddr_rf (fo := 0) rfl Try.underlying26 rfl rfl Try.sizeOf22 (by decide)) ?_
       | refine d1 rfl rfl (lop_fieldAddr_fp (fo := 0) rfl Try.underlying26 rfl rfl Try.sizeOf22 (by decide) rfl) ?_
      first
       | refine d1 rfl rfl (lop_load_rf rfl rfl Try.isAgg22 rfl) ?_
       | refine d1 rfl rfl (lop_load_fp rfl Try.isAgg22 rfl) ?_
      refine d1 rfl rfl (lop_move (v := .int _ _) rfl) ?_
      first
       | refine d1 rfl rfl (lop_indexAddr_os rfl rfl Try.underlying22 Try.sizeOf50 hix hi) ?_
       | refine d1 rfl rfl (lop_indexAddr_sl rfl rfl Try.underlying22 Try.sizeOf50 hix hi (flat_at VolD.len hi) (flat_ne VolD.len (by decide) hi)) ?_
      first
       | refine d1 rfl rfl (lop_load_rf_agg rfl rfl Try.isAgg50 Try.sizeOf50 (by rw [List.length_append, VolD.len]; omega) (by rw [List.take_append_of_le_length (by rw [VolD.len]; omega), List.take_of_length_le (by rw [VolD.len]; omega)])) ?_
       | refine d1 rfl rfl (lop_load_fp_agg rfl Try.isAgg50 Try.sizeOf50 (by rw [List.length_append, VolD.len]; omega) (by rw [List.take_append_of_le_length (by rw [VolD.len]; omega), List.take_of_length_le (by rw [VolD.len]; omega)])) ?_
      first
       | refine d1w rfl rfl (lop_buildSlice (t := 79) (cs := [.int _ _, .int _ _, .int _ _, .int _ _, .int _ _, _, _, .int _ _, .int _ _]) (f := true) Try.underlying22 Try.sizeOf50 (by decide) Try.zeroValue50 rfl rfl rfl (by decide) rfl (.inr (by decide)) rfl (fun h => by cases h)) ?_
       | refine d1w rfl rfl (lop_buildSlice (t := 79) (cs := [.int _ _, .int _ _, .int _ _, .int _ _, .int _ _, _, _, .int _ _, .int _ _]) (f := false) Try.underlying22 Try.sizeOf50 (by decide) Try.zeroValue50 rfl rfl rfl (by decide) rfl (.inr (by decide)) rfl (fun _ => rfl)) ?_
      first
       | refine d1 rfl rfl (lop_buildK (cs := [.sl _ _, .z0, .z0]) Try.underlying26 Try.zeroValue26 rfl rfl places26 rfl) ?_
       | refine d1 rfl rfl (lop_buildK (cs := [.os _ _ _ _, .z0, .z0]) Try.underlying26 Try.zeroValue26 rfl rfl places26 rfl) ?_
       | refine d1 rfl rfl (lop_buildK (cs := [.z0, .z0, .z0]) Try.underlying26 Try.zeroValue26 rfl rfl places26 rfl) ?_
      refine d1 rfl rfl (lop_call (R := [72, 79]) rfl Try.call13 (fzL_sound _ _ _ rfl) (.inr rfl) (ref15_Same_ac (x := ⟨[(volF x id).1], [], []⟩) (y := ⟨[x.vols[i]], [], []⟩) hfit)) ?_
      refine d1 rfl rfl (lop_assign (v := .bool _) rfl) ?_
      refine dr_nil (by kernel_rfl) ?_
      exact ⟨(), le_mk ⟨rfl, rfl, rfl, rfl, rfl, rfl, rfl, rfl, rfl, by first | rfl | exact congrArg V.bool hsm, trivial⟩ ⟨.inr rfl, .inr rfl, .inr rfl, .inr rfl, trivial⟩ rfl⟩
     ·refine ok_skip ?_
      exact ⟨(), le_mk ⟨rfl, rfl, rfl, rfl, rfl, rfl, rfl, rfl, rfl, by first | rfl | exact congrArg V.bool hsm, trivial⟩ ⟨.inr rfl, .inr rfl, .inr rfl, .inr rfl, trivial⟩ rfl⟩
    ·rintro ⟨⟩
     refine ok_seq ?_
     refine ok_drw Try.mixed ?_
     refine d1 rfl rfl (lop_move (v := .bool _) rfl) ?_
     refine d1 rfl rfl (lop_move (v := .bool _) rfl) ?_
     first
      | refine dsplitP 1 rfl rfl (fun g17_1 p17_1 => ?_) (fun g17_1 p17_1 => ?_)
      | refine dsplitB 1 rfl rfl (fun g17_1 p17_1 => ?_) (fun g17_1 p17_1 => ?_)
     ·obtain ⟨k, hk, hkx, hkt, _⟩ := findG_at (z := NameD.zero) (p := (fun v => decide (v.name = s))) (l := x.names) (by omega)
      have hkt : nameF x s = (x.names[k], (k : Int)) := hkt
      first
       | refine dy1 rfl rfl g17_1 rfl rfl (lop_load_rf_agg (ys := [.str _, .int _ _, .int _ _, .int _ _, .int _ _]) rfl rfl Try.isAgg47 Try.sizeOf47 (Nat.le_of_ble_eq_true rfl) rfl) ?_
       | refine dy1 rfl rfl g17_1 rfl rfl (lop_load_fp_agg (ys := [.str _, .int _ _, .int _ _, .int _ _, .int _ _]) rfl Try.isAgg47 Try.sizeOf47 (Nat.le_of_ble_eq_true rfl) rfl) ?_
      first
       | refine dy1 rfl rfl g17_1 rfl rfl (lop_fieldAddr_rf (fo := 1) rfl Try.underlying26 rfl rfl Try.sizeOf23 (by decide)) ?_
       | refine dy1 rfl rfl g17_1 rfl rfl (lop_fieldAddr_fp (fo := 1) rfl Try.underlying26 rfl rfl Try.sizeOf23 (by decide) rfl) ?_
      first
       | refine dy1 rfl rfl g17_1 rfl rfl (lop_load_rf rfl rfl Try.isAgg23 rfl) ?_
       | refine dy1 rfl rfl g17_1 rfl rfl (lop_load_fp rfl Try.isAgg23 rfl) ?_
      refine dy1 rfl rfl g17_1 rfl rfl (lop_move (v := .int _ _) rfl) ?_
      first
       | refine dy1 rfl rfl g17_1 rfl rfl (lop_indexAddr_os rfl rfl Try.underlying23 Try.sizeOf47 hkx hk) ?_
       | refine dy1 rfl rfl g17_1 rfl rfl (lop_indexAddr_sl rfl rfl Try.underlying23 Try.sizeOf47 hkx hk (flat_at NameD.len hk) (flat_ne NameD.len (by decide) hk)) ?_
      first
       | refine dy1 rfl rfl g17_1 rfl rfl (lop_load_rf_agg rfl rfl Try.isAgg47 Try.sizeOf47 (by rw [List.length_append, NameD.len]; omega) (by rw [List.take_append_of_le_length (by rw [NameD.len]; omega), List.take_of_length_le (by rw [NameD.len]; omega)])) ?_
       | refine dy1 rfl rfl g17_1 rfl rfl (lop_load_fp_agg rfl Try.isAgg47 Try.sizeOf47 (by rw [List.length_append, NameD.len]; omega) (by rw [List.take_append_of_le_length (by rw [NameD.len]; omega), List.take_of_length_le (by rw [NameD.len]; omega)])) ?_
      refine dy1 rfl rfl g17_1 rfl rfl (lop_aneq rfl rfl rfl rfl eqg47 (ne47 (nameF x s).1 x.names[k])) ?_
      first
       | refine d1 rfl rfl (lop_pick_t (v := .bool _) rfl g17_1 rfl) ?_
       | refine d1 rfl rfl (lop_pick_t (v := .bool _) rfl rfl rfl) ?_
       | refine d1 rfl rfl (lop_pick_f (v := .bool _) rfl rfl rfl) ?_
       | refine d1 rfl rfl (lop_pick rfl rfl rfl) ?_
      refine d1 rfl rfl (lop_move (v := .bool _) rfl) ?_
      first
       | refine dsplitP 10 rfl rfl (fun g17_10 p17_10 => ?_) (fun g17_10 p17_10 => ?_)
       | refine dsplitB 10 rfl rfl (fun g17_10 p17_10 => ?_) (fun g17_10 p17_10 => ?_)
      ·exfalso
       simp [hkt] at g17_10
      ·refine dy1 rfl rfl g17_10 rfl rfl (lop_move (v := .bool _) rfl) ?_
       refine dy1 rfl rfl g17_10 rfl rfl (lop_move (v := .bool _) rfl) ?_
       first
        | refine dsplitP 12 rfl rfl (fun g17_12 p17_12 => ?_) (fun g17_12 p17_12 => ?_)
        | refine dsplitB 12 rfl rfl (fun g17_12 p17_12 => ?_) (fun g17_12 p17_12 => ?_)
       ·obtain ⟨m, hm, hmx, hmt, _⟩ := findG_at (z := SessD.zero) (p := (fun v => decide (v.client = id))) (l := x.last) (by omega)
        have hmt : lastF x id = (x.last[m], (m : Int)) := hmt
        first
         | refine dy1 rfl rfl g17_12 rfl rfl (lop_load_rf_agg (ys := [.int _ _, .int _ _, .int _ _, .int _ _, .int _ _, .int _ _, .int _ _, .bool _]) rfl rfl Try.isAgg39 Try.sizeOf39 (Nat.le_of_ble_eq_true rfl) rfl) ?_
         | refine dy1 rfl rfl g17_12 rfl rfl (lop_load_fp_agg (ys := [.int _ _, .int _ _, .int _ _, .int _ _, .int _ _, .int _ _, .int _ _, .bool _]) rfl Try.isAgg39 Try.sizeOf39 (Nat.le_of_ble_eq_true rfl) rfl) ?_
        first
         | refine dy1 rfl rfl g17_12 rfl rfl (lop_fieldAddr_rf (fo := 2) rfl Try.underlying26 rfl rfl Try.sizeOf24 (by decide)) ?_
         | refine dy1 rfl rfl g17_12 rfl rfl (lop_fieldAddr_fp (fo := 2) rfl Try.underlying26 rfl rfl Try.sizeOf24 (by decide) rfl) ?_
        first
         | refine dy1 rfl rfl g17_12 rfl rfl (lop_load_rf rfl rfl Try.isAgg24 rfl) ?_
         | refine dy1 rfl rfl g17_12 rfl rfl (lop_load_fp rfl Try.isAgg24 rfl) ?_
        refine dy1 rfl rfl g17_12 rfl rfl (lop_move (v := .int _ _) rfl) ?_
        first
         | refine dy1 rfl rfl g17_12 rfl rfl (lop_indexAddr_os rfl rfl Try.underlying24 Try.sizeOf39 hmx hm) ?_
         | refine dy1 rfl rfl g17_12 rfl rfl (lop_indexAddr_sl rfl rfl Try.underlying24 Try.sizeOf39 hmx hm (flat_at SessD.len hm) (flat_ne SessD.len (by decide) hm)) ?_
        first
         | refine dy1 rfl rfl g17_12 rfl rfl (lop_load_rf_agg rfl rfl Try.isAgg39 Try.sizeOf39 (by rw [List.length_append, SessD.len]; omega) (by rw [List.take_append_of_le_length (by rw [SessD.len]; omega), List.take_of_length_le (by rw [SessD.len]; omega)])) ?_
         | refine dy1 rfl rfl g17_12 rfl rfl (lop_load_fp_agg rfl Try.isAgg39 Try.sizeOf39 (by rw [List.length_append, SessD.len]; omega) (by rw [List.take_append_of_le_length (by rw [SessD.len]; omega), List.take_of_length_le (by rw [SessD.len]; omega)])) ?_
        refine dy1 rfl rfl g17_12 rfl rfl (lop_aneq rfl rfl rfl rfl eqg39 (ne39 (lastF x id).1 x.last[m])) ?_
        first
         | refine dy1 rfl rfl g17_10 rfl rfl (lop_pick_t (v := .bool _) rfl g17_1 rfl) ?_
         | refine dy1 rfl rfl g17_10 rfl rfl (lop_pick_f (v := .bool _) rfl g17_10 rfl) ?_
         | refine dy1 rfl rfl g17_10 rfl rfl (lop_pick_t (v := .bool _) rfl g17_12 rfl) ?_
         | refine dy1 rfl rfl g17_10 rfl rfl (lop_pick_t (v := .bool _) rfl rfl rfl) ?_
         | refine dy1 rfl rfl g17_10 rfl rfl (lop_pick_f (v := .bool _) rfl rfl rfl) ?_
         | refine dy1 rfl rfl g17_10 rfl rfl (lop_pick rfl rfl rfl) ?_
        first
         | refine d1 rfl rfl (lop_pick_t (v := .bool _) rfl g17_1 rfl) ?_
         | refine d1 rfl rfl (lop_pick_f (v := .bool _) rfl g17_10 rfl) ?_
         | refine d1 rfl rfl (lop_pick_t (v := .bool _) rfl g17_12 rfl) ?_
         | refine d1 rfl rfl (lop_pick_t (v := .bool _) rfl rfl rfl) ?_
         | refine d1 rfl rfl (lop_pick_f (v := .bool _) rfl rfl rfl) ?_
         | refine d1 rfl rfl (lop_pick rfl rfl rfl) ?_
        refine dr_nil (by kernel_rfl) ?_
        first
         | refine ok_if _ rfl rfl (fun h_t103 => ?_) (fun h_t103 => ?_)
         | refine ok_cond rfl rfl (fun h_t103 => ?_) (fun h_t103 => ?_)
        ·exfalso
         simp_all
        ·refine ok_skip ?_
         refine ok_drw Try.mixed ?_
         refine d1 rfl rfl (lop_move (v := .bool _) rfl) ?_
         refine d1 rfl rfl (lop_move (v := .bool _) rfl) ?_
         refine dy1 rfl rfl rfl rfl rfl (lop_move (v := .bool _) rfl) ?_
         first
          | refine d1 rfl rfl (lop_pick_t (v := .bool _) rfl rfl rfl) ?_
          | refine d1 rfl rfl (lop_pick_t (v := .bool _) rfl rfl rfl) ?_
          | refine d1 rfl rfl (lop_pick_f (v := .bool _) rfl rfl rfl) ?_
          | refine d1 rfl rfl (lop_pick rfl rfl rfl) ?_
         refine d1 rfl rfl (lop_move (v := .bool _) rfl) ?_
         first
          | refine dy1 rfl rfl rfl rfl rfl (lop_load_rf_agg (ys := [_, _, _]) rfl rfl Try.isAgg26 Try.sizeOf26 (Nat.le_of_ble_eq_true rfl) rfl) ?_
          | refine dy1 rfl rfl rfl rfl rfl (lop_load_fp_agg (ys := [_, _, _]) rfl Try.isAgg26 Try.sizeOf26 (Nat.le_of_ble_eq_true rfl) rfl) ?_
         first
          | refine dy1 rfl rfl rfl rfl rfl (lop_load_rf_agg (ys := [_, _, _]) rfl rfl Try.isAgg26 Try.sizeOf26 (Nat.le_of_ble_eq_true rfl) rfl) ?_
          | refine dy1 rfl rfl rfl rfl rfl (lop_load_fp_agg (ys := [_, _, _]) rfl Try.isAgg26 Try.sizeOf26 (Nat.le_of_ble_eq_true rfl) rfl) ?_
         refine dy1 rfl rfl rfl rfl rfl (lop_call rfl Try.call20 (FrzL.tf rfl) (.inl rfl) (index_Same_ac (x := x) (y := y) hx1)) ?_
         first
          | refine dy1 rfl rfl rfl rfl rfl (lop_load_rf_agg (ys := [_, _, _]) rfl rfl Try.isAgg26 Try.sizeOf26 (Nat.le_of_ble_eq_true rfl) rfl) ?_
          | refine dy1 rfl rfl rfl rfl rfl (lop_load_fp_agg (ys := [_, _, _]) rfl Try.isAgg26 Try.sizeOf26 (Nat.le_of_ble_eq_true rfl) rfl) ?_
         first
          | refine dy1 rfl rfl rfl rfl rfl (lop_load_rf_agg (ys := [_, _, _]) rfl rfl Try.isAgg26 Try.sizeOf26 (Nat.le_of_ble_eq_true rfl) rfl) ?_
          | refine dy1 rfl rfl rfl rfl rfl (lop_load_fp_agg (ys := [_, _, _]) rfl Try.isAgg26 Try.sizeOf26 (Nat.le_of_ble_eq_true rfl) rfl) ?_
         refine dy1 rfl rfl rfl rfl rfl (lop_call rfl Try.call13 (FrzL.tf rfl) (.inl rfl) (ref15_Same_ac (x := x) (y := y) hx1)) ?_
         refine dy1 rfl rfl rfl rfl rfl (lop_beql rfl rfl Try.underlying4) ?_
         first
          | refine d1 rfl rfl (lop_pick_t (v := .bool _) rfl rfl rfl) ?_
          | refine d1 rfl rfl (lop_pick_t (v := .bool _) rfl rfl rfl) ?_
          | refine d1 rfl rfl (lop_pick_t (v := .bool _) rfl rfl rfl) ?_
          | refine d1 rfl rfl (lop_pick_f (v := .bool _) rfl rfl rfl) ?_
          | refine d1 rfl rfl (lop_pick rfl rfl rfl) ?_
         refine d1 rfl rfl (lop_move (v := .bool _) rfl) ?_
         first
          | refine dsplitP 13 rfl rfl (fun g19_13 p19_13 => ?_) (fun g19_13 p19_13 => ?_)
          | refine dsplitB 13 rfl rfl (fun g19_13 p19_13 => ?_) (fun g19_13 p19_13 => ?_)
         ·first
           | refine dy1 rfl rfl g19_13 rfl rfl (lop_load_rf_agg (ys := [_, _, _]) rfl rfl Try.isAgg26 Try.sizeOf26 (Nat.le_of_ble_eq_true rfl) rfl) ?_
           | refine dy1 rfl rfl g19_13 rfl rfl (lop_load_fp_agg (ys := [_, _, _]) rfl Try.isAgg26 Try.sizeOf26 (Nat.le_of_ble_eq_true rfl) rfl) ?_
          first
           | refine dy1 rfl rfl g19_13 rfl rfl (lop_load_rf_agg (ys := [_, _, _]) rfl rfl Try.isAgg26 Try.sizeOf26 (Nat.le_of_ble_eq_true rfl) rfl) ?_
           | refine dy1 rfl rfl g19_13 rfl rfl (lop_load_fp_agg (ys := [_, _, _]) rfl Try.isAgg26 Try.sizeOf26 (Nat.le_of_ble_eq_true rfl) rfl) ?_
          refine dy1 rfl rfl g19_13 rfl rfl (lop_call rfl Try.call20 (FrzL.tf rfl) (.inl rfl) (index_Same_ac (x := x) (y := x) hx1)) ?_
          first
           | refine d1 rfl rfl (lop_pick_t (v := .bool _) rfl rfl rfl) ?_
           | refine d1 rfl rfl (lop_pick_t (v := .bool _) rfl rfl rfl) ?_
           | refine d1 rfl rfl (lop_pick_t (v := .bool _) rfl g19_13 rfl) ?_
           | refine d1 rfl rfl (lop_pick_t (v := .bool _) rfl rfl rfl) ?_
           | refine d1 rfl rfl (lop_pick_f (v := .bool _) rfl rfl rfl) ?_
           | refine d1 rfl rfl (lop_pick rfl rfl rfl) ?_
          refine d1 rfl rfl (lop_assign (v := .bool _) rfl) ?_
          refine dr_nil (by kernel_rfl) ?_
          refine ok_ret ?_
          exact ret_one rfl rfl rfl rfl (congrArg V.bool (same_self x))
         ·exfalso
          simp at g19_13
       ·refine dn1 rfl rfl g17_12 rfl ?_
        refine dn1 rfl rfl g17_12 rfl ?_
        refine dn1 rfl rfl g17_12 rfl ?_
        refine dn1 rfl rfl g17_12 rfl ?_
        refine dn1 rfl rfl g17_12 rfl ?_
        refine dn1 rfl rfl g17_12 rfl ?_
        refine dn1 rfl rfl g17_12 rfl ?_
        first
         | refine dy1 rfl rfl g17_10 rfl rfl (lop_pick_t (v := .bool _) rfl g17_1 rfl) ?_
         | refine dy1 rfl rfl g17_10 rfl rfl (lop_pick_f (v := .bool _) rfl g17_10 rfl) ?_
         | refine dy1 rfl rfl g17_10 rfl rfl (lop_pick_f (v := .bool _) rfl g17_12 rfl) ?_
         | refine dy1 rfl rfl g17_10 rfl rfl (lop_pick_t (v := .bool _) rfl rfl rfl) ?_
         | refine dy1 rfl rfl g17_10 rfl rfl (lop_pick_f (v := .bool _) rfl rfl rfl) ?_
         | refine dy1 rfl rfl g17_10 rfl rfl (lop_pick rfl rfl rfl) ?_
        first
         | refine d1 rfl rfl (lop_pick_t (v := .bool _) rfl g17_1 rfl) ?_
         | refine d1 rfl rfl (lop_pick_f (v := .bool _) rfl g17_10 rfl) ?_
         | refine d1 rfl rfl (lop_pick_f (v := .bool _) rfl g17_12 rfl) ?_
         | refine d1 rfl rfl (lop_pick_t (v := .bool _) rfl rfl rfl) ?_
         | refine d1 rfl rfl (lop_pick_f (v := .bool _) rfl rfl rfl) ?_
         | refine d1 rfl rfl (lop_pick rfl rfl rfl) ?_
        refine dr_nil (by kernel_rfl) ?_
        refine ok_false rfl rfl ?_
        refine ok_skip ?_
        refine ok_drw Try.mixed ?_
        refine d1 rfl rfl (lop_move (v := .bool _) rfl) ?_
        refine d1 rfl rfl (lop_move (v := .bool _) rfl) ?_
        refine dy1 rfl rfl rfl rfl rfl (lop_move (v := .bool _) rfl) ?_
        first
         | refine d1 rfl rfl (lop_pick_t (v := .bool _) rfl rfl rfl) ?_
         | refine d1 rfl rfl (lop_pick_t (v := .bool _) rfl rfl rfl) ?_
         | refine d1 rfl rfl (lop_pick_f (v := .bool _) rfl rfl rfl) ?_
         | refine d1 rfl rfl (lop_pick rfl rfl rfl) ?_
        refine d1 rfl rfl (lop_move (v := .bool _) rfl) ?_
        first
         | refine dy1 rfl rfl rfl rfl rfl (lop_load_rf_agg (ys := [_, _, _]) rfl rfl Try.isAgg26 Try.sizeOf26 (Nat.le_of_ble_eq_true rfl) rfl) ?_
         | refine dy1 rfl rfl rfl rfl rfl (lop_load_fp_agg (ys := [_, _, _]) rfl Try.isAgg26 Try.sizeOf26 (Nat.le_of_ble_eq_true rfl) rfl) ?_
        first
         | refine dy1 rfl rfl rfl rfl rfl (lop_load_rf_agg (ys := [_, _, _]) rfl rfl Try.isAgg26 Try.sizeOf26 (Nat.le_of_ble_eq_true rfl) rfl) ?_
         | refine dy1 rfl rfl rfl rfl rfl (lop_load_fp_agg (ys := [_, _, _]) rfl Try.isAgg26 Try.sizeOf26 (Nat.le_of_ble_eq_true rfl) rfl) ?_
        refine dy1 rfl rfl rfl rfl rfl (lop_call rfl Try.call20 (FrzL.tf rfl) (.inl rfl) (index_Same_ac (x := x) (y := y) hx1)) ?_
        first
         | refine dy1 rfl rfl rfl rfl rfl (lop_load_rf_agg (ys := [_, _, _]) rfl rfl Try.isAgg26 Try.sizeOf26 (Nat.le_of_ble_eq_true rfl) rfl) ?_
         | refine dy1 rfl rfl rfl rfl rfl (lop_load_fp_agg (ys := [_, _, _]) rfl Try.isAgg26 Try.sizeOf26 (Nat.le_of_ble_eq_true rfl) rfl) ?_
        first
         | refine dy1 rfl rfl rfl rfl rfl (lop_load_rf_agg (ys := [_, _, _]) rfl rfl Try.isAgg26 Try.sizeOf26 (Nat.le_of_ble_eq_true rfl) rfl) ?_
         | refine dy1 rfl rfl rfl rfl rfl (lop_load_fp_agg (ys := [_, _, _]) rfl Try.isAgg26 Try.sizeOf26 (Nat.le_of_ble_eq_true rfl) rfl) ?_
        refine dy1 rfl rfl rfl rfl rfl (lop_call rfl Try.call13 (FrzL.tf rfl) (.inl rfl) (ref15_Same_ac (x := x) (y := y) hx1)) ?_
        refine dy1 rfl rfl rfl rfl rfl (lop_beql rfl rfl Try.underlying4) ?_
        first
         | refine d1 rfl rfl (lop_pick_t (v := .bool _) rfl rfl rfl) ?_
         | refine d1 rfl rfl (lop_pick_t (v := .bool _) rfl rfl rfl) ?_
         | refine d1 rfl rfl (lop_pick_t (v := .bool _) rfl rfl rfl) ?_
         | refine d1 rfl rfl (lop_pick_f (v := .bool _) rfl rfl rfl) ?_
         | refine d1 rfl rfl (lop_pick rfl rfl rfl) ?_
        refine d1 rfl rfl (lop_move (v := .bool _) rfl) ?_
        first
         | refine dsplitP 13 rfl rfl (fun g19_13 p19_13 => ?_) (fun g19_13 p19_13 => ?_)
         | refine dsplitB 13 rfl rfl (fun g19_13 p19_13 => ?_) (fun g19_13 p19_13 => ?_)
        ·first
          | refine dy1 rfl rfl g19_13 rfl rfl (lop_load_rf_agg (ys := [_, _, _]) rfl rfl Try.isAgg26 Try.sizeOf26 (Nat.le_of_ble_eq_true rfl) rfl) ?_
          | refine dy1 rfl rfl g19_13 rfl rfl (lop_load_fp_agg (ys := [_, _, _]) rfl Try.isAgg26 Try.sizeOf26 (Nat.le_of_ble_eq_true rfl) rfl) ?_
         first
          | refine dy1 rfl rfl g19_13 rfl rfl (lop_load_rf_agg (ys := [_, _, _]) rfl rfl Try.isAgg26 Try.sizeOf26 (Nat.le_of_ble_eq_true rfl) rfl) ?_
          | refine dy1 rfl rfl g19_13 rfl rfl (lop_load_fp_agg (ys := [_, _, _]) rfl Try.isAgg26 Try.sizeOf26 (Nat.le_of_ble_eq_true rfl) rfl) ?_
         refine dy1 rfl rfl g19_13 rfl rfl (lop_call rfl Try.call20 (FrzL.tf rfl) (.inl rfl) (index_Same_ac (x := x) (y := x) hx1)) ?_
         first
          | refine d1 rfl rfl (lop_pick_t (v := .bool _) rfl rfl rfl) ?_
          | refine d1 rfl rfl (lop_pick_t (v := .bool _) rfl rfl rfl) ?_
          | refine d1 rfl rfl (lop_pick_t (v := .bool _) rfl g19_13 rfl) ?_
          | refine d1 rfl rfl (lop_pick_t (v := .bool _) rfl rfl rfl) ?_
          | refine d1 rfl rfl (lop_pick_f (v := .bool _) rfl rfl rfl) ?_
          | refine d1 rfl rfl (lop_pick rfl rfl rfl) ?_
         refine d1 rfl rfl (lop_assign (v := .bool _) rfl) ?_
         refine dr_nil (by kernel_rfl) ?_
         refine ok_ret ?_
         exact ret_one rfl rfl rfl rfl (congrArg V.bool (same_self x))
        ·exfalso
         simp at g19_13
     ·refine dn1 rfl rfl g17_1 rfl ?_
      refine dn1 rfl rfl g17_1 rfl ?_
      refine dn1 rfl rfl g17_1 rfl ?_
      refine dn1 rfl rfl g17_1 rfl ?_
      refine dn1 rfl rfl g17_1 rfl ?_
      refine dn1 rfl rfl g17_1 rfl ?_
      refine dn1 rfl rfl g17_1 rfl ?_
      first
       | refine d1 rfl rfl (lop_pick_f (v := .bool _) rfl g17_1 rfl) ?_
       | refine d1 rfl rfl (lop_pick_t (v := .bool _) rfl rfl rfl) ?_
       | refine d1 rfl rfl (lop_pick_f (v := .bool _) rfl rfl rfl) ?_
       | refine d1 rfl rfl (lop_pick rfl rfl rfl) ?_
      refine d1 rfl rfl (lop_move (v := .bool _) rfl) ?_
      refine dy1 rfl rfl rfl rfl rfl (lop_move (v := .bool _) rfl) ?_
      refine dy1 rfl rfl rfl rfl rfl (lop_move (v := .bool _) rfl) ?_
      first
       | refine dsplitP 12 rfl rfl (fun g17_12 p17_12 => ?_) (fun g17_12 p17_12 => ?_)
       | refine dsplitB 12 rfl rfl (fun g17_12 p17_12 => ?_) (fun g17_12 p17_12 => ?_)
      ·obtain ⟨m, hm, hmx, hmt, _⟩ := findG_at (z := SessD.zero) (p := (fun v => decide (v.client = id))) (l := x.last) (by omega)
       have hmt : lastF x id = (x.last[m], (m : Int)) := hmt
       first
        | refine dy1 rfl rfl g17_12 rfl rfl (lop_load_rf_agg (ys := [.int _ _, .int _ _, .int _ _, .int _ _, .int _ _, .int _ _, .int _ _, .bool _]) rfl rfl Try.isAgg39 Try.sizeOf39 (Nat.le_of_ble_eq_true rfl) rfl) ?_
        | refine dy1 rfl rfl g17_12 rfl rfl (lop_load_fp_agg (ys := [.int _ _, .int _ _, .int _ _, .int _ _, .int _ _, .int _ _, .int _ _, .bool _]) rfl Try.isAgg39 Try.sizeOf39 (Nat.le_of_ble_eq_true rfl) rfl) ?_
       first
        | refine dy1 rfl rfl g17_12 rfl rfl (lop_fieldAddr_rf (fo := 2) rfl Try.underlying26 rfl rfl Try.sizeOf24 (by decide)) ?_
        | refine dy1 rfl rfl g17_12 rfl rfl (lop_fieldAddr_fp (fo := 2) rfl Try.underlying26 rfl rfl Try.sizeOf24 (by decide) rfl) ?_
       first
        | refine dy1 rfl rfl g17_12 rfl rfl (lop_load_rf rfl rfl Try.isAgg24 rfl) ?_
        | refine dy1 rfl rfl g17_12 rfl rfl (lop_load_fp rfl Try.isAgg24 rfl) ?_
       refine dy1 rfl rfl g17_12 rfl rfl (lop_move (v := .int _ _) rfl) ?_
       first
        | refine dy1 rfl rfl g17_12 rfl rfl (lop_indexAddr_os rfl rfl Try.underlying24 Try.sizeOf39 hmx hm) ?_
        | refine dy1 rfl rfl g17_12 rfl rfl (lop_indexAddr_sl rfl rfl Try.underlying24 Try.sizeOf39 hmx hm (flat_at SessD.len hm) (flat_ne SessD.len (by decide) hm)) ?_
       first
        | refine dy1 rfl rfl g17_12 rfl rfl (lop_load_rf_agg rfl rfl Try.isAgg39 Try.sizeOf39 (by rw [List.length_append, SessD.len]; omega) (by rw [List.take_append_of_le_length (by rw [SessD.len]; omega), List.take_of_length_le (by rw [SessD.len]; omega)])) ?_
        | refine dy1 rfl rfl g17_12 rfl rfl (lop_load_fp_agg rfl Try.isAgg39 Try.sizeOf39 (by rw [List.length_append, SessD.len]; omega) (by rw [List.take_append_of_le_length (by rw [SessD.len]; omega), List.take_of_length_le (by rw [SessD.len]; omega)])) ?_
       refine dy1 rfl rfl g17_12 rfl rfl (lop_aneq rfl rfl rfl rfl eqg39 (ne39 (lastF x id).1 x.last[m])) ?_
       first
        | refine dy1 rfl rfl rfl rfl rfl (lop_pick_f (v := .bool _) rfl g17_1 rfl) ?_
        | refine dy1 rfl rfl rfl rfl rfl (lop_pick_f (v := .bool _) rfl rfl rfl) ?_
        | refine dy1 rfl rfl rfl rfl rfl (lop_pick_t (v := .bool _) rfl g17_12 rfl) ?_
        | refine dy1 rfl rfl rfl rfl rfl (lop_pick_t (v := .bool _) rfl rfl rfl) ?_
        | refine dy1 rfl rfl rfl rfl rfl (lop_pick_f (v := .bool _) rfl rfl rfl) ?_
        | refine dy1 rfl rfl rfl rfl rfl (lop_pick rfl rfl rfl) ?_
       first
        | refine d1 rfl rfl (lop_pick_f (v := .bool _) rfl g17_1 rfl) ?_
        | refine d1 rfl rfl (lop_pick_f (v := .bool _) rfl rfl rfl) ?_
        | refine d1 rfl rfl (lop_pick_t (v := .bool _) rfl g17_12 rfl) ?_
        | refine d1 rfl rfl (lop_pick_t (v := .bool _) rfl rfl rfl) ?_
        | refine d1 rfl rfl (lop_pick_f (v := .bool _) rfl rfl rfl) ?_
        | refine d1 rfl rfl (lop_pick rfl rfl rfl) ?_
       refine dr_nil (by kernel_rfl) ?_
       first
        | refine ok_if _ rfl rfl (fun h_t103 => ?_) (fun h_t103 => ?_)
        | refine ok_cond rfl rfl (fun h_t103 => ?_) (fun h_t103 => ?_)
       ·exfalso
        simp_all
       ·refine ok_skip ?_
        refine ok_drw Try.mixed ?_
        refine d1 rfl rfl (lop_move (v := .bool _) rfl) ?_
        refine d1 rfl rfl (lop_move (v := .bool _) rfl) ?_
        refine dy1 rfl rfl rfl rfl rfl (lop_move (v := .bool _) rfl) ?_
        first
         | refine d1 rfl rfl (lop_pick_t (v := .bool _) rfl rfl rfl) ?_
         | refine d1 rfl rfl (lop_pick_t (v := .bool _) rfl rfl rfl) ?_
         | refine d1 rfl rfl (lop_pick_f (v := .bool _) rfl rfl rfl) ?_
         | refine d1 rfl rfl (lop_pick rfl rfl rfl) ?_
        refine d1 rfl rfl (lop_move (v := .bool _) rfl) ?_
        first
         | refine dy1 rfl rfl rfl rfl rfl (lop_load_rf_agg (ys := [_, _, _]) rfl rfl Try.isAgg26 Try.sizeOf26 (Nat.le_of_ble_eq_true rfl) rfl) ?_
         | refine dy1 rfl rfl rfl rfl rfl (lop_load_fp_agg (ys := [_, _, _]) rfl Try.isAgg26 Try.sizeOf26 (Nat.le_of_ble_eq_true rfl) rfl) ?_
        first
         | refine dy1 rfl rfl rfl rfl rfl (lop_load_rf_agg (ys := [_, _, _]) rfl rfl Try.isAgg26 Try.sizeOf26 (Nat.le_of_ble_eq_true rfl) rfl) ?_
         | refine dy1 rfl rfl rfl rfl rfl (lop_load_fp_agg (ys := [_, _, _]) rfl Try.isAgg26 Try.sizeOf26 (Nat.le_of_ble_eq_true rfl) rfl) ?_
        refine dy1 rfl rfl rfl rfl rfl (lop_call rfl Try.call20 (FrzL.tf rfl) (.inl rfl) (index_Same_ac (x := x) (y := y) hx1)) ?_
        first
         | refine dy1 rfl rfl rfl rfl rfl (lop_load_rf_agg (ys := [_, _, _]) rfl rfl Try.isAgg26 Try.sizeOf26 (Nat.le_of_ble_eq_true rfl) rfl) ?_
         | refine dy1 rfl rfl rfl rfl rfl (lop_load_fp_agg (ys := [_, _, _]) rfl Try.isAgg26 Try.sizeOf26 (Nat.le_of_ble_eq_true rfl) rfl) ?_
        first
         | refine dy1 rfl rfl rfl rfl rfl (lop_load_rf_agg (ys := [_, _, _]) rfl rfl Try.isAgg26 Try.sizeOf26 (Nat.le_of_ble_eq_true rfl) rfl) ?_
         | refine dy1 rfl rfl rfl rfl rfl (lop_load_fp_agg (ys := [_, _, _]) rfl Try.isAgg26 Try.sizeOf26 (Nat.le_of_ble_eq_true rfl) rfl) ?_
        refine dy1 rfl rfl rfl rfl rfl (lop_call rfl Try.call13 (FrzL.tf rfl) (.inl rfl) (ref15_Same_ac (x := x) (y := y) hx1)) ?_
        refine dy1 rfl rfl rfl rfl rfl (lop_beql rfl rfl Try.underlying4) ?_
        first
         | refine d1 rfl rfl (lop_pick_t (v := .bool _) rfl rfl rfl) ?_
         | refine d1 rfl rfl (lop_pick_t (v := .bool _) rfl rfl rfl) ?_
         | refine d1 rfl rfl (lop_pick_t (v := .bool _) rfl rfl rfl) ?_
         | refine d1 rfl rfl (lop_pick_f (v := .bool _) rfl rfl rfl) ?_
         | refine d1 rfl rfl (lop_pick rfl rfl rfl) ?_
        refine d1 rfl rfl (lop_move (v := .bool _) rfl) ?_
        first
         | refine dsplitP 13 rfl rfl (fun g19_13 p19_13 => ?_) (fun g19_13 p19_13 => ?_)
         | refine dsplitB 13 rfl rfl (fun g19_13 p19_13 => ?_) (fun g19_13 p19_13 => ?_)
        ·first
          | refine dy1 rfl rfl g19_13 rfl rfl (lop_load_rf_agg (ys := [_, _, _]) rfl rfl Try.isAgg26 Try.sizeOf26 (Nat.le_of_ble_eq_true rfl) rfl) ?_
          | refine dy1 rfl rfl g19_13 rfl rfl (lop_load_fp_agg (ys := [_, _, _]) rfl Try.isAgg26 Try.sizeOf26 (Nat.le_of_ble_eq_true rfl) rfl) ?_
         first
          | refine dy1 rfl rfl g19_13 rfl rfl (lop_load_rf_agg (ys := [_, _, _]) rfl rfl Try.isAgg26 Try.sizeOf26 (Nat.le_of_ble_eq_true rfl) rfl) ?_
          | refine dy1 rfl rfl g19_13 rfl rfl (lop_load_fp_agg (ys := [_, _, _]) rfl Try.isAgg26 Try.sizeOf26 (Nat.le_of_ble_eq_true rfl) rfl) ?_
         refine dy1 rfl rfl g19_13 rfl rfl (lop_call rfl Try.call20 (FrzL.tf rfl) (.inl rfl) (index_Same_ac (x := x) (y := x) hx1)) ?_
         first
          | refine d1 rfl rfl (lop_pick_t (v := .bool _) rfl rfl rfl) ?_
          | refine d1 rfl rfl (lop_pick_t (v := .bool _) rfl rfl rfl) ?_
          | refine d1 rfl rfl (lop_pick_t (v := .bool _) rfl g19_13 rfl) ?_
          | refine d1 rfl rfl (lop_pick_t (v := .bool _) rfl rfl rfl) ?_
          | refine d1 rfl rfl (lop_pick_f (v := .bool _) rfl rfl rfl) ?_
          | refine d1 rfl rfl (lop_pick rfl rfl rfl) ?_
         refine d1 rfl rfl (lop_assign (v := .bool _) rfl) ?_
         refine dr_nil (by kernel_rfl) ?_
         refine ok_ret ?_
         exact ret_one rfl rfl rfl rfl (congrArg V.bool (same_self x))
        ·exfalso
         simp at g19_13
      ·refine dn1 rfl rfl g17_12 rfl ?_
       refine dn1 rfl rfl g17_12 rfl ?_
       refine dn1 rfl rfl g17_12 rfl ?_
       refine dn1 rfl rfl g17_12 rfl ?_
       refine dn1 rfl rfl g17_12 rfl ?_
       refine dn1 rfl rfl g17_12 rfl ?_
       refine dn1 rfl rfl g17_12 rfl ?_
       first
        | refine dy1 rfl rfl rfl rfl rfl (lop_pick_f (v := .bool _) rfl g17_1 rfl) ?_
        | refine dy1 rfl rfl rfl rfl rfl (lop_pick_f (v := .bool _) rfl rfl rfl) ?_
        | refine dy1 rfl rfl rfl rfl rfl (lop_pick_f (v := .bool _) rfl g17_12 rfl) ?_
        | refine dy1 rfl rfl rfl rfl rfl (lop_pick_t (v := .bool _) rfl rfl rfl) ?_
        | refine dy1 rfl rfl rfl rfl rfl (lop_pick_f (v := .bool _) rfl rfl rfl) ?_
        | refine dy1 rfl rfl rfl rfl rfl (lop_pick rfl rfl rfl) ?_
       first
        | refine d1 rfl rfl (lop_pick_f (v := .bool _) rfl g17_1 rfl) ?_
        | refine d1 rfl rfl (lop_pick_f (v := .bool _) rfl rfl rfl) ?_
        | refine d1 rfl rfl (lop_pick_f (v := .bool _) rfl g17_12 rfl) ?_
        | refine d1 rfl rfl (lop_pick_t (v := .bool _) rfl rfl rfl) ?_
        | refine d1 rfl rfl (lop_pick_f (v := .bool _) rfl rfl rfl) ?_
        | refine d1 rfl rfl (lop_pick rfl rfl rfl) ?_
       refine dr_nil (by kernel_rfl) ?_
       refine ok_false rfl rfl ?_
       refine ok_skip ?_
       refine ok_drw Try.mixed ?_
       refine d1 rfl rfl (lop_move (v := .bool _) rfl) ?_
       refine d1 rfl rfl (lop_move (v := .bool _) rfl) ?_
       refine dy1 rfl rfl rfl rfl rfl (lop_move (v := .bool _) rfl) ?_
       first
        | refine d1 rfl rfl (lop_pick_t (v := .bool _) rfl rfl rfl) ?_
        | refine d1 rfl rfl (lop_pick_t (v := .bool _) rfl rfl rfl) ?_
        | refine d1 rfl rfl (lop_pick_f (v := .bool _) rfl rfl rfl) ?_
        | refine d1 rfl rfl (lop_pick rfl rfl rfl) ?_
       refine d1 rfl rfl (lop_move (v := .bool _) rfl) ?_
       first
        | refine dy1 rfl rfl rfl rfl rfl (lop_load_rf_agg (ys := [_, _, _]) rfl rfl Try.isAgg26 Try.sizeOf26 (Nat.le_of_ble_eq_true rfl) rfl) ?_
        | refine dy1 rfl rfl rfl rfl rfl (lop_load_fp_agg (ys := [_, _, _]) rfl Try.isAgg26 Try.sizeOf26 (Nat.le_of_ble_eq_true rfl) rfl) ?_
       first
        | refine dy1 rfl rfl rfl rfl rfl (lop_load_rf_agg (ys := [_, _, _]) rfl rfl Try.isAgg26 Try.sizeOf26 (Nat.le_of_ble_eq_true rfl) rfl) ?_
        | refine dy1 rfl rfl rfl rfl rfl (lop_load_fp_agg (ys := [_, _, _]) rfl Try.isAgg26 Try.sizeOf26 (Nat.le_of_ble_eq_true rfl) rfl) ?_
       refine dy1 rfl rfl rfl rfl rfl (lop_call rfl Try.call20 (FrzL.tf rfl) (.inl rfl) (index_Same_ac (x := x) (y := y) hx1)) ?_
       first
        | refine dy1 rfl rfl rfl rfl rfl (lop_load_rf_agg (ys := [_, _, _]) rfl rfl Try.isAgg26 Try.sizeOf26 (Nat.le_of_ble_eq_true rfl) rfl) ?_
        | refine dy1 rfl rfl rfl rfl rfl (lop_load_fp_agg (ys := [_, _, _]) rfl Try.isAgg26 Try.sizeOf26 (Nat.le_of_ble_eq_true rfl) rfl) ?_
       first
        | refine dy1 rfl rfl rfl rfl rfl (lop_load_rf_agg (ys := [_, _, _]) rfl rfl Try.isAgg26 Try.sizeOf26 (Nat.le_of_ble_eq_true rfl) rfl) ?_
        | refine dy1 rfl rfl rfl rfl rfl (lop_load_fp_agg (ys := [_, _, _]) rfl Try.isAgg26 Try.sizeOf26 (Nat.le_of_ble_eq_true rfl) rfl) ?_
       refine dy1 rfl rfl rfl rfl rfl (lop_call rfl Try.call13 (FrzL.tf rfl) (.inl rfl) (ref15_Same_ac (x := x) (y := y) hx1)) ?_
       refine dy1 rfl rfl rfl rfl rfl (lop_beql rfl rfl Try.underlying4) ?_
       first
        | refine d1 rfl rfl (lop_pick_t (v := .bool _) rfl rfl rfl) ?_
        | refine d1 rfl rfl (lop_pick_t (v := .bool _) rfl rfl rfl) ?_
        | refine d1 rfl rfl (lop_pick_t (v := .bool _) rfl rfl rfl) ?_
        | refine d1 rfl rfl (lop_pick_f (v := .bool _) rfl rfl rfl) ?_
        | refine d1 rfl rfl (lop_pick rfl rfl rfl) ?_
       refine d1 rfl rfl (lop_move (v := .bool _) rfl) ?_
       first
        | refine dsplitP 13 rfl rfl (fun g19_13 p19_13 => ?_) (fun g19_13 p19_13 => ?_)
        | refine dsplitB 13 rfl rfl (fun g19_13 p19_13 => ?_) (fun g19_13 p19_13 => ?_)
       ·first
         | refine dy1 rfl rfl g19_13 rfl rfl (lop_load_rf_agg (ys := [_, _, _]) rfl rfl Try.isAgg26 Try.sizeOf26 (Nat.le_of_ble_eq_true rfl) rfl) ?_
         | refine dy1 rfl rfl g19_13 rfl rfl (lop_load_fp_agg (ys := [_, _, _]) rfl Try.isAgg26 Try.sizeOf26 (Nat.le_of_ble_eq_true rfl) rfl) ?_
        first
         | refine dy1 rfl rfl g19_13 rfl rfl (lop_load_rf_agg (ys := [_, _, _]) rfl rfl Try.isAgg26 Try.sizeOf26 (Nat.le_of_ble_eq_true rfl) rfl) ?_
         | refine dy1 rfl rfl g19_13 rfl rfl (lop_load_fp_agg (ys := [_, _, _]) rfl Try.isAgg26 Try.sizeOf26 (Nat.le_of_ble_eq_true rfl) rfl) ?_
        refine dy1 rfl rfl g19_13 rfl rfl (lop_call rfl Try.call20 (FrzL.tf rfl) (.inl rfl) (index_Same_ac (x := x) (y := x) hx1)) ?_
        first
         | refine d1 rfl rfl (lop_pick_t (v := .bool _) rfl rfl rfl) ?_
         | refine d1 rfl rfl (lop_pick_t (v := .bool _) rfl rfl rfl) ?_
         | refine d1 rfl rfl (lop_pick_t (v := .bool _) rfl g19_13 rfl) ?_
         | refine d1 rfl rfl (lop_pick_t (v := .bool _) rfl rfl rfl) ?_
         | refine d1 rfl rfl (lop_pick_f (v := .bool _) rfl rfl rfl) ?_
         | refine d1 rfl rfl (lop_pick rfl rfl rfl) ?_
        refine d1 rfl rfl (lop_assign (v := .bool _) rfl) ?_
        refine dr_nil (by kernel_rfl) ?_
        refine ok_ret ?_
        exact ret_one rfl rfl rfl rfl (congrArg V.bool (same_self x))
       ·exfalso
        simp at g19_13

end Go.Proofs
