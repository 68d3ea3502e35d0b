/- Chapter 16: walks. Printed by gen.py. -/
import Derived.Test.YtikikdgfebbcmaaT16v
set_option linter.unusedVariables false
set_option linter.unusedSimpArgs false
set_option maxRecDepth 100000
namespace Go.Proofs
open Go.Hg

def shV0 : VolD := ⟨1, 1, 2, 140, 1, [], [], 0, 0⟩
def shV1 : VolD := ⟨1, 0, 0, 0, 4, [], [], 0, 0⟩
def shL : List InvD := [⟨⟨1, 0⟩, true, [⟨1, 100⟩]⟩]
def shA0 : ActD := ⟨4, 1, 0, 0, [], ⟨0, 0⟩⟩
def shA1 : ActD := ⟨5, 0, 0, 0, [⟨1, 0⟩], ⟨1, 100⟩⟩
theorem shown0_ac : AC Try.prog 11 [.agg (IdxD.mk [shV0] 0 [] 0 []).enc, rowOf InvD.enc [], i64 14] (.agg shA0.enc) := by
  have h := plan_Next_ac ⟨[shV0], 0, [], 0, []⟩ ⟨by simp, fun v hv => by simp at hv; subst hv; constructor <;> simp [shV0, R64]⟩ (l := []) ⟨by simp, fun x hx => by simp at hx⟩ 14
  rw [show planNextF ⟨[shV0], 0, [], 0, []⟩ [] 14 = shA0 by kernel_rfl] at h
  exact h
theorem shown1_ac : AC Try.prog 11 [.agg (IdxD.mk [shV1] 0 [] 0 []).enc, rowOf InvD.enc shL, i64 14] (.agg shA1.enc) := by
  have h := plan_Next_ac ⟨[shV1], 0, [], 0, []⟩ ⟨by simp, fun v hv => by simp at hv; subst hv; constructor <;> simp [shV1, R64]⟩ (l := shL) ⟨by simp [shL], fun x hx => by simp [shL] at hx; subst hx; simp⟩ 14
  rw [show planNextF ⟨[shV1], 0, [], 0, []⟩ shL 14 = shA1 by kernel_rfl] at h
  exact h

theorem shown_ac : AC Try.prog 9 [] (.bool true) := by
  refine AC.intro Try.func9 rfl (Nat.le_of_ble_eq_true rfl) ?_
  refine ok_reg ?_
  refine s1 rfl (lop_assign (v := .bool _) rfl) ?_
  refine ops_nil ?_
  refine ok_reg ?_
  refine s1 rfl (lop_buildK (cs := [.int _ _, .int _ _, .int _ _, .int _ _, .int _ _, .z0, .z0, .int _ _, .int _ _]) Try.underlying39 Try.zeroValue39 rfl rfl places39 rfl) ?_
  first
    | refine s1w rfl (lop_buildSlice (t := 6) (cs := [.int _ _, .int _ _, .int _ _, .int _ _, .int _ _, _, _, .int _ _, .int _ _]) (f := true) Try.underlying22 Try.sizeOf39 (by decide) Try.zeroValue39 rfl rfl rfl (by decide) rfl (.inr (by decide)) rfl (fun h => by cases h)) rfl ?_
    | refine s1w rfl (lop_buildSlice (t := 6) (cs := [.int _ _, .int _ _, .int _ _, .int _ _, .int _ _, _, _, .int _ _, .int _ _]) (f := false) Try.underlying22 Try.sizeOf39 (by decide) Try.zeroValue39 rfl rfl rfl (by decide) rfl (.inr (by decide)) rfl (fun _ => rfl)) rfl ?_
  refine ops_le (T := ⟨[(6, rowOf VolD.enc [shV0])], [], 54⟩) (le_frz [6] ⟨.inr (fzd_sound _ [6] 4 _ rfl), trivial⟩ trivial (fun t ht => by simp at ht; subst ht; all_goals exact Option.some_ne_none _) rfl) ?_
  first
    | refine s1 rfl (lop_buildK (cs := [.sl _ _, .z0, .z0]) Try.underlying26 Try.zeroValue26 rfl rfl places26 rfl) ?_
    | refine s1 rfl (lop_buildK (cs := [.os _ _ _ _, .z0, .z0]) Try.underlying26 Try.zeroValue26 rfl rfl places26 rfl) ?_
    | refine s1 rfl (lop_buildK (cs := [.z0, .z0, .z0]) Try.underlying26 Try.zeroValue26 rfl rfl places26 rfl) ?_
  refine s1w rfl (lop_new (t := 1) (cs := [.z0, .z0, .z0]) Try.zeroValue26 rfl rfl rfl rfl) rfl ?_
  first
    | refine s0w rfl (lop_storeK (v := .agg [_, _, _]) (cs' := [_, _, _]) (f' := true) rfl rfl rfl Try.sizeOf26 rfl rfl rfl rfl rfl) ?_
    | refine s0w rfl (lop_storeK (v := .agg [_, _, _]) (cs' := [_, _, _]) (f' := false) rfl rfl rfl Try.sizeOf26 rfl rfl rfl rfl rfl) ?_
  refine ops_nil ?_
  refine ok_reg ?_
  first
    | refine s1 rfl (lop_load_rf_agg (ys := [_, _, _]) rfl rfl Try.isAgg26 Try.sizeOf26 (Nat.le_of_ble_eq_true rfl) rfl) ?_
    | refine s1 rfl (lop_load_fp_agg (ys := [_, _, _]) rfl Try.isAgg26 Try.sizeOf26 (Nat.le_of_ble_eq_true rfl) rfl) ?_
  refine s1 rfl (lop_call rfl Try.call11 (fzdL_sound _ _ 4 _ rfl) (.inl rfl) shown0_ac) ?_
  refine s1w rfl (lop_new (t := 2) (cs := [.int _ _, .int _ _, .int _ _, .int _ _, .z0, .int _ _, .int _ _]) Try.zeroValue34 rfl rfl rfl rfl) rfl ?_
  first
    | refine s0w rfl (lop_storeK (v := .agg [.int _ _, .int _ _, .int _ _, .int _ _, _, .int _ _, .int _ _]) (cs' := [.int _ _, .int _ _, .int _ _, .int _ _, _, .int _ _, .int _ _]) (f' := true) rfl rfl rfl Try.sizeOf34 rfl rfl rfl rfl rfl) ?_
    | refine s0w rfl (lop_storeK (v := .agg [.int _ _, .int _ _, .int _ _, .int _ _, _, .int _ _, .int _ _]) (cs' := [.int _ _, .int _ _, .int _ _, .int _ _, _, .int _ _, .int _ _]) (f' := false) rfl rfl rfl Try.sizeOf34 rfl rfl rfl rfl rfl) ?_
  refine ops_nil ?_
  refine ok_reg ?_
  refine s1 rfl (lop_buildK (cs := [.int _ _, .int _ _]) Try.underlying41 Try.zeroValue41 rfl rfl places41 rfl) ?_
  refine s1w rfl (lop_new (t := 3) (cs := [.int _ _, .int _ _]) Try.zeroValue41 rfl rfl rfl rfl) rfl ?_
  first
    | refine s0w rfl (lop_storeK (v := .agg [.int _ _, .int _ _]) (cs' := [.int _ _, .int _ _]) (f' := true) rfl rfl rfl Try.sizeOf41 rfl rfl rfl rfl rfl) ?_
    | refine s0w rfl (lop_storeK (v := .agg [.int _ _, .int _ _]) (cs' := [.int _ _, .int _ _]) (f' := false) rfl rfl rfl Try.sizeOf41 rfl rfl rfl rfl rfl) ?_
  refine ops_nil ?_
  refine ok_reg ?_
  refine s1 rfl (lop_buildK (cs := [.int _ _, .int _ _, .int _ _, .int _ _, .int _ _, .z0, .z0, .int _ _, .int _ _]) Try.underlying39 Try.zeroValue39 rfl rfl places39 rfl) ?_
  first
    | refine s1w rfl (lop_buildSlice (t := 12) (cs := [.int _ _, .int _ _, .int _ _, .int _ _, .int _ _, _, _, .int _ _, .int _ _]) (f := true) Try.underlying22 Try.sizeOf39 (by decide) Try.zeroValue39 rfl rfl rfl (by decide) rfl (.inr (by decide)) rfl (fun h => by cases h)) rfl ?_
    | refine s1w rfl (lop_buildSlice (t := 12) (cs := [.int _ _, .int _ _, .int _ _, .int _ _, .int _ _, _, _, .int _ _, .int _ _]) (f := false) Try.underlying22 Try.sizeOf39 (by decide) Try.zeroValue39 rfl rfl rfl (by decide) rfl (.inr (by decide)) rfl (fun _ => rfl)) rfl ?_
  refine ops_le (T := ⟨[(1, .rf 1 0), (2, .rf 2 0), (3, .rf 3 0), (12, rowOf VolD.enc [shV1])], [(1, some (true, [rowOf VolD.enc [shV0], .z0, .z0])), (2, some (true, shA0.enc)), (3, some (true, [i64 1, i64 0]))], 54⟩) (le_frz [12] ⟨.inl ⟨rfl, rfl⟩, .inl ⟨rfl, rfl⟩, .inl ⟨rfl, rfl⟩, .inr (fzd_sound _ [12] 4 _ rfl), trivial⟩ ⟨.inr ⟨rfl, rfl, trivial⟩, .inr ⟨rfl, rfl, trivial⟩, .inr ⟨rfl, rfl, trivial⟩, trivial⟩ (fun t ht => by simp at ht; subst ht; all_goals exact Option.some_ne_none _) rfl) ?_
  first
    | refine s1 rfl (lop_fieldAddr_rf (fo := 0) rfl Try.underlying26 rfl rfl Try.sizeOf22 (by decide)) ?_
    | refine s1 rfl (lop_fieldAddr_fp (fo := 0) rfl Try.underlying26 rfl rfl Try.sizeOf22 (by decide) rfl) ?_
  first
    | refine s0w rfl (lop_storeK (v := .sl _ _) (cs' := [_, _, _]) (f' := true) rfl rfl rfl Try.sizeOf22 rfl rfl rfl rfl rfl) ?_
    | refine s0w rfl (lop_storeK (v := .os _ _ _ _) (cs' := [_, _, _]) (f' := true) rfl rfl rfl Try.sizeOf22 rfl rfl rfl rfl rfl) ?_
    | refine s0w rfl (lop_storeK (v := .z0) (cs' := [_, _, _]) (f' := true) rfl rfl rfl Try.sizeOf22 rfl rfl rfl rfl rfl) ?_
    | refine s0w rfl (lop_storeK (v := .sl _ _) (cs' := [_, _, _]) (f' := false) rfl rfl rfl Try.sizeOf22 rfl rfl rfl rfl rfl) ?_
    | refine s0w rfl (lop_storeK (v := .os _ _ _ _) (cs' := [_, _, _]) (f' := false) rfl rfl rfl Try.sizeOf22 rfl rfl rfl rfl rfl) ?_
    | refine s0w rfl (lop_storeK (v := .z0) (cs' := [_, _, _]) (f' := false) rfl rfl rfl Try.sizeOf22 rfl rfl rfl rfl rfl) ?_
  refine ops_nil ?_
  refine ok_reg ?_
  first
    | refine s1 rfl (lop_load_rf_agg (ys := [_, _, _]) rfl rfl Try.isAgg26 Try.sizeOf26 (Nat.le_of_ble_eq_true rfl) rfl) ?_
    | refine s1 rfl (lop_load_fp_agg (ys := [_, _, _]) rfl Try.isAgg26 Try.sizeOf26 (Nat.le_of_ble_eq_true rfl) rfl) ?_
  first
    | refine s1 rfl (lop_load_rf_agg (ys := [.int _ _, .int _ _]) rfl rfl Try.isAgg41 Try.sizeOf41 (Nat.le_of_ble_eq_true rfl) rfl) ?_
    | refine s1 rfl (lop_load_fp_agg (ys := [.int _ _, .int _ _]) rfl Try.isAgg41 Try.sizeOf41 (Nat.le_of_ble_eq_true rfl) rfl) ?_
  refine s1 rfl (lop_buildK (cs := [.int _ _, .int _ _]) Try.underlying32 Try.zeroValue32 rfl rfl places32 rfl) ?_
  first
    | refine s1w rfl (lop_buildSlice (t := 17) (cs := [.int _ _, .int _ _]) (f := true) Try.underlying42 Try.sizeOf32 (by decide) Try.zeroValue32 rfl rfl rfl (by decide) rfl (.inr (by decide)) rfl (fun h => by cases h)) rfl ?_
    | refine s1w rfl (lop_buildSlice (t := 17) (cs := [.int _ _, .int _ _]) (f := false) Try.underlying42 Try.sizeOf32 (by decide) Try.zeroValue32 rfl rfl rfl (by decide) rfl (.inr (by decide)) rfl (fun _ => rfl)) rfl ?_
  first
    | refine s1 rfl (lop_buildK (cs := [.int _ _, .int _ _, .bool _, .sl _ _]) Try.underlying44 Try.zeroValue44 rfl rfl places44 rfl) ?_
    | refine s1 rfl (lop_buildK (cs := [.int _ _, .int _ _, .bool _, .os _ _ _ _]) Try.underlying44 Try.zeroValue44 rfl rfl places44 rfl) ?_
    | refine s1 rfl (lop_buildK (cs := [.int _ _, .int _ _, .bool _, .z0]) Try.underlying44 Try.zeroValue44 rfl rfl places44 rfl) ?_
  first
    | refine s1w rfl (lop_buildSlice (t := 19) (cs := [.int _ _, .int _ _, .bool _, _]) (f := true) Try.underlying27 Try.sizeOf44 (by decide) Try.zeroValue44 rfl rfl rfl (by decide) rfl (.inr (by decide)) rfl (fun h => by cases h)) rfl ?_
    | refine s1w rfl (lop_buildSlice (t := 19) (cs := [.int _ _, .int _ _, .bool _, _]) (f := false) Try.underlying27 Try.sizeOf44 (by decide) Try.zeroValue44 rfl rfl rfl (by decide) rfl (.inr (by decide)) rfl (fun _ => rfl)) rfl ?_
  refine ops_le (T := ⟨[(2, .rf 2 0), (3, .rf 3 0), (14, .agg [rowOf VolD.enc [shV1], .z0, .z0]), (19, rowOf InvD.enc shL)], [(2, some (true, shA0.enc)), (3, some (true, [i64 1, i64 0]))], 54⟩) (le_frz [17, 19] ⟨.inl ⟨rfl, rfl⟩, .inl ⟨rfl, rfl⟩, .inl ⟨rfl, rfl⟩, .inr (fzd_sound _ [17, 19] 4 _ rfl), trivial⟩ ⟨.inr ⟨rfl, rfl, trivial⟩, .inr ⟨rfl, rfl, trivial⟩, trivial⟩ (fun t ht => by simp at ht; rcases ht with rfl | rfl; all_goals exact Option.some_ne_none _) rfl) ?_
  refine s1 rfl (lop_call rfl Try.call11 (fzdL_sound _ _ 4 _ rfl) (.inl rfl) shown1_ac) ?_
  refine s1w rfl (lop_new (t := 4) (cs := [.int _ _, .int _ _, .int _ _, .int _ _, .z0, .int _ _, .int _ _]) Try.zeroValue34 rfl rfl rfl rfl) rfl ?_
  first
    | refine s0w rfl (lop_storeK (v := .agg [.int _ _, .int _ _, .int _ _, .int _ _, _, .int _ _, .int _ _]) (cs' := [.int _ _, .int _ _, .int _ _, .int _ _, _, .int _ _, .int _ _]) (f' := true) rfl rfl rfl Try.sizeOf34 rfl rfl rfl rfl rfl) ?_
    | refine s0w rfl (lop_storeK (v := .agg [.int _ _, .int _ _, .int _ _, .int _ _, _, .int _ _, .int _ _]) (cs' := [.int _ _, .int _ _, .int _ _, .int _ _, _, .int _ _, .int _ _]) (f' := false) rfl rfl rfl Try.sizeOf34 rfl rfl rfl rfl rfl) ?_
  refine ops_nil ?_
  refine ok_drw Try.mixed ?_
  first
    | refine d1 rfl rfl (lop_fieldAddr_rf (fo := 0) rfl Try.underlying34 rfl rfl Try.sizeOf3 (by decide)) ?_
    | refine d1 rfl rfl (lop_fieldAddr_fp (fo := 0) rfl Try.underlying34 rfl rfl Try.sizeOf3 (by decide) rfl) ?_
  first
    | refine d1 rfl rfl (lop_load_rf rfl rfl Try.isAgg3 rfl) ?_
    | refine d1 rfl rfl (lop_load_fp rfl Try.isAgg3 rfl) ?_
  refine d1 rfl rfl (lop_eql rfl rfl) ?_
  refine d1 rfl rfl (lop_move (v := .bool _) rfl) ?_
  first
    | refine dy1 rfl rfl rfl rfl rfl (lop_fieldAddr_rf (fo := 1) rfl Try.underlying34 rfl rfl Try.sizeOf3 (by decide)) ?_
    | refine dy1 rfl rfl rfl rfl rfl (lop_fieldAddr_fp (fo := 1) rfl Try.underlying34 rfl rfl Try.sizeOf3 (by decide) rfl) ?_
  first
    | refine dy1 rfl rfl rfl rfl rfl (lop_load_rf rfl rfl Try.isAgg3 rfl) ?_
    | refine dy1 rfl rfl rfl rfl rfl (lop_load_fp rfl Try.isAgg3 rfl) ?_
  refine dy1 rfl rfl rfl rfl rfl (lop_eql rfl rfl) ?_
  first
    | refine d1 rfl rfl (lop_pick_t (v := .bool _) rfl rfl rfl) ?_
    | refine d1 rfl rfl (lop_pick_t (v := .bool _) rfl rfl rfl) ?_
    | refine d1 rfl rfl (lop_pick_f (v := .bool _) rfl rfl rfl) ?_
    | refine d1 rfl rfl (lop_pick rfl rfl rfl) ?_
  refine d1 rfl rfl (lop_move (v := .bool _) rfl) ?_
  first
    | refine dy1 rfl rfl rfl rfl rfl (lop_fieldAddr_rf (fo := 0) rfl Try.underlying34 rfl rfl Try.sizeOf3 (by decide)) ?_
    | refine dy1 rfl rfl rfl rfl rfl (lop_fieldAddr_fp (fo := 0) rfl Try.underlying34 rfl rfl Try.sizeOf3 (by decide) rfl) ?_
  first
    | refine dy1 rfl rfl rfl rfl rfl (lop_load_rf rfl rfl Try.isAgg3 rfl) ?_
    | refine dy1 rfl rfl rfl rfl rfl (lop_load_fp rfl Try.isAgg3 rfl) ?_
  refine dy1 rfl rfl rfl rfl rfl (lop_eql rfl rfl) ?_
  first
    | refine d1 rfl rfl (lop_pick_t (v := .bool _) rfl rfl rfl) ?_
    | refine d1 rfl rfl (lop_pick_t (v := .bool _) rfl rfl rfl) ?_
    | refine d1 rfl rfl (lop_pick_t (v := .bool _) rfl rfl rfl) ?_
    | refine d1 rfl rfl (lop_pick_f (v := .bool _) rfl rfl rfl) ?_
    | refine d1 rfl rfl (lop_pick rfl rfl rfl) ?_
  refine d1 rfl rfl (lop_move (v := .bool _) rfl) ?_
  first
    | refine dy1 rfl rfl rfl rfl rfl (lop_fieldAddr_rf (fo := 5) rfl Try.underlying34 rfl rfl Try.sizeOf32 (by decide)) ?_
    | refine dy1 rfl rfl rfl rfl rfl (lop_fieldAddr_fp (fo := 5) rfl Try.underlying34 rfl rfl Try.sizeOf32 (by decide) rfl) ?_
  first
    | refine dy1 rfl rfl rfl rfl rfl (lop_load_rf_agg (ys := [.int _ _, .int _ _]) rfl rfl Try.isAgg32 Try.sizeOf32 (Nat.le_of_ble_eq_true rfl) rfl) ?_
    | refine dy1 rfl rfl rfl rfl rfl (lop_load_fp_agg (ys := [.int _ _, .int _ _]) rfl Try.isAgg32 Try.sizeOf32 (Nat.le_of_ble_eq_true rfl) rfl) ?_
  refine dy1 rfl rfl rfl rfl rfl (lop_buildK (cs := [.int _ _, .int _ _]) Try.underlying32 Try.zeroValue32 rfl rfl places32 rfl) ?_
  refine dy1 rfl rfl rfl rfl rfl (lop_aeql rfl rfl rfl rfl eqg32 (eq32 _ _ _ _)) ?_
  first
    | refine d1 rfl rfl (lop_pick_t (v := .bool _) rfl rfl rfl) ?_
    | refine d1 rfl rfl (lop_pick_t (v := .bool _) rfl rfl rfl) ?_
    | refine d1 rfl rfl (lop_pick_t (v := .bool _) rfl rfl rfl) ?_
    | refine d1 rfl rfl (lop_pick_t (v := .bool _) rfl rfl rfl) ?_
    | refine d1 rfl rfl (lop_pick_f (v := .bool _) rfl rfl rfl) ?_
    | refine d1 rfl rfl (lop_pick rfl rfl rfl) ?_
  refine d1 rfl rfl (lop_move (v := .bool _) rfl) ?_
  first
    | refine dy1 rfl rfl rfl rfl rfl (lop_fieldAddr_rf (fo := 4) rfl Try.underlying34 rfl rfl Try.sizeOf30 (by decide)) ?_
    | refine dy1 rfl rfl rfl rfl rfl (lop_fieldAddr_fp (fo := 4) rfl Try.underlying34 rfl rfl Try.sizeOf30 (by decide) rfl) ?_
  first
    | refine dy1 rfl rfl rfl rfl rfl (lop_load_rf rfl rfl Try.isAgg30 rfl) ?_
    | refine dy1 rfl rfl rfl rfl rfl (lop_load_fp rfl Try.isAgg30 rfl) ?_
  refine dy1 rfl rfl rfl rfl rfl (lop_len rfl Try.underlying30 ⟨⟨_, rfl⟩, rfl⟩) ?_
  refine dy1 rfl rfl rfl rfl rfl (lop_eql rfl rfl) ?_
  first
    | refine d1 rfl rfl (lop_pick_t (v := .bool _) rfl rfl rfl) ?_
    | refine d1 rfl rfl (lop_pick_t (v := .bool _) rfl rfl rfl) ?_
    | refine d1 rfl rfl (lop_pick_t (v := .bool _) rfl rfl rfl) ?_
    | refine d1 rfl rfl (lop_pick_t (v := .bool _) rfl rfl rfl) ?_
    | refine d1 rfl rfl (lop_pick_t (v := .bool _) rfl rfl rfl) ?_
    | refine d1 rfl rfl (lop_pick_f (v := .bool _) rfl rfl rfl) ?_
    | refine d1 rfl rfl (lop_pick rfl rfl rfl) ?_
  refine d1 rfl rfl (lop_move (v := .bool _) rfl) ?_
  first
    | refine dy1 rfl rfl rfl rfl rfl (lop_fieldAddr_rf (fo := 4) rfl Try.underlying34 rfl rfl Try.sizeOf30 (by decide)) ?_
    | refine dy1 rfl rfl rfl rfl rfl (lop_fieldAddr_fp (fo := 4) rfl Try.underlying34 rfl rfl Try.sizeOf30 (by decide) rfl) ?_
  first
    | refine dy1 rfl rfl rfl rfl rfl (lop_load_rf rfl rfl Try.isAgg30 rfl) ?_
    | refine dy1 rfl rfl rfl rfl rfl (lop_load_fp rfl Try.isAgg30 rfl) ?_
  refine dy1 rfl rfl rfl rfl rfl (lop_indexAddr_sl (i := 0) (n := 1) (ys := [i64 1, i64 0]) rfl rfl Try.underlying30 Try.sizeOf41 rfl (by decide) rfl (by intro h; cases h)) ?_
  first
    | refine dy1 rfl rfl rfl rfl rfl (lop_load_rf_agg (ys := [.int _ _, .int _ _]) rfl rfl Try.isAgg41 Try.sizeOf41 (Nat.le_of_ble_eq_true rfl) rfl) ?_
    | refine dy1 rfl rfl rfl rfl rfl (lop_load_fp_agg (ys := [.int _ _, .int _ _]) rfl Try.isAgg41 Try.sizeOf41 (Nat.le_of_ble_eq_true rfl) rfl) ?_
  first
    | refine dy1 rfl rfl rfl rfl rfl (lop_load_rf_agg (ys := [.int _ _, .int _ _]) rfl rfl Try.isAgg41 Try.sizeOf41 (Nat.le_of_ble_eq_true rfl) rfl) ?_
    | refine dy1 rfl rfl rfl rfl rfl (lop_load_fp_agg (ys := [.int _ _, .int _ _]) rfl Try.isAgg41 Try.sizeOf41 (Nat.le_of_ble_eq_true rfl) rfl) ?_
  refine dy1 rfl rfl rfl rfl rfl (lop_aeql rfl rfl rfl rfl eqg41 (eq41 _ _ _ _)) ?_
  first
    | refine d1 rfl rfl (lop_pick_t (v := .bool _) rfl rfl rfl) ?_
    | refine d1 rfl rfl (lop_pick_t (v := .bool _) rfl rfl rfl) ?_
    | refine d1 rfl rfl (lop_pick_t (v := .bool _) rfl rfl rfl) ?_
    | refine d1 rfl rfl (lop_pick_t (v := .bool _) rfl rfl rfl) ?_
    | refine d1 rfl rfl (lop_pick_t (v := .bool _) rfl rfl rfl) ?_
    | refine d1 rfl rfl (lop_pick_t (v := .bool _) rfl rfl rfl) ?_
    | refine d1 rfl rfl (lop_pick_f (v := .bool _) rfl rfl rfl) ?_
    | refine d1 rfl rfl (lop_pick rfl rfl rfl) ?_
  refine d1 rfl rfl (lop_assign (v := .bool _) rfl) ?_
  refine dr_nil (by kernel_rfl) ?_
  refine ok_ret ?_
  exact ret_one rfl rfl rfl rfl rfl

end Go.Proofs
