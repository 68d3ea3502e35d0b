/- Chapter 16: walks. Printed by gen.py. -/
import Derived.Test.YtikikdgfebbcmaaT16jc
set_option linter.unusedVariables false
set_option linter.unusedSimpArgs false
set_option maxRecDepth 100000
namespace Go.Proofs
open Go.Hg

def tellEnc (x : IdxD) (v : VolD) (ps : List PartD) (inv : List InvD) (p : PlD) (k : KeyD) (nodes : Int) : List V := x.enc ++ v.enc ++ [rowOf PartD.enc ps, rowOf InvD.enc inv] ++ p.enc ++ k.enc ++ [i64 nodes]
theorem lostL_le (v : VolD) (l : List InvD) : (lostL v l).length ≤ v.places.length := by
  unfold lostL lostP
  rw [List.length_map]
  exact Nat.le_trans (List.length_filter_le _ _) (by rw [List.length_range]; exact Nat.le_refl _)

theorem PlanTells_ac (x : IdxD) (hx : VolsOk x.vols) {v : VolD} (hv : v.ok) {ps : List PartD} (hp : ps.length ≤ 1048576) {inv : List InvD} (hl : InvsOk inv) (p : PlD) (k : KeyD) (nodes : Int) : AC Try.prog 8 [.agg (tellEnc x v ps inv p k nodes)] (.bool true) := by
  have hll := liveL_le inv p.r nodes
  have hho := homesF_le v nodes 2
  have hlo := lostL_le v inv
  have hpl := hv.places
  refine AC.intro Try.func8 rfl (Nat.le_of_ble_eq_true rfl) ?_
  refine ok_reg ?_
  first
    | refine s1w rfl (lop_box (t := 1) (v := .agg [_, _, _, .int _ _, .int _ _, .int _ _, .int _ _, .int _ _, _, _, .int _ _, .int _ _, _, _, .int _ _, .int _ _, .int _ _, .int _ _, .int _ _]) (f := true) (cs := [_, _, _, .int _ _, .int _ _, .int _ _, .int _ _, .int _ _, _, _, .int _ _, .int _ _, _, _, .int _ _, .int _ _, .int _ _, .int _ _, .int _ _]) rfl rfl rfl rfl (fun h => by cases h)) rfl ?_
    | refine s1w rfl (lop_box (t := 1) (v := .agg [_, _, _, .int _ _, .int _ _, .int _ _, .int _ _, .int _ _, _, _, .int _ _, .int _ _, _, _, .int _ _, .int _ _, .int _ _, .int _ _, .int _ _]) (f := false) (cs := [_, _, _, .int _ _, .int _ _, .int _ _, .int _ _, .int _ _, _, _, .int _ _, .int _ _, _, _, .int _ _, .int _ _, .int _ _, .int _ _, .int _ _]) rfl rfl rfl rfl (fun _ => rfl)) rfl ?_
  refine s1 rfl (lop_assign (v := .bool _) rfl) ?_
  refine ops_nil ?_
  refine ok_reg ?_
  first
    | refine s1 rfl (lop_fieldAddr_rf (fo := 0) rfl Try.underlying67 rfl rfl Try.sizeOf26 (by decide)) ?_
    | refine s1 rfl (lop_fieldAddr_fp (fo := 0) rfl Try.underlying67 rfl rfl Try.sizeOf26 (by decide) rfl) ?_
  first
    | refine s1 rfl (lop_load_rf_agg (ys := [_, _, _]) rfl rfl Try.isAgg26 Try.sizeOf26 (Nat.le_of_ble_eq_true rfl) rfl) ?_
    | refine s1 rfl (lop_load_fp_agg (ys := [_, _, _]) rfl Try.isAgg26 Try.sizeOf26 (Nat.le_of_ble_eq_true rfl) rfl) ?_
  refine s1w rfl (lop_new (t := 3) (cs := [.z0, .z0, .z0]) Try.zeroValue26 rfl rfl rfl rfl) rfl ?_
  first
    | refine s0w rfl (lop_storeK (v := .agg [_, _, _]) (cs' := [_, _, _]) (f' := true) rfl rfl rfl Try.sizeOf26 rfl rfl rfl rfl rfl) ?_
    | refine s0w rfl (lop_storeK (v := .agg [_, _, _]) (cs' := [_, _, _]) (f' := false) rfl rfl rfl Try.sizeOf26 rfl rfl rfl rfl rfl) ?_
  refine ops_nil ?_
  refine ok_reg ?_
  first
    | refine s1 rfl (lop_fieldAddr_rf (fo := 3) rfl Try.underlying67 rfl rfl Try.sizeOf39 (by decide)) ?_
    | refine s1 rfl (lop_fieldAddr_fp (fo := 3) rfl Try.underlying67 rfl rfl Try.sizeOf39 (by decide) rfl) ?_
  first
    | refine s1 rfl (lop_load_rf_agg (ys := [.int _ _, .int _ _, .int _ _, .int _ _, .int _ _, _, _, .int _ _, .int _ _]) rfl rfl Try.isAgg39 Try.sizeOf39 (Nat.le_of_ble_eq_true rfl) rfl) ?_
    | refine s1 rfl (lop_load_fp_agg (ys := [.int _ _, .int _ _, .int _ _, .int _ _, .int _ _, _, _, .int _ _, .int _ _]) rfl Try.isAgg39 Try.sizeOf39 (Nat.le_of_ble_eq_true rfl) rfl) ?_
  refine s1w rfl (lop_new (t := 4) (cs := [.int _ _, .int _ _, .int _ _, .int _ _, .int _ _, .z0, .z0, .int _ _, .int _ _]) Try.zeroValue39 rfl rfl rfl rfl) rfl ?_
  first
    | refine s0w rfl (lop_storeK (v := .agg [.int _ _, .int _ _, .int _ _, .int _ _, .int _ _, _, _, .int _ _, .int _ _]) (cs' := [.int _ _, .int _ _, .int _ _, .int _ _, .int _ _, _, _, .int _ _, .int _ _]) (f' := true) rfl rfl rfl Try.sizeOf39 rfl rfl rfl rfl rfl) ?_
    | refine s0w rfl (lop_storeK (v := .agg [.int _ _, .int _ _, .int _ _, .int _ _, .int _ _, _, _, .int _ _, .int _ _]) (cs' := [.int _ _, .int _ _, .int _ _, .int _ _, .int _ _, _, _, .int _ _, .int _ _]) (f' := false) rfl rfl rfl Try.sizeOf39 rfl rfl rfl rfl rfl) ?_
  refine ops_nil ?_
  refine ok_reg ?_
  first
    | refine s1 rfl (lop_fieldAddr_rf (fo := 12) rfl Try.underlying67 rfl rfl Try.sizeOf56 (by decide)) ?_
    | refine s1 rfl (lop_fieldAddr_fp (fo := 12) rfl Try.underlying67 rfl rfl Try.sizeOf56 (by decide) rfl) ?_
  first
    | refine s1 rfl (lop_load_rf rfl rfl Try.isAgg56 rfl) ?_
    | refine s1 rfl (lop_load_fp rfl Try.isAgg56 rfl) ?_
  first
    | refine s1 rfl (lop_assign (v := .sl _ _) rfl) ?_
    | refine s1 rfl (lop_assign (v := .os _ _ _ _) rfl) ?_
    | refine s1 rfl (lop_assign (v := .z0) rfl) ?_
  refine ops_nil ?_
  refine ok_reg ?_
  first
    | refine s1 rfl (lop_fieldAddr_rf (fo := 13) rfl Try.underlying67 rfl rfl Try.sizeOf27 (by decide)) ?_
    | refine s1 rfl (lop_fieldAddr_fp (fo := 13) rfl Try.underlying67 rfl rfl Try.sizeOf27 (by decide) rfl) ?_
  first
    | refine s1 rfl (lop_load_rf rfl rfl Try.isAgg27 rfl) ?_
    | refine s1 rfl (lop_load_fp rfl Try.isAgg27 rfl) ?_
  first
    | refine s1 rfl (lop_assign (v := .sl _ _) rfl) ?_
    | refine s1 rfl (lop_assign (v := .os _ _ _ _) rfl) ?_
    | refine s1 rfl (lop_assign (v := .z0) rfl) ?_
  refine ops_nil ?_
  refine ok_reg ?_
  first
    | refine s1 rfl (lop_fieldAddr_rf (fo := 14) rfl Try.underlying67 rfl rfl Try.sizeOf41 (by decide)) ?_
    | refine s1 rfl (lop_fieldAddr_fp (fo := 14) rfl Try.underlying67 rfl rfl Try.sizeOf41 (by decide) rfl) ?_
  first
    | refine s1 rfl (lop_load_rf_agg (ys := [.int _ _, .int _ _]) rfl rfl Try.isAgg41 Try.sizeOf41 (Nat.le_of_ble_eq_true rfl) rfl) ?_
    | refine s1 rfl (lop_load_fp_agg (ys := [.int _ _, .int _ _]) rfl Try.isAgg41 Try.sizeOf41 (Nat.le_of_ble_eq_true rfl) rfl) ?_
  refine s1w rfl (lop_new (t := 7) (cs := [.int _ _, .int _ _]) Try.zeroValue41 rfl rfl rfl rfl) rfl ?_
  first
    | refine s0w rfl (lop_storeK (v := .agg [.int _ _, .int _ _]) (cs' := [.int _ _, .int _ _]) (f' := true) rfl rfl rfl Try.sizeOf41 rfl rfl rfl rfl rfl) ?_
    | refine s0w rfl (lop_storeK (v := .agg [.int _ _, .int _ _]) (cs' := [.int _ _, .int _ _]) (f' := false) rfl rfl rfl Try.sizeOf41 rfl rfl rfl rfl rfl) ?_
  refine ops_nil ?_
  refine ok_reg ?_
  first
    | refine s1 rfl (lop_fieldAddr_rf (fo := 16) rfl Try.underlying67 rfl rfl Try.sizeOf32 (by decide)) ?_
    | refine s1 rfl (lop_fieldAddr_fp (fo := 16) rfl Try.underlying67 rfl rfl Try.sizeOf32 (by decide) rfl) ?_
  first
    | refine s1 rfl (lop_load_rf_agg (ys := [.int _ _, .int _ _]) rfl rfl Try.isAgg32 Try.sizeOf32 (Nat.le_of_ble_eq_true rfl) rfl) ?_
    | refine s1 rfl (lop_load_fp_agg (ys := [.int _ _, .int _ _]) rfl Try.isAgg32 Try.sizeOf32 (Nat.le_of_ble_eq_true rfl) rfl) ?_
  refine s1w rfl (lop_new (t := 8) (cs := [.int _ _, .int _ _]) Try.zeroValue32 rfl rfl rfl rfl) rfl ?_
  first
    | refine s0w rfl (lop_storeK (v := .agg [.int _ _, .int _ _]) (cs' := [.int _ _, .int _ _]) (f' := true) rfl rfl rfl Try.sizeOf32 rfl rfl rfl rfl rfl) ?_
    | refine s0w rfl (lop_storeK (v := .agg [.int _ _, .int _ _]) (cs' := [.int _ _, .int _ _]) (f' := false) rfl rfl rfl Try.sizeOf32 rfl rfl rfl rfl rfl) ?_
  refine ops_nil ?_
  refine ok_reg ?_
  first
    | refine s1 rfl (lop_fieldAddr_rf (fo := 18) rfl Try.underlying67 rfl rfl Try.sizeOf3 (by decide)) ?_
    | refine s1 rfl (lop_fieldAddr_fp (fo := 18) rfl Try.underlying67 rfl rfl Try.sizeOf3 (by decide) rfl) ?_
  first
    | refine s1 rfl (lop_load_rf rfl rfl Try.isAgg3 rfl) ?_
    | refine s1 rfl (lop_load_fp rfl Try.isAgg3 rfl) ?_
  refine s1 rfl (lop_assign (v := .int _ _) rfl) ?_
  refine ops_nil ?_
  refine ok_reg ?_
  refine s1 rfl (lop_call rfl Try.call9 (FrzL.tf rfl) (.inl rfl) shown_ac) ?_
  refine s1 rfl (lop_assign (v := .bool _) rfl) ?_
  refine ops_nil ?_
  refine ok_drw Try.mixed ?_
  first
    | refine d1 rfl rfl (lop_load_rf_agg (ys := [.int _ _, .int _ _, .int _ _, .int _ _, .int _ _, _, _, .int _ _, .int _ _]) rfl rfl Try.isAgg39 Try.sizeOf39 (Nat.le_of_ble_eq_true rfl) rfl) ?_
    | refine d1 rfl rfl (lop_load_fp_agg (ys := [.int _ _, .int _ _, .int _ _, .int _ _, .int _ _, _, _, .int _ _, .int _ _]) rfl Try.isAgg39 Try.sizeOf39 (Nat.le_of_ble_eq_true rfl) rfl) ?_
  refine d1 rfl rfl (lop_move (v := .int _ _) rfl) ?_
  refine d1 rfl rfl (lop_call rfl Try.call16 (FrzL.tf rfl) (.inl rfl) (plan_Homes_ac v hv.id nodes)) ?_
  first
    | refine d1 rfl rfl (lop_load_rf_agg (ys := [.int _ _, .int _ _, .int _ _, .int _ _, .int _ _, _, _, .int _ _, .int _ _]) rfl rfl Try.isAgg39 Try.sizeOf39 (Nat.le_of_ble_eq_true rfl) rfl) ?_
    | refine d1 rfl rfl (lop_load_fp_agg (ys := [.int _ _, .int _ _, .int _ _, .int _ _, .int _ _, _, _, .int _ _, .int _ _]) rfl Try.isAgg39 Try.sizeOf39 (Nat.le_of_ble_eq_true rfl) rfl) ?_
  refine d1 rfl rfl (lop_move (v := .int _ _) rfl) ?_
  refine d1 rfl rfl (lop_call rfl Try.call18 (FrzL.tf rfl) (.inl rfl) (ref16_Homes_ac v nodes)) ?_
  refine d1 rfl rfl (lop_call rfl Try.call17 (FrzL.tf rfl) (.inl rfl) (ref11_Places_ac (l := homesF v nodes 2) (by omega))) ?_
  refine d1 rfl rfl (lop_assign (v := .bool _) rfl) ?_
  refine dr_nil (by kernel_rfl) ?_
  refine ok_reg ?_
  first
    | refine s1 rfl (lop_load_rf_agg (ys := [.int _ _, .int _ _, .int _ _, .int _ _, .int _ _, _, _, .int _ _, .int _ _]) rfl rfl Try.isAgg39 Try.sizeOf39 (Nat.le_of_ble_eq_true rfl) rfl) ?_
    | refine s1 rfl (lop_load_fp_agg (ys := [.int _ _, .int _ _, .int _ _, .int _ _, .int _ _, _, _, .int _ _, .int _ _]) rfl Try.isAgg39 Try.sizeOf39 (Nat.le_of_ble_eq_true rfl) rfl) ?_
  first
    | refine s1 rfl (lop_move (v := .sl _ _) rfl) ?_
    | refine s1 rfl (lop_move (v := .os _ _ _ _) rfl) ?_
    | refine s1 rfl (lop_move (v := .z0) rfl) ?_
  refine s1 rfl (lop_call rfl Try.call15 (FrzL.tf rfl) (.inl rfl) (plan_Fill_ac v hv hp)) ?_
  refine s1 rfl (lop_move (v := .tup _) rfl) ?_
  refine s1 rfl (lop_extract rfl rfl) ?_
  refine s1 rfl (lop_extract rfl rfl) ?_
  refine s1 rfl (lop_assign (v := .str _) rfl) ?_
  refine s1 rfl (lop_assign (v := .int _ _) rfl) ?_
  refine ops_nil ?_
  refine ok_reg ?_
  first
    | refine s1 rfl (lop_load_rf_agg (ys := [.int _ _, .int _ _, .int _ _, .int _ _, .int _ _, _, _, .int _ _, .int _ _]) rfl rfl Try.isAgg39 Try.sizeOf39 (Nat.le_of_ble_eq_true rfl) rfl) ?_
    | refine s1 rfl (lop_load_fp_agg (ys := [.int _ _, .int _ _, .int _ _, .int _ _, .int _ _, _, _, .int _ _, .int _ _]) rfl Try.isAgg39 Try.sizeOf39 (Nat.le_of_ble_eq_true rfl) rfl) ?_
  first
    | refine s1 rfl (lop_move (v := .sl _ _) rfl) ?_
    | refine s1 rfl (lop_move (v := .os _ _ _ _) rfl) ?_
    | refine s1 rfl (lop_move (v := .z0) rfl) ?_
  refine s1 rfl (lop_call rfl Try.call19 (FrzL.tf rfl) (.inl rfl) (ref16_Fill_ac v hv hp)) ?_
  refine s1 rfl (lop_move (v := .tup _) rfl) ?_
  refine s1 rfl (lop_extract rfl rfl) ?_
  refine s1 rfl (lop_extract rfl rfl) ?_
  refine s1 rfl (lop_assign (v := .str _) rfl) ?_
  refine s1 rfl (lop_assign (v := .int _ _) rfl) ?_
  refine ops_nil ?_
  refine ok_reg ?_
  first
    | refine s1 rfl (lop_move (v := .sl _ _) rfl) ?_
    | refine s1 rfl (lop_move (v := .os _ _ _ _) rfl) ?_
    | refine s1 rfl (lop_move (v := .z0) rfl) ?_
  first
    | refine s1 rfl (lop_fieldAddr_rf (fo := 0) rfl Try.underlying41 rfl rfl Try.sizeOf3 (by decide)) ?_
    | refine s1 rfl (lop_fieldAddr_fp (fo := 0) rfl Try.underlying41 rfl rfl Try.sizeOf3 (by decide) rfl) ?_
  first
    | refine s1 rfl (lop_load_rf rfl rfl Try.isAgg3 rfl) ?_
    | refine s1 rfl (lop_load_fp rfl Try.isAgg3 rfl) ?_
  refine s1 rfl (lop_move (v := .int _ _) rfl) ?_
  refine s1 rfl (lop_call rfl Try.call20 (FrzL.tf rfl) (.inl rfl) (plan_Live_ac hl p.r nodes)) ?_
  first
    | refine s1 rfl (lop_assign (v := .sl _ _) rfl) ?_
    | refine s1 rfl (lop_assign (v := .os _ _ _ _) rfl) ?_
    | refine s1 rfl (lop_assign (v := .z0) rfl) ?_
  refine ops_nil ?_
  refine ok_reg ?_
  first
    | refine s1 rfl (lop_move (v := .sl _ _) rfl) ?_
    | refine s1 rfl (lop_move (v := .os _ _ _ _) rfl) ?_
    | refine s1 rfl (lop_move (v := .z0) rfl) ?_
  first
    | refine s1 rfl (lop_fieldAddr_rf (fo := 0) rfl Try.underlying41 rfl rfl Try.sizeOf3 (by decide)) ?_
    | refine s1 rfl (lop_fieldAddr_fp (fo := 0) rfl Try.underlying41 rfl rfl Try.sizeOf3 (by decide) rfl) ?_
  first
    | refine s1 rfl (lop_load_rf rfl rfl Try.isAgg3 rfl) ?_
    | refine s1 rfl (lop_load_fp rfl Try.isAgg3 rfl) ?_
  refine s1 rfl (lop_move (v := .int _ _) rfl) ?_
  refine s1 rfl (lop_call rfl Try.call21 (FrzL.tf rfl) (.inl rfl) (ref16_Live_ac hl p.r nodes)) ?_
  first
    | refine s1 rfl (lop_assign (v := .sl _ _) rfl) ?_
    | refine s1 rfl (lop_assign (v := .os _ _ _ _) rfl) ?_
    | refine s1 rfl (lop_assign (v := .z0) rfl) ?_
  refine ops_nil ?_
  refine ok_seq ?_
  refine ok_reg ?_
  first
    | refine s1 rfl (lop_move (v := .sl _ _) rfl) ?_
    | refine s1 rfl (lop_move (v := .os _ _ _ _) rfl) ?_
    | refine s1 rfl (lop_move (v := .z0) rfl) ?_
  refine s1 rfl (lop_len rfl Try.underlying71 ⟨⟨_, rfl⟩, rfl⟩) ?_
  first
    | refine s1 rfl (lop_move (v := .sl _ _) rfl) ?_
    | refine s1 rfl (lop_move (v := .os _ _ _ _) rfl) ?_
    | refine s1 rfl (lop_move (v := .z0) rfl) ?_
  refine s1 rfl (lop_len rfl Try.underlying71 ⟨⟨_, rfl⟩, rfl⟩) ?_
  refine s1 rfl (lop_neq rfl rfl) ?_
  refine ops_nil ?_
  first
    | refine ok_if _ rfl rfl (fun h_t68 => ?_) (fun h_t68 => ?_)
    | refine ok_cond rfl rfl (fun h_t68 => ?_) (fun h_t68 => ?_)
  · exact absurd rfl h_t68
  · refine ok_skip ?_
    refine ok_seq ?_
    refine ok_reg ?_
    refine s1 rfl (lop_assign (v := .int _ _) rfl) ?_
    refine ops_nil ?_
    refine ok_block ?_
    refine ok_loop (ι := {i : Nat // i ≤ (liveL inv p.r nodes).length}) (fun i => ⟨[(3, .rf 3 0), (4, .rf 4 0), (6, rowOf InvD.enc inv), (7, .rf 7 0), (8, .rf 8 0), (10, .bool true), (11, .bool true), (12, .str (fillF v.parts ps).1), (13, i64 (fillF v.parts ps).2), (14, .str (fillF v.parts ps).1), (15, i64 (fillF v.parts ps).2), (16, rowOf boolEnc (liveL inv p.r nodes)), (17, rowOf boolEnc (liveL inv p.r nodes)), (18, i64 i.1)], [(3, some (true, x.enc)), (4, some (true, v.enc)), (7, some (true, p.enc)), (8, some (true, k.enc))], 128⟩) (fun i => (liveL inv p.r nodes).length - i.1) (⟨0, Nat.zero_le _⟩) ?_ ?_
    · exact le_mk ⟨rfl, rfl, rfl, rfl, rfl, rfl, rfl, rfl, rfl, rfl, rfl, rfl, rfl, rfl, trivial⟩ ⟨.inr rfl, .inr rfl, .inr rfl, .inr rfl, trivial⟩ rfl
    rintro ⟨i, hi⟩
    dsimp only
    refine ok_seq ?_
    refine ok_reg ?_
    refine s1 rfl (lop_move (v := .int _ _) rfl) ?_
    first
      | refine s1 rfl (lop_move (v := .sl _ _) rfl) ?_
      | refine s1 rfl (lop_move (v := .os _ _ _ _) rfl) ?_
      | refine s1 rfl (lop_move (v := .z0) rfl) ?_
    refine s1 rfl (lop_len rfl Try.underlying71 ⟨⟨_, rfl⟩, rfl⟩) ?_
    refine s1 rfl (lop_lss rfl rfl) ?_
    refine ops_nil ?_
    first
      | refine ok_if _ rfl rfl (fun h_t72 => ?_) (fun h_t72 => ?_)
      | refine ok_cond rfl rfl (fun h_t72 => ?_) (fun h_t72 => ?_)
    · have hri : i < (liveL inv p.r nodes).length := by omega
      refine ok_skip ?_
      refine ok_seq ?_
      refine ok_block ?_
      refine ok_drw Try.mixed ?_
      first
        | refine d1 rfl rfl (lop_move (v := .sl _ _) rfl) ?_
        | refine d1 rfl rfl (lop_move (v := .os _ _ _ _) rfl) ?_
        | refine d1 rfl rfl (lop_move (v := .z0) rfl) ?_
      refine d1 rfl rfl (lop_move (v := .int _ _) rfl) ?_
      first
        | refine d1 rfl rfl (lop_indexAddr_os rfl rfl Try.underlying71 Try.sizeOf4 rfl hri) ?_
        | refine d1 rfl rfl (lop_indexAddr_sl rfl rfl Try.underlying71 Try.sizeOf4 rfl hri (flat_at boolEnc_len hri) (flat_ne boolEnc_len (by decide) hri)) ?_
      refine d1 rfl rfl (lop_load_fp (v := .bool (liveL inv p.r nodes)[i]) rfl Try.isAgg4 rfl) ?_
      first
        | refine d1 rfl rfl (lop_move (v := .sl _ _) rfl) ?_
        | refine d1 rfl rfl (lop_move (v := .os _ _ _ _) rfl) ?_
        | refine d1 rfl rfl (lop_move (v := .z0) rfl) ?_
      refine d1 rfl rfl (lop_move (v := .int _ _) rfl) ?_
      first
        | refine d1 rfl rfl (lop_indexAddr_os rfl rfl Try.underlying71 Try.sizeOf4 rfl hri) ?_
        | refine d1 rfl rfl (lop_indexAddr_sl rfl rfl Try.underlying71 Try.sizeOf4 rfl hri (flat_at boolEnc_len hri) (flat_ne boolEnc_len (by decide) hri)) ?_
      refine d1 rfl rfl (lop_load_fp (v := .bool (liveL inv p.r nodes)[i]) rfl Try.isAgg4 rfl) ?_
      refine d1 rfl rfl (lop_bneq rfl rfl Try.underlying4) ?_
      refine dr_nil (by kernel_rfl) ?_
      first
        | refine ok_if _ rfl rfl (fun h_t83 => ?_) (fun h_t83 => ?_)
        | refine ok_cond rfl rfl (fun h_t83 => ?_) (fun h_t83 => ?_)
      · exact absurd rfl h_t83
      · refine ok_skip ?_
        refine ok_region ?_
        refine s1 rfl (lop_move (v := .int _ _) rfl) ?_
        refine s1 rfl (lop_bop rfl rfl rfl (bop_add (by omega) (by omega))) ?_
        refine s1 rfl (lop_assign (v := .int _ _) rfl) ?_
        refine ops_nil ?_
        exact ⟨⟨i + 1, by omega⟩, by simp only; omega, le_mk ⟨rfl, rfl, rfl, rfl, rfl, rfl, rfl, rfl, rfl, rfl, rfl, rfl, rfl, rfl, trivial⟩ ⟨.inr rfl, .inr rfl, .inr rfl, .inr rfl, trivial⟩ rfl⟩
    · refine ok_exit ?_
      refine ok_drw Try.mixed ?_
      first
        | refine d1 rfl rfl (lop_load_rf_agg (ys := [.int _ _, .int _ _, .int _ _, .int _ _, .int _ _, _, _, .int _ _, .int _ _]) rfl rfl Try.isAgg39 Try.sizeOf39 (Nat.le_of_ble_eq_true rfl) rfl) ?_
        | refine d1 rfl rfl (lop_load_fp_agg (ys := [.int _ _, .int _ _, .int _ _, .int _ _, .int _ _, _, _, .int _ _, .int _ _]) rfl Try.isAgg39 Try.sizeOf39 (Nat.le_of_ble_eq_true rfl) rfl) ?_
      first
        | refine d1 rfl rfl (lop_move (v := .sl _ _) rfl) ?_
        | refine d1 rfl rfl (lop_move (v := .os _ _ _ _) rfl) ?_
        | refine d1 rfl rfl (lop_move (v := .z0) rfl) ?_
      refine d1 rfl rfl (lop_call rfl Try.call23 (FrzL.tf rfl) (.inl rfl) (plan_Lost_ac v hv hl)) ?_
      first
        | refine d1 rfl rfl (lop_load_rf_agg (ys := [.int _ _, .int _ _, .int _ _, .int _ _, .int _ _, _, _, .int _ _, .int _ _]) rfl rfl Try.isAgg39 Try.sizeOf39 (Nat.le_of_ble_eq_true rfl) rfl) ?_
        | refine d1 rfl rfl (lop_load_fp_agg (ys := [.int _ _, .int _ _, .int _ _, .int _ _, .int _ _, _, _, .int _ _, .int _ _]) rfl Try.isAgg39 Try.sizeOf39 (Nat.le_of_ble_eq_true rfl) rfl) ?_
      first
        | refine d1 rfl rfl (lop_move (v := .sl _ _) rfl) ?_
        | refine d1 rfl rfl (lop_move (v := .os _ _ _ _) rfl) ?_
        | refine d1 rfl rfl (lop_move (v := .z0) rfl) ?_
      refine d1 rfl rfl (lop_call rfl Try.call24 (FrzL.tf rfl) (.inl rfl) (ref16_Lost_ac v hv hl)) ?_
      refine d1 rfl rfl (lop_call rfl Try.call22 (FrzL.tf rfl) (.inl rfl) (ref10_Ints_ac (l := lostL v inv) (by omega))) ?_
      refine d1 rfl rfl (lop_assign (v := .bool _) rfl) ?_
      refine dr_nil (by kernel_rfl) ?_
      refine ok_drw Try.mixed ?_
      refine d1 rfl rfl (lop_move (v := .bool _) rfl) ?_
      refine d1 rfl rfl (lop_move (v := .bool _) rfl) ?_
      refine dy1 rfl rfl rfl rfl rfl (lop_move (v := .bool _) rfl) ?_
      first
        | refine d1 rfl rfl (lop_pick_t (v := .bool _) rfl rfl rfl) ?_
        | refine d1 rfl rfl (lop_pick_t (v := .bool _) rfl rfl rfl) ?_
        | refine d1 rfl rfl (lop_pick_f (v := .bool _) rfl rfl rfl) ?_
        | refine d1 rfl rfl (lop_pick rfl rfl rfl) ?_
      refine d1 rfl rfl (lop_move (v := .bool _) rfl) ?_
      refine dy1 rfl rfl rfl rfl rfl (lop_move (v := .str _) rfl) ?_
      refine dy1 rfl rfl rfl rfl rfl (lop_move (v := .str _) rfl) ?_
      refine dy1 rfl rfl rfl rfl rfl (lop_seql rfl rfl) ?_
      first
        | refine d1 rfl rfl (lop_pick_t (v := .bool _) rfl rfl rfl) ?_
        | refine d1 rfl rfl (lop_pick_t (v := .bool _) rfl rfl rfl) ?_
        | refine d1 rfl rfl (lop_pick_t (v := .bool _) rfl rfl rfl) ?_
        | refine d1 rfl rfl (lop_pick_f (v := .bool _) rfl rfl rfl) ?_
        | refine d1 rfl rfl (lop_pick rfl rfl rfl) ?_
      refine d1 rfl rfl (lop_move (v := .bool _) rfl) ?_
      first
        | refine dsplitP 9 rfl rfl (fun g22_9 p22_9 => ?_) (fun g22_9 p22_9 => ?_)
        | refine dsplitB 9 rfl rfl (fun g22_9 p22_9 => ?_) (fun g22_9 p22_9 => ?_)
      · refine dy1 rfl rfl g22_9 rfl rfl (lop_move (v := .int _ _) rfl) ?_
        refine dy1 rfl rfl g22_9 rfl rfl (lop_move (v := .int _ _) rfl) ?_
        refine dy1 rfl rfl g22_9 rfl rfl (lop_eql rfl rfl) ?_
        first
          | refine d1 rfl rfl (lop_pick_t (v := .bool _) rfl rfl rfl) ?_
          | refine d1 rfl rfl (lop_pick_t (v := .bool _) rfl rfl rfl) ?_
          | refine d1 rfl rfl (lop_pick_t (v := .bool _) rfl g22_9 rfl) ?_
          | refine d1 rfl rfl (lop_pick_t (v := .bool _) rfl rfl rfl) ?_
          | refine d1 rfl rfl (lop_pick_f (v := .bool _) rfl rfl rfl) ?_
          | refine d1 rfl rfl (lop_pick rfl rfl rfl) ?_
        refine d1 rfl rfl (lop_move (v := .bool _) rfl) ?_
        first
          | refine dsplitP 14 rfl rfl (fun g22_14 p22_14 => ?_) (fun g22_14 p22_14 => ?_)
          | refine dsplitB 14 rfl rfl (fun g22_14 p22_14 => ?_) (fun g22_14 p22_14 => ?_)
        · refine dy1 rfl rfl g22_14 rfl rfl (lop_move (v := .bool _) rfl) ?_
          first
            | refine d1 rfl rfl (lop_pick_t (v := .bool _) rfl rfl rfl) ?_
            | refine d1 rfl rfl (lop_pick_t (v := .bool _) rfl rfl rfl) ?_
            | refine d1 rfl rfl (lop_pick_t (v := .bool _) rfl g22_9 rfl) ?_
            | refine d1 rfl rfl (lop_pick_t (v := .bool _) rfl g22_14 rfl) ?_
            | refine d1 rfl rfl (lop_pick_t (v := .bool _) rfl rfl rfl) ?_
            | refine d1 rfl rfl (lop_pick_f (v := .bool _) rfl rfl rfl) ?_
            | refine d1 rfl rfl (lop_pick rfl rfl rfl) ?_
          refine d1 rfl rfl (lop_move (v := .bool _) rfl) ?_
          first
            | refine dy1 rfl rfl rfl rfl rfl (lop_move (v := .sl _ _) rfl) ?_
            | refine dy1 rfl rfl rfl rfl rfl (lop_move (v := .os _ _ _ _) rfl) ?_
            | refine dy1 rfl rfl rfl rfl rfl (lop_move (v := .z0) rfl) ?_
          first
            | refine dy1 rfl rfl rfl rfl rfl (lop_load_rf_agg (ys := [.int _ _, .int _ _]) rfl rfl Try.isAgg41 Try.sizeOf41 (Nat.le_of_ble_eq_true rfl) rfl) ?_
            | refine dy1 rfl rfl rfl rfl rfl (lop_load_fp_agg (ys := [.int _ _, .int _ _]) rfl Try.isAgg41 Try.sizeOf41 (Nat.le_of_ble_eq_true rfl) rfl) ?_
          first
            | refine dy1 rfl rfl rfl rfl rfl (lop_load_rf_agg (ys := [.int _ _, .int _ _]) rfl rfl Try.isAgg32 Try.sizeOf32 (Nat.le_of_ble_eq_true rfl) rfl) ?_
            | refine dy1 rfl rfl rfl rfl rfl (lop_load_fp_agg (ys := [.int _ _, .int _ _]) rfl Try.isAgg32 Try.sizeOf32 (Nat.le_of_ble_eq_true rfl) rfl) ?_
          refine dy1 rfl rfl rfl rfl rfl (lop_call rfl Try.call25 (FrzL.tf rfl) (.inl rfl) (plan_Has_ac hl p k)) ?_
          first
            | refine dy1 rfl rfl rfl rfl rfl (lop_move (v := .sl _ _) rfl) ?_
            | refine dy1 rfl rfl rfl rfl rfl (lop_move (v := .os _ _ _ _) rfl) ?_
            | refine dy1 rfl rfl rfl rfl rfl (lop_move (v := .z0) rfl) ?_
          first
            | refine dy1 rfl rfl rfl rfl rfl (lop_load_rf_agg (ys := [.int _ _, .int _ _]) rfl rfl Try.isAgg41 Try.sizeOf41 (Nat.le_of_ble_eq_true rfl) rfl) ?_
            | refine dy1 rfl rfl rfl rfl rfl (lop_load_fp_agg (ys := [.int _ _, .int _ _]) rfl Try.isAgg41 Try.sizeOf41 (Nat.le_of_ble_eq_true rfl) rfl) ?_
          first
            | refine dy1 rfl rfl rfl rfl rfl (lop_load_rf_agg (ys := [.int _ _, .int _ _]) rfl rfl Try.isAgg32 Try.sizeOf32 (Nat.le_of_ble_eq_true rfl) rfl) ?_
            | refine dy1 rfl rfl rfl rfl rfl (lop_load_fp_agg (ys := [.int _ _, .int _ _]) rfl Try.isAgg32 Try.sizeOf32 (Nat.le_of_ble_eq_true rfl) rfl) ?_
          refine dy1 rfl rfl rfl rfl rfl (lop_call rfl Try.call26 (FrzL.tf rfl) (.inl rfl) (ref16_Has_ac hl p k)) ?_
          refine dy1 rfl rfl rfl rfl rfl (lop_beql rfl rfl Try.underlying4) ?_
          first
            | refine d1 rfl rfl (lop_pick_t (v := .bool _) rfl rfl rfl) ?_
            | refine d1 rfl rfl (lop_pick_t (v := .bool _) rfl rfl rfl) ?_
            | refine d1 rfl rfl (lop_pick_t (v := .bool _) rfl g22_9 rfl) ?_
            | refine d1 rfl rfl (lop_pick_t (v := .bool _) rfl g22_14 rfl) ?_
            | refine d1 rfl rfl (lop_pick_t (v := .bool _) rfl rfl rfl) ?_
            | refine d1 rfl rfl (lop_pick_t (v := .bool _) rfl rfl rfl) ?_
            | refine d1 rfl rfl (lop_pick_f (v := .bool _) rfl rfl rfl) ?_
            | refine d1 rfl rfl (lop_pick rfl rfl rfl) ?_
          refine d1 rfl rfl (lop_move (v := .bool _) rfl) ?_
          first
            | refine dsplitP 28 rfl rfl (fun g22_28 p22_28 => ?_) (fun g22_28 p22_28 => ?_)
            | refine dsplitB 28 rfl rfl (fun g22_28 p22_28 => ?_) (fun g22_28 p22_28 => ?_)
          · first
              | refine dy1 rfl rfl g22_28 rfl rfl (lop_load_rf_agg (ys := [_, _, _]) rfl rfl Try.isAgg26 Try.sizeOf26 (Nat.le_of_ble_eq_true rfl) rfl) ?_
              | refine dy1 rfl rfl g22_28 rfl rfl (lop_load_fp_agg (ys := [_, _, _]) rfl Try.isAgg26 Try.sizeOf26 (Nat.le_of_ble_eq_true rfl) rfl) ?_
            first
              | refine dy1 rfl rfl g22_28 rfl rfl (lop_load_rf_agg (ys := [.int _ _, .int _ _]) rfl rfl Try.isAgg32 Try.sizeOf32 (Nat.le_of_ble_eq_true rfl) rfl) ?_
              | refine dy1 rfl rfl g22_28 rfl rfl (lop_load_fp_agg (ys := [.int _ _, .int _ _]) rfl Try.isAgg32 Try.sizeOf32 (Nat.le_of_ble_eq_true rfl) rfl) ?_
            refine dy1 rfl rfl g22_28 rfl rfl (lop_call rfl Try.call13 (FrzL.tf rfl) (.inl rfl) (plan_Old_ac x hx k)) ?_
            first
              | refine dy1 rfl rfl g22_28 rfl rfl (lop_load_rf_agg (ys := [_, _, _]) rfl rfl Try.isAgg26 Try.sizeOf26 (Nat.le_of_ble_eq_true rfl) rfl) ?_
              | refine dy1 rfl rfl g22_28 rfl rfl (lop_load_fp_agg (ys := [_, _, _]) rfl Try.isAgg26 Try.sizeOf26 (Nat.le_of_ble_eq_true rfl) rfl) ?_
            first
              | refine dy1 rfl rfl g22_28 rfl rfl (lop_load_rf_agg (ys := [.int _ _, .int _ _]) rfl rfl Try.isAgg32 Try.sizeOf32 (Nat.le_of_ble_eq_true rfl) rfl) ?_
              | refine dy1 rfl rfl g22_28 rfl rfl (lop_load_fp_agg (ys := [.int _ _, .int _ _]) rfl Try.isAgg32 Try.sizeOf32 (Nat.le_of_ble_eq_true rfl) rfl) ?_
            refine dy1 rfl rfl g22_28 rfl rfl (lop_call rfl Try.call27 (FrzL.tf rfl) (.inl rfl) (ref16_Old_ac x hx k)) ?_
            refine dy1 rfl rfl g22_28 rfl rfl (lop_beql rfl rfl Try.underlying4) ?_
            first
              | refine d1 rfl rfl (lop_pick_t (v := .bool _) rfl rfl rfl) ?_
              | refine d1 rfl rfl (lop_pick_t (v := .bool _) rfl rfl rfl) ?_
              | refine d1 rfl rfl (lop_pick_t (v := .bool _) rfl g22_9 rfl) ?_
              | refine d1 rfl rfl (lop_pick_t (v := .bool _) rfl g22_14 rfl) ?_
              | refine d1 rfl rfl (lop_pick_t (v := .bool _) rfl rfl rfl) ?_
              | refine d1 rfl rfl (lop_pick_t (v := .bool _) rfl g22_28 rfl) ?_
              | refine d1 rfl rfl (lop_pick_t (v := .bool _) rfl rfl rfl) ?_
              | refine d1 rfl rfl (lop_pick_f (v := .bool _) rfl rfl rfl) ?_
              | refine d1 rfl rfl (lop_pick rfl rfl rfl) ?_
            refine d1 rfl rfl (lop_assign (v := .bool _) rfl) ?_
            refine dr_nil (by kernel_rfl) ?_
            refine ok_ret ?_
            exact ret_one rfl rfl rfl rfl (congrArg V.bool (decide_eq_true rfl))
          · exact absurd rfl p22_28
        · exact absurd rfl p22_14
      · exact absurd rfl p22_9

end Go.Proofs
