/- Chapter 16: walks. Printed by gen.py. -/
import Derived.Test.YtikikdgfebbcmaaT16e
set_option linter.unusedVariables false
set_option linter.unusedSimpArgs false
set_option maxRecDepth 100000
namespace Go.Proofs
open Go.Hg

theorem pair1_ac (v w : VolD) : AC Try.prog 56 [.agg w.enc, .fp v.enc] (.bool (mateP v w)) := by
  refine AC.intro Try.func56 rfl (Nat.le_of_ble_eq_true rfl) ?_
  refine ok_reg ?_
  first
    | refine s1w rfl (lop_box (t := 2) (v := .agg [.int _ _, .int _ _, .int _ _, .int _ _, .int _ _, _, _, .int _ _, .int _ _]) (f := true) (cs := [.int _ _, .int _ _, .int _ _, .int _ _, .int _ _, _, _, .int _ _, .int _ _]) rfl rfl rfl rfl (fun h => by cases h)) rfl ?_
    | refine s1w rfl (lop_box (t := 2) (v := .agg [.int _ _, .int _ _, .int _ _, .int _ _, .int _ _, _, _, .int _ _, .int _ _]) (f := false) (cs := [.int _ _, .int _ _, .int _ _, .int _ _, .int _ _, _, _, .int _ _, .int _ _]) rfl rfl rfl rfl (fun _ => rfl)) rfl ?_
  refine s1 rfl (lop_assign (v := .bool _) rfl) ?_
  refine ops_nil ?_
  refine ok_reg ?_
  first
    | refine s1 rfl (lop_fieldAddr_rf (fo := 4) rfl Try.underlying39 rfl rfl Try.sizeOf3 (by decide)) ?_
    | refine s1 rfl (lop_fieldAddr_fp (fo := 4) rfl Try.underlying39 rfl rfl Try.sizeOf3 (by decide) rfl) ?_
  first
    | refine s1 rfl (lop_load_rf rfl rfl Try.isAgg3 rfl) ?_
    | refine s1 rfl (lop_load_fp rfl Try.isAgg3 rfl) ?_
  refine s1 rfl (lop_eql rfl rfl) ?_
  refine s1 rfl (lop_move (v := .bool _) rfl) ?_
  first
    | refine gsplitP 3 rfl rfl (fun g1_3 p1_3 => ?_) (fun g1_3 p1_3 => ?_)
    | refine gsplitB 3 rfl rfl (fun g1_3 p1_3 => ?_) (fun g1_3 p1_3 => ?_)
  · first
      | refine y1 rfl rfl g1_3 rfl (lop_fieldAddr_rf (fo := 1) rfl Try.underlying39 rfl rfl Try.sizeOf3 (by decide)) ?_
      | refine y1 rfl rfl g1_3 rfl (lop_fieldAddr_fp (fo := 1) rfl Try.underlying39 rfl rfl Try.sizeOf3 (by decide) rfl) ?_
    first
      | refine y1 rfl rfl g1_3 rfl (lop_load_rf rfl rfl Try.isAgg3 rfl) ?_
      | refine y1 rfl rfl g1_3 rfl (lop_load_fp rfl Try.isAgg3 rfl) ?_
    first
      | refine y1 rfl rfl g1_3 rfl (lop_fieldAddr_rf (fo := 1) rfl Try.underlying39 rfl rfl Try.sizeOf3 (by decide)) ?_
      | refine y1 rfl rfl g1_3 rfl (lop_fieldAddr_fp (fo := 1) rfl Try.underlying39 rfl rfl Try.sizeOf3 (by decide) rfl) ?_
    first
      | refine y1 rfl rfl g1_3 rfl (lop_load_rf rfl rfl Try.isAgg3 rfl) ?_
      | refine y1 rfl rfl g1_3 rfl (lop_load_fp rfl Try.isAgg3 rfl) ?_
    refine y1 rfl rfl g1_3 rfl (lop_neq rfl rfl) ?_
    first
      | refine s1 rfl (lop_pick_t (v := .bool _) rfl g1_3 rfl) ?_
      | refine s1 rfl (lop_pick_t (v := .bool _) rfl rfl rfl) ?_
      | refine s1 rfl (lop_pick_f (v := .bool _) rfl rfl rfl) ?_
      | refine s1 rfl (lop_pick rfl rfl rfl) ?_
    refine s1 rfl (lop_assign (v := .bool _) rfl) ?_
    refine ops_nil ?_
    refine ok_ret ?_
    exact ret_one rfl rfl rfl rfl (congrArg V.bool (by unfold mateP; simp [*]))
  · refine n1 rfl rfl g1_3 ?_
    refine n1 rfl rfl g1_3 ?_
    refine n1 rfl rfl g1_3 ?_
    refine n1 rfl rfl g1_3 ?_
    refine n1 rfl rfl g1_3 ?_
    first
      | refine s1 rfl (lop_pick_f (v := .bool _) rfl g1_3 rfl) ?_
      | refine s1 rfl (lop_pick_t (v := .bool _) rfl rfl rfl) ?_
      | refine s1 rfl (lop_pick_f (v := .bool _) rfl rfl rfl) ?_
      | refine s1 rfl (lop_pick rfl rfl rfl) ?_
    refine s1 rfl (lop_assign (v := .bool _) rfl) ?_
    refine ops_nil ?_
    refine ok_ret ?_
    exact ret_one rfl rfl rfl rfl (congrArg V.bool (by unfold mateP; simp [*]))

theorem plan_pair_ac (hR : RingOk) (x : IdxD) (hx : VolsOk x.vols) {l : List InvD} (hl : InvsOk l) (nodes : Int) : AC Try.prog 30 [.agg x.enc, rowOf InvD.enc l, i64 nodes] (.tup [.agg (pairF l nodes x.vols).1.enc, .bool (pairF l nodes x.vols).2]) := by
  have hvl := hx.1
  refine AC.intro Try.func30 rfl (Nat.le_of_ble_eq_true rfl) ?_
  refine ok_reg ?_
  first
    | refine s1w rfl (lop_box (t := 3) (v := .agg [_, _, _]) (f := true) (cs := [_, _, _]) rfl rfl rfl rfl (fun h => by cases h)) rfl ?_
    | refine s1w rfl (lop_box (t := 3) (v := .agg [_, _, _]) (f := false) (cs := [_, _, _]) rfl rfl rfl rfl (fun _ => rfl)) rfl ?_
  refine s1w rfl (lop_new (t := 6) (cs := [.int _ _, .int _ _, .int _ _, .int _ _, .z0, .int _ _, .int _ _]) Try.zeroValue34 rfl rfl rfl rfl) rfl ?_
  refine s1 rfl (lop_assign (v := .bool _) rfl) ?_
  refine ops_nil ?_
  refine ok_seq ?_
  refine ok_reg ?_
  first
    | refine s1 rfl (lop_fieldAddr_rf (fo := 0) rfl Try.underlying26 rfl rfl Try.sizeOf22 (by decide)) ?_
    | refine s1 rfl (lop_fieldAddr_fp (fo := 0) rfl Try.underlying26 rfl rfl Try.sizeOf22 (by decide) rfl) ?_
  first
    | refine s1 rfl (lop_load_rf rfl rfl Try.isAgg22 rfl) ?_
    | refine s1 rfl (lop_load_fp rfl Try.isAgg22 rfl) ?_
  refine s1 rfl (lop_len rfl Try.underlying22 ⟨⟨_, rfl⟩, rfl⟩) ?_
  refine s1 rfl (lop_move (v := .int _ _) rfl) ?_
  refine ops_nil ?_
  refine ok_block ?_
  refine ok_loop (ι := {i : Nat // i ≤ x.vols.length ∧ ∀ j, j < i → pairG l nodes x.vols j = none}) (fun i => ⟨[(1, rowOf InvD.enc l), (2, i64 nodes), (3, .rf 3 0), (6, .rf 6 0), (17, rowOf VolD.enc x.vols), (18, i64 x.vols.length), (19, i64 i.1)], [(3, some (true, x.enc)), (6, some (true, actZ))], 74⟩) (fun i => x.vols.length - i.1) (⟨0, Nat.zero_le _, fun _ h => absurd h (Nat.not_lt_zero _)⟩) ?_ ?_
  · exact le_mk ⟨rfl, rfl, rfl, rfl, rfl, rfl, rfl, trivial⟩ ⟨.inr rfl, .inr rfl, trivial⟩ rfl
  rintro ⟨i, hi, hn⟩
  dsimp only
  refine ok_reg ?_
  refine s1 rfl (lop_lss rfl rfl) ?_
  refine ops_nil ?_
  refine ok_seq ?_
  first
    | refine ok_if _ rfl rfl (fun h_t20 => ?_) (fun h_t20 => ?_)
    | refine ok_cond rfl rfl (fun h_t20 => ?_) (fun h_t20 => ?_)
  · have h_t20 : i < x.vols.length := Int.ofNat_lt.1 h_t20
    have hv := hx.2 x.vols[i] (List.getElem_mem h_t20)
    refine ok_skip ?_
    refine ok_seq ?_
    refine ok_block ?_
    refine ok_reg ?_
    refine s1 rfl (lop_move (v := .int _ _) rfl) ?_
    first
      | refine s1 rfl (lop_indexAddr_os rfl rfl Try.underlying22 Try.sizeOf39 rfl h_t20) ?_
      | refine s1 rfl (lop_indexAddr_sl rfl rfl Try.underlying22 Try.sizeOf39 rfl h_t20 (flat_at VolD.len h_t20) (flat_ne VolD.len (by decide) h_t20)) ?_
    first
      | refine s1 rfl (lop_load_rf_agg rfl rfl Try.isAgg39 Try.sizeOf39 (by rw [List.length_append, VolD.len]; omega) (by rw [List.take_append_of_le_length (by rw [VolD.len]; omega), List.take_of_length_le (by rw [VolD.len]; omega)])) ?_
      | refine s1 rfl (lop_load_fp_agg rfl Try.isAgg39 Try.sizeOf39 (by rw [List.length_append, VolD.len]; omega) (by rw [List.take_append_of_le_length (by rw [VolD.len]; omega), List.take_of_length_le (by rw [VolD.len]; omega)])) ?_
    refine s1w rfl (lop_new (t := 9) (cs := [.int _ _, .int _ _, .int _ _, .int _ _, .int _ _, .z0, .z0, .int _ _, .int _ _]) Try.zeroValue39 rfl rfl rfl rfl) rfl ?_
    refine s1 rfl (lop_assign (v := .int _ _) rfl) ?_
    first
      | refine s0w rfl (lop_storeK (v := .agg [.int _ _, .int _ _, .int _ _, .int _ _, .int _ _, _, _, .int _ _, .int _ _]) (cs' := [.int _ _, .int _ _, .int _ _, .int _ _, .int _ _, _, _, .int _ _, .int _ _]) (f' := true) rfl rfl rfl Try.sizeOf39 rfl rfl rfl rfl rfl) ?_
      | refine s0w rfl (lop_storeK (v := .agg [.int _ _, .int _ _, .int _ _, .int _ _, .int _ _, _, _, .int _ _, .int _ _]) (cs' := [.int _ _, .int _ _, .int _ _, .int _ _, .int _ _, _, _, .int _ _, .int _ _]) (f' := false) rfl rfl rfl Try.sizeOf39 rfl rfl rfl rfl rfl) ?_
    refine ops_nil ?_
    refine ok_seq ?_
    refine ok_reg ?_
    first
      | refine s1 rfl (lop_fieldAddr_rf (fo := 4) rfl Try.underlying39 rfl rfl Try.sizeOf3 (by decide)) ?_
      | refine s1 rfl (lop_fieldAddr_fp (fo := 4) rfl Try.underlying39 rfl rfl Try.sizeOf3 (by decide) rfl) ?_
    first
      | refine s1 rfl (lop_load_rf rfl rfl Try.isAgg3 rfl) ?_
      | refine s1 rfl (lop_load_fp rfl Try.isAgg3 rfl) ?_
    refine s1 rfl (lop_neq rfl rfl) ?_
    refine ops_nil ?_
    first
      | refine ok_if _ rfl rfl (fun h_t26 => ?_) (fun h_t26 => ?_)
      | refine ok_cond rfl rfl (fun h_t26 => ?_) (fun h_t26 => ?_)
    · refine ok_exit ?_
      refine ok_region ?_
      refine s1 rfl (lop_bop rfl rfl rfl (bop_add (by omega) (by omega))) ?_
      refine s1 rfl (lop_move (v := .int _ _) rfl) ?_
      refine ops_nil ?_
      exact ⟨⟨i + 1, by omega, lt_step (f := fun j => pairG l nodes x.vols j = none) hn (by unfold pairG; rw [getD_at _ h_t20, if_neg h_t26])⟩, by simp only; omega, le_mk ⟨rfl, rfl, rfl, rfl, rfl, rfl, rfl, trivial⟩ ⟨.inr rfl, .inr rfl, trivial⟩ rfl⟩
    · have h_t26 : x.vols[i].phase = 3 := Decidable.byContradiction h_t26
      refine ok_skip ?_
      refine ok_reg ?_
      first
        | refine s1 rfl (lop_fieldAddr_rf (fo := 0) rfl Try.underlying26 rfl rfl Try.sizeOf22 (by decide)) ?_
        | refine s1 rfl (lop_fieldAddr_fp (fo := 0) rfl Try.underlying26 rfl rfl Try.sizeOf22 (by decide) rfl) ?_
      first
        | refine s1 rfl (lop_load_rf rfl rfl Try.isAgg22 rfl) ?_
        | refine s1 rfl (lop_load_fp rfl Try.isAgg22 rfl) ?_
      refine s1 rfl (lop_move (v := .int _ _) rfl) ?_
      refine s1 rfl (lop_bop rfl rfl rfl (bop_add (by omega) (by omega))) ?_
      refine s1 rfl (lop_slice_slK (l := i + 1) (h := x.vols.length) (m := (x.vols.drop (i + 1)).length) (ys := (x.vols.drop (i + 1)).flatMap VolD.enc) rfl Try.underlying22 Try.sizeOf39 (flat_length VolD.len _) ⟨_, _, rfl, rfl⟩ rfl (by omega) (Nat.le_refl _) (by rw [List.length_drop]) (by rw [flat_drop VolD.len, List.take_of_length_le (by rw [flat_length VolD.len]; omega)])) ?_
      first
        | refine s1 rfl (lop_func (vs := [.rf _ _]) rfl) ?_
        | refine s1 rfl (lop_func (vs := [.fp _]) rfl) ?_
      refine s1 rfl (lop_call (R := [9]) rfl Try.call55 (fzL_sound _ _ _ rfl) (.inr rfl) (indexFunc_Vol_ac (l := x.vols.drop (i + 1)) (p := mateP x.vols[i]) (by rw [List.length_drop]; omega) Try.call56 rfl (fun w _ => pair1_ac x.vols[i] w))) ?_
      refine s1 rfl (lop_assign (v := .int _ _) rfl) ?_
      refine ops_nil ?_
      refine ok_seq ?_
      refine ok_reg ?_
      refine s1 rfl (lop_move (v := .int _ _) rfl) ?_
      refine s1 rfl (lop_lss rfl rfl) ?_
      refine ops_nil ?_
      first
        | refine ok_if _ rfl rfl (fun h_t35 => ?_) (fun h_t35 => ?_)
        | refine ok_cond rfl rfl (fun h_t35 => ?_) (fun h_t35 => ?_)
      · refine ok_exit ?_
        refine ok_region ?_
        refine s1 rfl (lop_bop rfl rfl rfl (bop_add (by omega) (by omega))) ?_
        refine s1 rfl (lop_move (v := .int _ _) rfl) ?_
        refine ops_nil ?_
        exact ⟨⟨i + 1, by omega, lt_step (f := fun j => pairG l nodes x.vols j = none) hn (by unfold pairG; rw [getD_at _ h_t20, if_pos h_t26, if_pos h_t35])⟩, by simp only; omega, le_mk ⟨rfl, rfl, rfl, rfl, rfl, rfl, rfl, trivial⟩ ⟨.inr rfl, .inr rfl, trivial⟩ rfl⟩
      · obtain ⟨kk, hkk, hkx, hkp, _⟩ := (idxOf_cases (mateP x.vols[i]) (x.vols.drop (i + 1))).resolve_left (fun h => h_t35 (by rw [h.1]; decide))
        rw [List.length_drop] at hkk
        have hwl : i + 1 + kk < x.vols.length := by omega
        have hgw : x.vols.getD (i + 1 + (idxOf (mateP x.vols[i]) (x.vols.drop (i + 1))).toNat) .zero = x.vols[i + 1 + kk] := by rw [hkx]; exact getD_at _ hwl
        have hw := hx.2 x.vols[i + 1 + kk] (List.getElem_mem hwl)
        refine ok_skip ?_
        refine ok_reg ?_
        first
          | refine s1 rfl (lop_fieldAddr_rf (fo := 0) rfl Try.underlying26 rfl rfl Try.sizeOf22 (by decide)) ?_
          | refine s1 rfl (lop_fieldAddr_fp (fo := 0) rfl Try.underlying26 rfl rfl Try.sizeOf22 (by decide) rfl) ?_
        first
          | refine s1 rfl (lop_load_rf rfl rfl Try.isAgg22 rfl) ?_
          | refine s1 rfl (lop_load_fp rfl Try.isAgg22 rfl) ?_
        refine s1 rfl (lop_move (v := .int _ _) rfl) ?_
        refine s1 rfl (lop_bop rfl rfl rfl (bop_add (by omega) (by omega))) ?_
        refine s1 rfl (lop_move (v := .int _ _) rfl) ?_
        refine s1 rfl (lop_bop rfl rfl rfl (bop_add (by omega) (by omega))) ?_
        first
          | refine s1 rfl (lop_indexAddr_os rfl rfl Try.underlying22 Try.sizeOf39 (by rw [hkx]; omega) hwl) ?_
          | refine s1 rfl (lop_indexAddr_sl rfl rfl Try.underlying22 Try.sizeOf39 (by rw [hkx]; omega) hwl (flat_at VolD.len hwl) (flat_ne VolD.len (by decide) hwl)) ?_
        first
          | refine s1 rfl (lop_load_rf_agg rfl rfl Try.isAgg39 Try.sizeOf39 (by rw [List.length_append, VolD.len]; omega) (by rw [List.take_append_of_le_length (by rw [VolD.len]; omega), List.take_of_length_le (by rw [VolD.len]; omega)])) ?_
          | refine s1 rfl (lop_load_fp_agg rfl Try.isAgg39 Try.sizeOf39 (by rw [List.length_append, VolD.len]; omega) (by rw [List.take_append_of_le_length (by rw [VolD.len]; omega), List.take_of_length_le (by rw [VolD.len]; omega)])) ?_
        refine s1w rfl (lop_new (t := 11) (cs := [.int _ _, .int _ _, .int _ _, .int _ _, .int _ _, .z0, .z0, .int _ _, .int _ _]) Try.zeroValue39 rfl rfl rfl rfl) rfl ?_
        first
          | refine s0w rfl (lop_storeK (v := .agg [.int _ _, .int _ _, .int _ _, .int _ _, .int _ _, _, _, .int _ _, .int _ _]) (cs' := [.int _ _, .int _ _, .int _ _, .int _ _, .int _ _, _, _, .int _ _, .int _ _]) (f' := true) rfl rfl rfl Try.sizeOf39 rfl rfl rfl rfl rfl) ?_
          | refine s0w rfl (lop_storeK (v := .agg [.int _ _, .int _ _, .int _ _, .int _ _, .int _ _, _, _, .int _ _, .int _ _]) (cs' := [.int _ _, .int _ _, .int _ _, .int _ _, .int _ _, _, _, .int _ _, .int _ _]) (f' := false) rfl rfl rfl Try.sizeOf39 rfl rfl rfl rfl rfl) ?_
        refine ops_nil ?_
        refine ok_reg ?_
        first
          | refine s1 rfl (lop_fieldAddr_rf (fo := 1) rfl Try.underlying39 rfl rfl Try.sizeOf3 (by decide)) ?_
          | refine s1 rfl (lop_fieldAddr_fp (fo := 1) rfl Try.underlying39 rfl rfl Try.sizeOf3 (by decide) rfl) ?_
        first
          | refine s1 rfl (lop_load_rf rfl rfl Try.isAgg3 rfl) ?_
          | refine s1 rfl (lop_load_fp rfl Try.isAgg3 rfl) ?_
        first
          | refine s1 rfl (lop_fieldAddr_rf (fo := 1) rfl Try.underlying39 rfl rfl Try.sizeOf3 (by decide)) ?_
          | refine s1 rfl (lop_fieldAddr_fp (fo := 1) rfl Try.underlying39 rfl rfl Try.sizeOf3 (by decide) rfl) ?_
        first
          | refine s1 rfl (lop_load_rf rfl rfl Try.isAgg3 rfl) ?_
          | refine s1 rfl (lop_load_fp rfl Try.isAgg3 rfl) ?_
        refine s1 rfl (lop_call rfl Try.call57 (FrzL.tf rfl) (.inl rfl) (site_Third_ac x.vols[i].home x.vols[i + 1 + kk].home)) ?_
        refine s1 rfl (lop_move (v := .tup _) rfl) ?_
        refine s1 rfl (lop_extract rfl rfl) ?_
        refine s1 rfl (lop_extract rfl rfl) ?_
        refine s1 rfl (lop_assign (v := .int _ _) rfl) ?_
        refine s1 rfl (lop_assign (v := .int _ _) rfl) ?_
        refine ops_nil ?_
        refine ok_drw Try.mixed ?_
        first
          | refine d1 rfl rfl (lop_fieldAddr_rf (fo := 0) rfl Try.underlying39 rfl rfl Try.sizeOf3 (by decide)) ?_
          | refine d1 rfl rfl (lop_fieldAddr_fp (fo := 0) rfl Try.underlying39 rfl rfl Try.sizeOf3 (by decide) rfl) ?_
        first
          | refine d1 rfl rfl (lop_load_rf rfl rfl Try.isAgg3 rfl) ?_
          | refine d1 rfl rfl (lop_load_fp rfl Try.isAgg3 rfl) ?_
        refine d1 rfl rfl (lop_move (v := .int _ _) rfl) ?_
        refine d1 rfl rfl (lop_move (v := .int _ _) rfl) ?_
        first
          | refine d1 rfl rfl (lop_move (v := .sl _ _) rfl) ?_
          | refine d1 rfl rfl (lop_move (v := .os _ _ _ _) rfl) ?_
          | refine d1 rfl rfl (lop_move (v := .z0) rfl) ?_
        refine d1 rfl rfl (lop_move (v := .int _ _) rfl) ?_
        refine d1 rfl rfl (lop_move (v := .int _ _) rfl) ?_
        refine d1 rfl rfl (lop_call rfl Try.call20 (FrzL.tf rfl) (.inl rfl) (plan_Live_ac hl (thirdF x.vols[i].home x.vols[i + 1 + kk].home).1 nodes)) ?_
        refine d1 rfl rfl (lop_call rfl Try.call45 (FrzL.tf rfl) (.inl rfl) (site_Spread_ac hR x.vols[i].id (thirdF x.vols[i].home x.vols[i + 1 + kk].home).1 14 nodes hv.id (liveL_le l _ nodes))) ?_
        refine d1 rfl rfl (lop_move (v := .tup _) rfl) ?_
        refine d1 rfl rfl (lop_extract rfl rfl) ?_
        refine d1 rfl rfl (lop_extract rfl rfl) ?_
        first
          | refine d1 rfl rfl (lop_assign (v := .sl _ _) rfl) ?_
          | refine d1 rfl rfl (lop_assign (v := .os _ _ _ _) rfl) ?_
          | refine d1 rfl rfl (lop_assign (v := .z0) rfl) ?_
        refine d1 rfl rfl (lop_assign (v := .int _ _) rfl) ?_
        refine dr_nil (by kernel_rfl) ?_
        refine ok_reg ?_
        refine s1 rfl (lop_move (v := .int _ _) rfl) ?_
        refine s1 rfl (lop_eql rfl rfl) ?_
        refine ops_nil ?_
        first
          | refine ok_if _ rfl rfl (fun h_t65 => ?_) (fun h_t65 => ?_)
          | refine ok_cond rfl rfl (fun h_t65 => ?_) (fun h_t65 => ?_)
        · refine ok_reg ?_
          first
            | refine s1 rfl (lop_fieldAddr_rf (fo := 0) rfl Try.underlying39 rfl rfl Try.sizeOf3 (by decide)) ?_
            | refine s1 rfl (lop_fieldAddr_fp (fo := 0) rfl Try.underlying39 rfl rfl Try.sizeOf3 (by decide) rfl) ?_
          first
            | refine s1 rfl (lop_load_rf rfl rfl Try.isAgg3 rfl) ?_
            | refine s1 rfl (lop_load_fp rfl Try.isAgg3 rfl) ?_
          first
            | refine s1 rfl (lop_fieldAddr_rf (fo := 0) rfl Try.underlying39 rfl rfl Try.sizeOf3 (by decide)) ?_
            | refine s1 rfl (lop_fieldAddr_fp (fo := 0) rfl Try.underlying39 rfl rfl Try.sizeOf3 (by decide) rfl) ?_
          first
            | refine s1 rfl (lop_load_rf rfl rfl Try.isAgg3 rfl) ?_
            | refine s1 rfl (lop_load_fp rfl Try.isAgg3 rfl) ?_
          first
            | refine s1 rfl (lop_move (v := .sl _ _) rfl) ?_
            | refine s1 rfl (lop_move (v := .os _ _ _ _) rfl) ?_
            | refine s1 rfl (lop_move (v := .z0) rfl) ?_
          first
            | refine s1 rfl (lop_buildK (cs := [.int _ _, .int _ _, .int _ _, .int _ _, .sl _ _, .int _ _, .int _ _]) Try.underlying34 Try.zeroValue34 rfl rfl places34 rfl) ?_
            | refine s1 rfl (lop_buildK (cs := [.int _ _, .int _ _, .int _ _, .int _ _, .os _ _ _ _, .int _ _, .int _ _]) Try.underlying34 Try.zeroValue34 rfl rfl places34 rfl) ?_
            | refine s1 rfl (lop_buildK (cs := [.int _ _, .int _ _, .int _ _, .int _ _, .z0, .int _ _, .int _ _]) Try.underlying34 Try.zeroValue34 rfl rfl places34 rfl) ?_
          first
            | refine s0w rfl (lop_storeK (v := .agg [.int _ _, .int _ _, .int _ _, .int _ _, _, .int _ _, .int _ _]) (cs' := [.int _ _, .int _ _, .int _ _, .int _ _, _, .int _ _, .int _ _]) (f' := true) rfl rfl rfl Try.sizeOf34 rfl rfl rfl rfl rfl) ?_
            | refine s0w rfl (lop_storeK (v := .agg [.int _ _, .int _ _, .int _ _, .int _ _, _, .int _ _, .int _ _]) (cs' := [.int _ _, .int _ _, .int _ _, .int _ _, _, .int _ _, .int _ _]) (f' := false) rfl rfl rfl Try.sizeOf34 rfl rfl rfl rfl rfl) ?_
          refine s1 rfl (lop_assign (v := .bool _) rfl) ?_
          refine ops_nil ?_
          refine ok_ret ?_
          have e1 : pairF l nodes x.vols = (⟨3, x.vols[i].id, 0, x.vols[i + 1 + kk].id, (spreadF x.vols[i].id (thirdF x.vols[i].home x.vols[i + 1 + kk].home).1 14 nodes (liveL l (thirdF x.vols[i].home x.vols[i + 1 + kk].home).1 nodes)).1, ⟨0, 0⟩⟩, true) := by
            unfold pairF
            rw [findSome_at (f := pairG l nodes x.vols) h_t20 (by unfold pairG; rw [getD_at _ h_t20, if_pos h_t26, if_neg h_t35, hgw, if_pos h_t65]) hn]
          exact ret_gen (R := [6]) ⟨_, _, rfl, ⟨rfl, 6, 0, _, _, rfl, rfl, .inl ⟨7, Try.isAgg34, Try.sizeOf34, Nat.le_of_ble_eq_true rfl, rfl⟩⟩, _, _, rfl, ⟨rfl, rfl⟩, rfl⟩ (by rw [e1]; exact .tup (.cons (.agg (fzL_sound _ [6] _ rfl)) (.cons (.tf rfl) .nil))) (fun t ht => by simp at ht; subst ht; exact Option.some_ne_none _)
        · refine ok_skip ?_
          refine ok_region ?_
          refine s1 rfl (lop_bop rfl rfl rfl (bop_add (by omega) (by omega))) ?_
          refine s1 rfl (lop_move (v := .int _ _) rfl) ?_
          refine ops_nil ?_
          exact ⟨⟨i + 1, by omega, lt_step (f := fun j => pairG l nodes x.vols j = none) hn (by unfold pairG; rw [getD_at _ h_t20, if_pos h_t26, if_neg h_t35, hgw, if_neg h_t65])⟩, by simp only; omega, le_mk ⟨rfl, rfl, rfl, rfl, rfl, rfl, rfl, trivial⟩ ⟨.inr rfl, .inr rfl, trivial⟩ rfl⟩
  · refine ok_exit ?_
    refine ok_reg ?_
    refine s1 rfl (lop_buildK (cs := [.int _ _, .int _ _, .int _ _, .int _ _, .z0, .int _ _, .int _ _]) Try.underlying34 Try.zeroValue34 rfl rfl places34 rfl) ?_
    first
      | refine s0w rfl (lop_storeK (v := .agg [.int _ _, .int _ _, .int _ _, .int _ _, _, .int _ _, .int _ _]) (cs' := [.int _ _, .int _ _, .int _ _, .int _ _, _, .int _ _, .int _ _]) (f' := true) rfl rfl rfl Try.sizeOf34 rfl rfl rfl rfl rfl) ?_
      | refine s0w rfl (lop_storeK (v := .agg [.int _ _, .int _ _, .int _ _, .int _ _, _, .int _ _, .int _ _]) (cs' := [.int _ _, .int _ _, .int _ _, .int _ _, _, .int _ _, .int _ _]) (f' := false) rfl rfl rfl Try.sizeOf34 rfl rfl rfl rfl rfl) ?_
    refine s1 rfl (lop_assign (v := .bool _) rfl) ?_
    refine ops_nil ?_
    refine ok_ret ?_
    have e1 : pairF l nodes x.vols = (.zero, false) := by unfold pairF; rw [findSome_no (fun j hj => hn j (by omega))]
    exact ret_gen (R := [6]) ⟨_, _, rfl, ⟨rfl, 6, 0, _, _, rfl, rfl, .inl ⟨7, Try.isAgg34, Try.sizeOf34, Nat.le_of_ble_eq_true rfl, rfl⟩⟩, _, _, rfl, ⟨rfl, rfl⟩, rfl⟩ (by rw [e1]; exact .tup (.cons (.agg (fzL_sound _ [6] _ rfl)) (.cons (.tf rfl) .nil))) (fun t ht => by simp at ht; subst ht; exact Option.some_ne_none _)

end Go.Proofs
