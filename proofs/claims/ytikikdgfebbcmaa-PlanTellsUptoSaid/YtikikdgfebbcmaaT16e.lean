/- Chapter 16: walks. Printed by gen.py. -/
import Derived.Test.YtikikdgfebbcmaaT16d
set_option linter.unusedVariables false
set_option linter.unusedSimpArgs false
set_option maxRecDepth 100000
namespace Go.Proofs
open Go.Hg

theorem plan_encode_ac (hR : RingOk) (x : IdxD) (hx : VolsOk x.vols) {l : List InvD} (hl : InvsOk l) (nodes : Int) : AC Try.prog 29 [.agg x.enc, rowOf InvD.enc l, i64 nodes] (.tup [.agg (encodeF l nodes x.vols).1.enc, .bool (encodeF l nodes x.vols).2]) := by
  have hvl := hx.1
  refine AC.intro Try.func29 rfl (Nat.le_of_ble_eq_true rfl) ?_
  refine ok_reg ?_
  first
    | refine s1w rfl (lop_box (t := 3) (v := .agg [_, _, _]) (f := true) (cs := [_, _, _]) rfl rfl rfl rfl (fun h => by cases h)) rfl ?_
    | refine s1w rfl (lop_box (t := 3) (v := .agg [_, _, _]) (f := false) (cs := [_, _, _]) rfl rfl rfl rfl (fun _ => rfl)) rfl ?_
  refine s1w rfl (lop_new (t := 6) (cs := [.int _ _, .int _ _, .int _ _, .int _ _, .z0, .int _ _, .int _ _]) Try.zeroValue34 rfl rfl rfl rfl) rfl ?_
  refine s1 rfl (lop_assign (v := .bool _) rfl) ?_
  refine ops_nil ?_
  refine ok_seq ?_
  refine ok_reg ?_
  first
    | refine s1 rfl (lop_fieldAddr_rf (fo := 0) rfl Try.underlying26 rfl rfl Try.sizeOf22 (by decide)) ?_
    | refine s1 rfl (lop_fieldAddr_fp (fo := 0) rfl Try.underlying26 rfl rfl Try.sizeOf22 (by decide) rfl) ?_
  first
    | refine s1 rfl (lop_load_rf rfl rfl Try.isAgg22 rfl) ?_
    | refine s1 rfl (lop_load_fp rfl Try.isAgg22 rfl) ?_
  refine s1 rfl (lop_len rfl Try.underlying22 ⟨⟨_, rfl⟩, rfl⟩) ?_
  refine s1 rfl (lop_move (v := .int _ _) rfl) ?_
  refine ops_nil ?_
  refine ok_block ?_
  refine ok_loop (ι := {i : Nat // i ≤ x.vols.length ∧ ∀ j, (h : j < x.vols.length) → j < i → encP l nodes x.vols[j] = false}) (fun i => ⟨[(1, rowOf InvD.enc l), (2, i64 nodes), (6, .rf 6 0), (13, rowOf VolD.enc x.vols), (14, i64 x.vols.length), (15, i64 i.1)], [(6, some (true, actZ))], 44⟩) (fun i => x.vols.length - i.1) (⟨0, Nat.zero_le _, fun _ _ h => absurd h (Nat.not_lt_zero _)⟩) ?_ ?_
  · exact le_mk ⟨rfl, rfl, rfl, rfl, rfl, rfl, trivial⟩ ⟨.inr rfl, trivial⟩ rfl
  rintro ⟨i, hi, hn⟩
  dsimp only
  refine ok_reg ?_
  refine s1 rfl (lop_lss rfl rfl) ?_
  refine ops_nil ?_
  refine ok_seq ?_
  first
    | refine ok_if _ rfl rfl (fun h_t16 => ?_) (fun h_t16 => ?_)
    | refine ok_cond rfl rfl (fun h_t16 => ?_) (fun h_t16 => ?_)
  · have h_t16 : i < x.vols.length := Int.ofNat_lt.1 h_t16
    have hv := hx.2 x.vols[i] (List.getElem_mem h_t16)
    refine ok_skip ?_
    refine ok_seq ?_
    refine ok_block ?_
    refine ok_reg ?_
    first
      | refine s1 rfl (lop_indexAddr_os rfl rfl Try.underlying22 Try.sizeOf39 rfl h_t16) ?_
      | refine s1 rfl (lop_indexAddr_sl rfl rfl Try.underlying22 Try.sizeOf39 rfl h_t16 (flat_at VolD.len h_t16) (flat_ne VolD.len (by decide) h_t16)) ?_
    first
      | refine s1 rfl (lop_load_rf_agg rfl rfl Try.isAgg39 Try.sizeOf39 (by rw [List.length_append, VolD.len]; omega) (by rw [List.take_append_of_le_length (by rw [VolD.len]; omega), List.take_of_length_le (by rw [VolD.len]; omega)])) ?_
      | refine s1 rfl (lop_load_fp_agg rfl Try.isAgg39 Try.sizeOf39 (by rw [List.length_append, VolD.len]; omega) (by rw [List.take_append_of_le_length (by rw [VolD.len]; omega), List.take_of_length_le (by rw [VolD.len]; omega)])) ?_
    refine s1w rfl (lop_new (t := 9) (cs := [.int _ _, .int _ _, .int _ _, .int _ _, .int _ _, .z0, .z0, .int _ _, .int _ _]) Try.zeroValue39 rfl rfl rfl rfl) rfl ?_
    first
      | refine s0w rfl (lop_storeK (v := .agg [.int _ _, .int _ _, .int _ _, .int _ _, .int _ _, _, _, .int _ _, .int _ _]) (cs' := [.int _ _, .int _ _, .int _ _, .int _ _, .int _ _, _, _, .int _ _, .int _ _]) (f' := true) rfl rfl rfl Try.sizeOf39 rfl rfl rfl rfl rfl) ?_
      | refine s0w rfl (lop_storeK (v := .agg [.int _ _, .int _ _, .int _ _, .int _ _, .int _ _, _, _, .int _ _, .int _ _]) (cs' := [.int _ _, .int _ _, .int _ _, .int _ _, .int _ _, _, _, .int _ _, .int _ _]) (f' := false) rfl rfl rfl Try.sizeOf39 rfl rfl rfl rfl rfl) ?_
    refine ops_nil ?_
    refine ok_seq ?_
    refine ok_reg ?_
    first
      | refine s1 rfl (lop_fieldAddr_rf (fo := 4) rfl Try.underlying39 rfl rfl Try.sizeOf3 (by decide)) ?_
      | refine s1 rfl (lop_fieldAddr_fp (fo := 4) rfl Try.underlying39 rfl rfl Try.sizeOf3 (by decide) rfl) ?_
    first
      | refine s1 rfl (lop_load_rf rfl rfl Try.isAgg3 rfl) ?_
      | refine s1 rfl (lop_load_fp rfl Try.isAgg3 rfl) ?_
    refine s1 rfl (lop_neq rfl rfl) ?_
    refine ops_nil ?_
    first
      | refine ok_if _ rfl rfl (fun h_t21 => ?_) (fun h_t21 => ?_)
      | refine ok_cond rfl rfl (fun h_t21 => ?_) (fun h_t21 => ?_)
    · refine ok_exit ?_
      refine ok_region ?_
      refine s1 rfl (lop_bop rfl rfl rfl (bop_add (by omega) (by omega))) ?_
      refine s1 rfl (lop_move (v := .int _ _) rfl) ?_
      refine ops_nil ?_
      exact ⟨⟨i + 1, by omega, none_step (p := encP l nodes) hn h_t16 (by unfold encP; simp [h_t21])⟩, by simp only; omega, le_mk ⟨rfl, rfl, rfl, rfl, rfl, rfl, trivial⟩ ⟨.inr rfl, trivial⟩ rfl⟩
    · have h_t21 : x.vols[i].phase = 2 := Decidable.byContradiction h_t21
      refine ok_skip ?_
      refine ok_drw Try.mixed ?_
      first
        | refine d1 rfl rfl (lop_fieldAddr_rf (fo := 0) rfl Try.underlying39 rfl rfl Try.sizeOf3 (by decide)) ?_
        | refine d1 rfl rfl (lop_fieldAddr_fp (fo := 0) rfl Try.underlying39 rfl rfl Try.sizeOf3 (by decide) rfl) ?_
      first
        | refine d1 rfl rfl (lop_load_rf rfl rfl Try.isAgg3 rfl) ?_
        | refine d1 rfl rfl (lop_load_fp rfl Try.isAgg3 rfl) ?_
      first
        | refine d1 rfl rfl (lop_fieldAddr_rf (fo := 1) rfl Try.underlying39 rfl rfl Try.sizeOf3 (by decide)) ?_
        | refine d1 rfl rfl (lop_fieldAddr_fp (fo := 1) rfl Try.underlying39 rfl rfl Try.sizeOf3 (by decide) rfl) ?_
      first
        | refine d1 rfl rfl (lop_load_rf rfl rfl Try.isAgg3 rfl) ?_
        | refine d1 rfl rfl (lop_load_fp rfl Try.isAgg3 rfl) ?_
      refine d1 rfl rfl (lop_move (v := .int _ _) rfl) ?_
      first
        | refine d1 rfl rfl (lop_move (v := .sl _ _) rfl) ?_
        | refine d1 rfl rfl (lop_move (v := .os _ _ _ _) rfl) ?_
        | refine d1 rfl rfl (lop_move (v := .z0) rfl) ?_
      first
        | refine d1 rfl rfl (lop_fieldAddr_rf (fo := 1) rfl Try.underlying39 rfl rfl Try.sizeOf3 (by decide)) ?_
        | refine d1 rfl rfl (lop_fieldAddr_fp (fo := 1) rfl Try.underlying39 rfl rfl Try.sizeOf3 (by decide) rfl) ?_
      first
        | refine d1 rfl rfl (lop_load_rf rfl rfl Try.isAgg3 rfl) ?_
        | refine d1 rfl rfl (lop_load_fp rfl Try.isAgg3 rfl) ?_
      refine d1 rfl rfl (lop_move (v := .int _ _) rfl) ?_
      refine d1 rfl rfl (lop_call rfl Try.call20 (FrzL.tf rfl) (.inl rfl) (plan_Live_ac hl x.vols[i].home nodes)) ?_
      refine d1 rfl rfl (lop_call rfl Try.call45 (FrzL.tf rfl) (.inl rfl) (site_Spread_ac hR x.vols[i].id x.vols[i].home 14 nodes hv.id (liveL_le l x.vols[i].home nodes))) ?_
      refine d1 rfl rfl (lop_move (v := .tup _) rfl) ?_
      refine d1 rfl rfl (lop_extract rfl rfl) ?_
      refine d1 rfl rfl (lop_extract rfl rfl) ?_
      first
        | refine d1 rfl rfl (lop_assign (v := .sl _ _) rfl) ?_
        | refine d1 rfl rfl (lop_assign (v := .os _ _ _ _) rfl) ?_
        | refine d1 rfl rfl (lop_assign (v := .z0) rfl) ?_
      refine d1 rfl rfl (lop_assign (v := .int _ _) rfl) ?_
      refine dr_nil (by kernel_rfl) ?_
      refine ok_reg ?_
      refine s1 rfl (lop_move (v := .int _ _) rfl) ?_
      refine s1 rfl (lop_eql rfl rfl) ?_
      refine ops_nil ?_
      first
        | refine ok_if _ rfl rfl (fun h_t37 => ?_) (fun h_t37 => ?_)
        | refine ok_cond rfl rfl (fun h_t37 => ?_) (fun h_t37 => ?_)
      · refine ok_reg ?_
        first
          | refine s1 rfl (lop_fieldAddr_rf (fo := 0) rfl Try.underlying39 rfl rfl Try.sizeOf3 (by decide)) ?_
          | refine s1 rfl (lop_fieldAddr_fp (fo := 0) rfl Try.underlying39 rfl rfl Try.sizeOf3 (by decide) rfl) ?_
        first
          | refine s1 rfl (lop_load_rf rfl rfl Try.isAgg3 rfl) ?_
          | refine s1 rfl (lop_load_fp rfl Try.isAgg3 rfl) ?_
        first
          | refine s1 rfl (lop_move (v := .sl _ _) rfl) ?_
          | refine s1 rfl (lop_move (v := .os _ _ _ _) rfl) ?_
          | refine s1 rfl (lop_move (v := .z0) rfl) ?_
        first
          | refine s1 rfl (lop_buildK (cs := [.int _ _, .int _ _, .int _ _, .int _ _, .sl _ _, .int _ _, .int _ _]) Try.underlying34 Try.zeroValue34 rfl rfl places34 rfl) ?_
          | refine s1 rfl (lop_buildK (cs := [.int _ _, .int _ _, .int _ _, .int _ _, .os _ _ _ _, .int _ _, .int _ _]) Try.underlying34 Try.zeroValue34 rfl rfl places34 rfl) ?_
          | refine s1 rfl (lop_buildK (cs := [.int _ _, .int _ _, .int _ _, .int _ _, .z0, .int _ _, .int _ _]) Try.underlying34 Try.zeroValue34 rfl rfl places34 rfl) ?_
        first
          | refine s0w rfl (lop_storeK (v := .agg [.int _ _, .int _ _, .int _ _, .int _ _, _, .int _ _, .int _ _]) (cs' := [.int _ _, .int _ _, .int _ _, .int _ _, _, .int _ _, .int _ _]) (f' := true) rfl rfl rfl Try.sizeOf34 rfl rfl rfl rfl rfl) ?_
          | refine s0w rfl (lop_storeK (v := .agg [.int _ _, .int _ _, .int _ _, .int _ _, _, .int _ _, .int _ _]) (cs' := [.int _ _, .int _ _, .int _ _, .int _ _, _, .int _ _, .int _ _]) (f' := false) rfl rfl rfl Try.sizeOf34 rfl rfl rfl rfl rfl) ?_
        refine s1 rfl (lop_assign (v := .bool _) rfl) ?_
        refine ops_nil ?_
        refine ok_ret ?_
        have e1 : encodeF l nodes x.vols = (⟨2, x.vols[i].id, 0, 0, (spreadF x.vols[i].id x.vols[i].home 14 nodes (liveL l x.vols[i].home nodes)).1, ⟨0, 0⟩⟩, true) := by unfold encodeF; rw [find_at (p := encP l nodes) h_t16 (by unfold encP; simp [h_t21, h_t37]) hn]
        exact ret_gen (R := [6]) ⟨_, _, rfl, ⟨rfl, 6, 0, _, _, rfl, rfl, .inl ⟨7, Try.isAgg34, Try.sizeOf34, Nat.le_of_ble_eq_true rfl, rfl⟩⟩, _, _, rfl, ⟨rfl, rfl⟩, rfl⟩ (by rw [e1]; exact .tup (.cons (.agg (fzL_sound _ [6] _ rfl)) (.cons (.tf rfl) .nil))) (fun t ht => by simp at ht; subst ht; exact Option.some_ne_none _)
      · refine ok_skip ?_
        refine ok_region ?_
        refine s1 rfl (lop_bop rfl rfl rfl (bop_add (by omega) (by omega))) ?_
        refine s1 rfl (lop_move (v := .int _ _) rfl) ?_
        refine ops_nil ?_
        exact ⟨⟨i + 1, by omega, none_step (p := encP l nodes) hn h_t16 (by unfold encP; simp [h_t37])⟩, by simp only; omega, le_mk ⟨rfl, rfl, rfl, rfl, rfl, rfl, trivial⟩ ⟨.inr rfl, trivial⟩ rfl⟩
  · refine ok_exit ?_
    refine ok_reg ?_
    refine s1 rfl (lop_buildK (cs := [.int _ _, .int _ _, .int _ _, .int _ _, .z0, .int _ _, .int _ _]) Try.underlying34 Try.zeroValue34 rfl rfl places34 rfl) ?_
    first
      | refine s0w rfl (lop_storeK (v := .agg [.int _ _, .int _ _, .int _ _, .int _ _, _, .int _ _, .int _ _]) (cs' := [.int _ _, .int _ _, .int _ _, .int _ _, _, .int _ _, .int _ _]) (f' := true) rfl rfl rfl Try.sizeOf34 rfl rfl rfl rfl rfl) ?_
      | refine s0w rfl (lop_storeK (v := .agg [.int _ _, .int _ _, .int _ _, .int _ _, _, .int _ _, .int _ _]) (cs' := [.int _ _, .int _ _, .int _ _, .int _ _, _, .int _ _, .int _ _]) (f' := false) rfl rfl rfl Try.sizeOf34 rfl rfl rfl rfl rfl) ?_
    refine s1 rfl (lop_assign (v := .bool _) rfl) ?_
    refine ops_nil ?_
    refine ok_ret ?_
    have e1 : encodeF l nodes x.vols = (.zero, false) := by unfold encodeF; rw [find_no (p := encP l nodes) (fun j hj => hn j hj (by omega))]
    exact ret_gen (R := [6]) ⟨_, _, rfl, ⟨rfl, 6, 0, _, _, rfl, rfl, .inl ⟨7, Try.isAgg34, Try.sizeOf34, Nat.le_of_ble_eq_true rfl, rfl⟩⟩, _, _, rfl, ⟨rfl, rfl⟩, rfl⟩ (by rw [e1]; exact .tup (.cons (.agg (fzL_sound _ [6] _ rfl)) (.cons (.tf rfl) .nil))) (fun t ht => by simp at ht; subst ht; exact Option.some_ne_none _)

end Go.Proofs
