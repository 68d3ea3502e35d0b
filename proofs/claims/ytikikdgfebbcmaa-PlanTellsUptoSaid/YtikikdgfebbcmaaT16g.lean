/- Chapter 16: walks. Printed by gen.py. -/
import Derived.Test.YtikikdgfebbcmaaT16f
import Derived.Test.YtikikdgfebbcmaaHgQ
set_option linter.unusedVariables false
set_option linter.unusedSimpArgs false
set_option maxRecDepth 100000
namespace Go.Proofs
open Go.Hg

theorem clone_Place_ac {l : List PlD} (hl : l.length ≤ 1048576) : ACH Try.prog 54 [rowOf PlD.enc l] [] (.os 500 0 2 l.length) [(500, some (true, l.flatMap PlD.enc))] [.undef] := by
  refine ACH.intro Try.func54 rfl (Nat.le_of_ble_eq_true rfl) (Nat.le_of_ble_eq_true rfl) rfl ?_
  refine ok_reg ?_
  first
    | refine s1 rfl (lop_assign (v := .sl _ _) rfl) ?_
    | refine s1 rfl (lop_assign (v := .os _ _ _ _) rfl) ?_
    | refine s1 rfl (lop_assign (v := .z0) rfl) ?_
  refine ops_nil ?_
  refine ok_seq ?_
  refine ok_reg ?_
  first
    | refine s1 rfl (lop_move (v := .sl _ _) rfl) ?_
    | refine s1 rfl (lop_move (v := .os _ _ _ _) rfl) ?_
    | refine s1 rfl (lop_move (v := .z0) rfl) ?_
  refine op_slnil rfl rfl Try.underlying30 (fun hnil => ?_) ?_
  · refine ops_nil ?_
    refine ok_true rfl rfl ?_
    refine ok_reg ?_
    first
      | refine s1 rfl (lop_assign (v := .sl _ _) rfl) ?_
      | refine s1 rfl (lop_assign (v := .os _ _ _ _) rfl) ?_
      | refine s1 rfl (lop_assign (v := .z0) rfl) ?_
    refine ops_nil ?_
    refine ok_ret ?_
    have hl0 : l = [] := by cases l with
      | nil => rfl
      | cons x l => simp [PlD.enc] at hnil
    subst hl0
    exact ⟨[.os 500 0 2 0], ⟨[(2, .os 500 0 2 0)], [(500, some (true, []))], 8⟩, le_ren [(500, none)] ⟨rfl, trivial⟩ rfl ⟨⟨rfl, rfl⟩, trivial⟩ rfl rfl rfl, ⟨_, _, rfl, ⟨rfl, rfl⟩, rfl⟩, rfl, rfl, fun i v h => by match i with
                                                                                                                                                                 | 0 => simp at h; subst h; rfl
                                                                                                                                                                 | i + 1 => simp at h⟩
  · refine ops_nil ?_
    refine ok_false rfl rfl ?_
    refine ok_skip ?_
    refine ok_reg ?_
    first
      | refine s1w rfl (lop_buildSlice (t := 5) (cs := []) (f := true) Try.underlying30 Try.sizeOf41 (by decide) Try.zeroValue41 rfl rfl rfl (by decide) rfl (.inl rfl) rfl (fun h => by cases h)) rfl ?_
      | refine s1w rfl (lop_buildSlice (t := 5) (cs := []) (f := false) Try.underlying30 Try.sizeOf41 (by decide) Try.zeroValue41 rfl rfl rfl (by decide) rfl (.inl rfl) rfl (fun _ => rfl)) rfl ?_
    first
      | refine s1 rfl (lop_move (v := .sl _ _) rfl) ?_
      | refine s1 rfl (lop_move (v := .os _ _ _ _) rfl) ?_
      | refine s1 rfl (lop_move (v := .z0) rfl) ?_
    first
      | refine s2w rfl (lop_append_os (t' := 7) (R := []) rfl rfl rfl (by simp) (.sl Try.underlying30 (flat_length PlD.len _)) Try.underlying30 info41 rfl (by omega) (by omega)) rfl ?_
      | refine s1w rfl (lop_append_z0 (t' := 7) (R := []) rfl rfl (.sl Try.underlying30 (flat_length PlD.len _)) Try.underlying30 info41 rfl (by omega) (by omega)) rfl ?_
    first
      | refine s1 rfl (lop_assign (v := .sl _ _) rfl) ?_
      | refine s1 rfl (lop_assign (v := .os _ _ _ _) rfl) ?_
      | refine s1 rfl (lop_assign (v := .z0) rfl) ?_
    refine ops_nil ?_
    refine ok_ret ?_
    exact ⟨[.os 500 0 2 l.length], ⟨[(2, .os 500 0 2 l.length)], [(500, some (true, l.flatMap PlD.enc))], 8⟩, le_ren [(500, some 7)] ⟨congrArg (V.os 7 0 2) (Nat.zero_add _), trivial⟩ rfl ⟨⟨_, rfl, rfl⟩, trivial⟩ rfl rfl rfl, ⟨_, _, rfl, ⟨rfl, rfl⟩, rfl⟩, rfl, rfl, fun i v h => by match i with
                                                                                                                                                                 | 0 => simp at h; subst h; rfl
                                                                                                                                                                 | i + 1 => simp at h⟩

theorem plan_repair_ac (hN : NextOk) (x : IdxD) (hx : VolsOk x.vols) {l : List InvD} (hl : InvsOk l) (nodes : Int) : AC Try.prog 28 [.agg x.enc, rowOf InvD.enc l, i64 nodes] (.tup [.agg (repairF l nodes x.vols).1.enc, .bool (repairF l nodes x.vols).2]) := by
  have hvl := hx.1
  refine AC.intro Try.func28 rfl (Nat.le_of_ble_eq_true rfl) ?_
  refine ok_reg ?_
  first
    | refine s1w rfl (lop_box (t := 3) (v := .agg [_, _, _]) (f := true) (cs := [_, _, _]) rfl rfl rfl rfl (fun h => by cases h)) rfl ?_
    | refine s1w rfl (lop_box (t := 3) (v := .agg [_, _, _]) (f := false) (cs := [_, _, _]) rfl rfl rfl rfl (fun _ => rfl)) rfl ?_
  refine s1w rfl (lop_new (t := 6) (cs := [.int _ _, .int _ _, .int _ _, .int _ _, .z0, .int _ _, .int _ _]) Try.zeroValue34 rfl rfl rfl rfl) rfl ?_
  refine s1 rfl (lop_assign (v := .bool _) rfl) ?_
  refine ops_nil ?_
  refine ok_seq ?_
  refine ok_reg ?_
  first
    | refine s1 rfl (lop_fieldAddr_rf (fo := 0) rfl Try.underlying26 rfl rfl Try.sizeOf22 (by decide)) ?_
    | refine s1 rfl (lop_fieldAddr_fp (fo := 0) rfl Try.underlying26 rfl rfl Try.sizeOf22 (by decide) rfl) ?_
  first
    | refine s1 rfl (lop_load_rf rfl rfl Try.isAgg22 rfl) ?_
    | refine s1 rfl (lop_load_fp rfl Try.isAgg22 rfl) ?_
  refine s1 rfl (lop_len rfl Try.underlying22 ⟨⟨_, rfl⟩, rfl⟩) ?_
  refine s1 rfl (lop_move (v := .int _ _) rfl) ?_
  refine ops_nil ?_
  refine ok_block ?_
  refine ok_loop (ι := {i : Nat // i ≤ x.vols.length ∧ ∀ j, (h : j < x.vols.length) → j < i → repG l nodes x.vols[j] = none}) (fun i => ⟨[(1, rowOf InvD.enc l), (2, i64 nodes), (6, .rf 6 0), (15, rowOf VolD.enc x.vols), (16, i64 x.vols.length), (17, i64 i.1)], [(6, some (true, actZ))], 67⟩) (fun i => x.vols.length - i.1) (⟨0, Nat.zero_le _, fun _ _ h => absurd h (Nat.not_lt_zero _)⟩) ?_ ?_
  · exact le_mk ⟨rfl, rfl, rfl, rfl, rfl, rfl, trivial⟩ ⟨.inr rfl, trivial⟩ rfl
  rintro ⟨i, hi, hn⟩
  dsimp only
  refine ok_reg ?_
  refine s1 rfl (lop_lss rfl rfl) ?_
  refine ops_nil ?_
  refine ok_seq ?_
  first
    | refine ok_if _ rfl rfl (fun h_t18 => ?_) (fun h_t18 => ?_)
    | refine ok_cond rfl rfl (fun h_t18 => ?_) (fun h_t18 => ?_)
  · have h_t18 : i < x.vols.length := Int.ofNat_lt.1 h_t18
    have hv := hx.2 x.vols[i] (List.getElem_mem h_t18)
    have hvp := hv.places
    refine ok_skip ?_
    refine ok_seq ?_
    refine ok_block ?_
    refine ok_reg ?_
    first
      | refine s1 rfl (lop_indexAddr_os rfl rfl Try.underlying22 Try.sizeOf39 rfl h_t18) ?_
      | refine s1 rfl (lop_indexAddr_sl rfl rfl Try.underlying22 Try.sizeOf39 rfl h_t18 (flat_at VolD.len h_t18) (flat_ne VolD.len (by decide) h_t18)) ?_
    first
      | refine s1 rfl (lop_load_rf_agg rfl rfl Try.isAgg39 Try.sizeOf39 (by rw [List.length_append, VolD.len]; omega) (by rw [List.take_append_of_le_length (by rw [VolD.len]; omega), List.take_of_length_le (by rw [VolD.len]; omega)])) ?_
      | refine s1 rfl (lop_load_fp_agg rfl Try.isAgg39 Try.sizeOf39 (by rw [List.length_append, VolD.len]; omega) (by rw [List.take_append_of_le_length (by rw [VolD.len]; omega), List.take_of_length_le (by rw [VolD.len]; omega)])) ?_
    refine s1w rfl (lop_new (t := 9) (cs := [.int _ _, .int _ _, .int _ _, .int _ _, .int _ _, .z0, .z0, .int _ _, .int _ _]) Try.zeroValue39 rfl rfl rfl rfl) rfl ?_
    first
      | refine s0w rfl (lop_storeK (v := .agg [.int _ _, .int _ _, .int _ _, .int _ _, .int _ _, _, _, .int _ _, .int _ _]) (cs' := [.int _ _, .int _ _, .int _ _, .int _ _, .int _ _, _, _, .int _ _, .int _ _]) (f' := true) rfl rfl rfl Try.sizeOf39 rfl rfl rfl rfl rfl) ?_
      | refine s0w rfl (lop_storeK (v := .agg [.int _ _, .int _ _, .int _ _, .int _ _, .int _ _, _, _, .int _ _, .int _ _]) (cs' := [.int _ _, .int _ _, .int _ _, .int _ _, .int _ _, _, _, .int _ _, .int _ _]) (f' := false) rfl rfl rfl Try.sizeOf39 rfl rfl rfl rfl rfl) ?_
    refine ops_nil ?_
    refine ok_reg ?_
    first
      | refine s1 rfl (lop_load_rf_agg (ys := [.int _ _, .int _ _, .int _ _, .int _ _, .int _ _, _, _, .int _ _, .int _ _]) rfl rfl Try.isAgg39 Try.sizeOf39 (Nat.le_of_ble_eq_true rfl) rfl) ?_
      | refine s1 rfl (lop_load_fp_agg (ys := [.int _ _, .int _ _, .int _ _, .int _ _, .int _ _, _, _, .int _ _, .int _ _]) rfl Try.isAgg39 Try.sizeOf39 (Nat.le_of_ble_eq_true rfl) rfl) ?_
    first
      | refine s1 rfl (lop_move (v := .sl _ _) rfl) ?_
      | refine s1 rfl (lop_move (v := .os _ _ _ _) rfl) ?_
      | refine s1 rfl (lop_move (v := .z0) rfl) ?_
    refine s1 rfl (lop_call rfl Try.call23 (FrzL.tf rfl) (.inl rfl) (plan_Lost_ac x.vols[i] hv hl)) ?_
    first
      | refine s1 rfl (lop_assign (v := .sl _ _) rfl) ?_
      | refine s1 rfl (lop_assign (v := .os _ _ _ _) rfl) ?_
      | refine s1 rfl (lop_assign (v := .z0) rfl) ?_
    refine ops_nil ?_
    refine ok_seq ?_
    refine ok_reg ?_
    first
      | refine s1 rfl (lop_move (v := .sl _ _) rfl) ?_
      | refine s1 rfl (lop_move (v := .os _ _ _ _) rfl) ?_
      | refine s1 rfl (lop_move (v := .z0) rfl) ?_
    refine s1 rfl (lop_len rfl Try.underlying74 ⟨⟨_, rfl⟩, rfl⟩) ?_
    refine s1 rfl (lop_eql rfl rfl) ?_
    refine ops_nil ?_
    first
      | refine ok_if _ rfl rfl (fun h_t26 => ?_) (fun h_t26 => ?_)
      | refine ok_cond rfl rfl (fun h_t26 => ?_) (fun h_t26 => ?_)
    · refine ok_exit ?_
      refine ok_region ?_
      refine s1 rfl (lop_bop rfl rfl rfl (bop_add (by omega) (by omega))) ?_
      refine s1 rfl (lop_move (v := .int _ _) rfl) ?_
      refine ops_nil ?_
      exact ⟨⟨i + 1, by omega, noneL_step (f := repG l nodes) hn h_t18 (repG_none h_t26)⟩, by simp only; omega, le_mk ⟨rfl, rfl, rfl, rfl, rfl, rfl, trivial⟩ ⟨.inr rfl, trivial⟩ rfl⟩
    · obtain ⟨j, hj, h0, he⟩ := lostL_head h_t26
      refine ok_skip ?_
      refine ok_drw Try.mixed ?_
      first
        | refine d1 rfl rfl (lop_fieldAddr_rf (fo := 6) rfl Try.underlying39 rfl rfl Try.sizeOf30 (by decide)) ?_
        | refine d1 rfl rfl (lop_fieldAddr_fp (fo := 6) rfl Try.underlying39 rfl rfl Try.sizeOf30 (by decide) rfl) ?_
      first
        | refine d1 rfl rfl (lop_load_rf rfl rfl Try.isAgg30 rfl) ?_
        | refine d1 rfl rfl (lop_load_fp rfl Try.isAgg30 rfl) ?_
      first
        | refine d1 rfl rfl (lop_move (v := .sl _ _) rfl) ?_
        | refine d1 rfl rfl (lop_move (v := .os _ _ _ _) rfl) ?_
        | refine d1 rfl rfl (lop_move (v := .z0) rfl) ?_
      first
        | refine d1 rfl rfl (lop_indexAddr_os rfl rfl Try.underlying74 Try.sizeOf3 rfl h0) ?_
        | refine d1 rfl rfl (lop_indexAddr_sl rfl rfl Try.underlying74 Try.sizeOf3 rfl h0 (flat_at intEnc_len h0) (flat_ne intEnc_len (by decide) h0)) ?_
      refine d1 rfl rfl (lop_load_fp (v := i64 (lostL x.vols[i] l)[0]) rfl Try.isAgg3 rfl) ?_
      first
        | refine d1 rfl rfl (lop_indexAddr_os rfl rfl Try.underlying30 Try.sizeOf41 he hj) ?_
        | refine d1 rfl rfl (lop_indexAddr_sl rfl rfl Try.underlying30 Try.sizeOf41 he hj (flat_at PlD.len hj) (flat_ne PlD.len (by decide) hj)) ?_
      first
        | refine d1 rfl rfl (lop_load_rf_agg rfl rfl Try.isAgg41 Try.sizeOf41 (by rw [List.length_append, PlD.len]; omega) (by rw [List.take_append_of_le_length (by rw [PlD.len]; omega), List.take_of_length_le (by rw [PlD.len]; omega)])) ?_
        | refine d1 rfl rfl (lop_load_fp_agg rfl Try.isAgg41 Try.sizeOf41 (by rw [List.length_append, PlD.len]; omega) (by rw [List.take_append_of_le_length (by rw [PlD.len]; omega), List.take_of_length_le (by rw [PlD.len]; omega)])) ?_
      refine d1w rfl rfl (lop_new (t := 11) (cs := [.int _ _, .int _ _]) Try.zeroValue41 rfl rfl rfl rfl) ?_
      first
        | refine d0w rfl rfl (lop_storeK (v := .agg [.int _ _, .int _ _]) (cs' := [.int _ _, .int _ _]) (f' := true) rfl rfl rfl Try.sizeOf41 rfl rfl rfl rfl rfl) ?_
        | refine d0w rfl rfl (lop_storeK (v := .agg [.int _ _, .int _ _]) (cs' := [.int _ _, .int _ _]) (f' := false) rfl rfl rfl Try.sizeOf41 rfl rfl rfl rfl rfl) ?_
      refine dr_nil (by kernel_rfl) ?_
      refine ok_seq ?_
      refine ok_reg ?_
      first
        | refine s1 rfl (lop_move (v := .sl _ _) rfl) ?_
        | refine s1 rfl (lop_move (v := .os _ _ _ _) rfl) ?_
        | refine s1 rfl (lop_move (v := .z0) rfl) ?_
      first
        | refine s1 rfl (lop_load_rf_agg (ys := [.int _ _, .int _ _]) rfl rfl Try.isAgg41 Try.sizeOf41 (Nat.le_of_ble_eq_true rfl) rfl) ?_
        | refine s1 rfl (lop_load_fp_agg (ys := [.int _ _, .int _ _]) rfl Try.isAgg41 Try.sizeOf41 (Nat.le_of_ble_eq_true rfl) rfl) ?_
      refine s1 rfl (lop_call rfl Try.call48 (FrzL.tf rfl) (.inl rfl) (plan_lives_ac hl x.vols[i].places[j])) ?_
      refine s1 rfl (lop_not rfl) ?_
      refine ops_nil ?_
      first
        | refine ok_if _ rfl rfl (fun h_t37 => ?_) (fun h_t37 => ?_)
        | refine ok_cond rfl rfl (fun h_t37 => ?_) (fun h_t37 => ?_)
      · refine ok_drw Try.mixed ?_
        first
          | refine d1 rfl rfl (lop_fieldAddr_rf (fo := 6) rfl Try.underlying39 rfl rfl Try.sizeOf30 (by decide)) ?_
          | refine d1 rfl rfl (lop_fieldAddr_fp (fo := 6) rfl Try.underlying39 rfl rfl Try.sizeOf30 (by decide) rfl) ?_
        first
          | refine d1 rfl rfl (lop_load_rf rfl rfl Try.isAgg30 rfl) ?_
          | refine d1 rfl rfl (lop_load_fp rfl Try.isAgg30 rfl) ?_
        refine d1w rfl rfl (lop_callH (R := []) (nw := [500]) (W := [(500, some (true, x.vols[i].places.flatMap PlD.enc))]) rfl Try.call54 rfl (clone_Place_ac hvp) trivial rfl rfl rfl rfl rfl rfl) ?_
        first
          | refine d1 rfl rfl (lop_load_rf_agg (ys := [.int _ _, .int _ _]) rfl rfl Try.isAgg41 Try.sizeOf41 (Nat.le_of_ble_eq_true rfl) rfl) ?_
          | refine d1 rfl rfl (lop_load_fp_agg (ys := [.int _ _, .int _ _]) rfl Try.isAgg41 Try.sizeOf41 (Nat.le_of_ble_eq_true rfl) rfl) ?_
        first
          | refine d1w rfl rfl (lop_buildSlice (t := 43) (cs := [.int _ _, .int _ _]) (f := true) Try.underlying30 Try.sizeOf41 (by decide) Try.zeroValue41 rfl rfl rfl (by decide) rfl (.inr (by decide)) rfl (fun h => by cases h)) ?_
          | refine d1w rfl rfl (lop_buildSlice (t := 43) (cs := [.int _ _, .int _ _]) (f := false) Try.underlying30 Try.sizeOf41 (by decide) Try.zeroValue41 rfl rfl rfl (by decide) rfl (.inr (by decide)) rfl (fun _ => rfl)) ?_
        first
          | refine d2w rfl rfl (lop_append_os (t' := 44) rfl rfl rfl (flat_length PlD.len _) (.os Try.underlying30 (List.mem_singleton.2 rfl) rfl (Nat.le_of_ble_eq_true rfl) rfl) Try.underlying30 info41 rfl (by omega) (by omega)) ?_
          | refine d1w rfl rfl (lop_append_z0 (t' := 44) rfl rfl (.os Try.underlying30 (List.mem_singleton.2 rfl) rfl (Nat.le_of_ble_eq_true rfl) rfl) Try.underlying30 info41 rfl (by omega) (by omega)) ?_
          | refine d2w rfl rfl (lop_append_os (t' := 44) (R := []) rfl rfl rfl (flat_length PlD.len _) (.sl Try.underlying30 rfl) Try.underlying30 info41 rfl (by omega) (by omega)) ?_
          | refine d1w rfl rfl (lop_append_z0 (t' := 44) (R := []) rfl rfl (.sl Try.underlying30 rfl) Try.underlying30 info41 rfl (by omega) (by omega)) ?_
          | refine d2w rfl rfl (lop_append_os (t' := 44) (R := []) rfl rfl rfl (flat_length PlD.len _) (.z0 Try.underlying30) Try.underlying30 info41 rfl (by omega) (by omega)) ?_
          | refine d1w rfl rfl (lop_append_z0 (t' := 44) (R := []) rfl rfl (.z0 Try.underlying30) Try.underlying30 info41 rfl (by omega) (by omega)) ?_
        refine d1 rfl rfl (lop_move (v := .int _ _) rfl) ?_
        first
          | refine d1 rfl rfl (lop_move (v := .sl _ _) rfl) ?_
          | refine d1 rfl rfl (lop_move (v := .os _ _ _ _) rfl) ?_
          | refine d1 rfl rfl (lop_move (v := .z0) rfl) ?_
        first
          | refine d1 rfl rfl (lop_fieldAddr_rf (fo := 1) rfl Try.underlying39 rfl rfl Try.sizeOf3 (by decide)) ?_
          | refine d1 rfl rfl (lop_fieldAddr_fp (fo := 1) rfl Try.underlying39 rfl rfl Try.sizeOf3 (by decide) rfl) ?_
        first
          | refine d1 rfl rfl (lop_load_rf rfl rfl Try.isAgg3 rfl) ?_
          | refine d1 rfl rfl (lop_load_fp rfl Try.isAgg3 rfl) ?_
        refine d1 rfl rfl (lop_move (v := .int _ _) rfl) ?_
        refine d1 rfl rfl (lop_call rfl Try.call20 (FrzL.tf rfl) (.inl rfl) (plan_Live_ac hl x.vols[i].home nodes)) ?_
        refine d1 rfl rfl (lop_call (R := [44]) rfl Try.call53 (.cons (v' := rowOf PlD.enc (x.vols[i].places ++ [x.vols[i].places[j]])) (by unfold rowOf; rw [List.length_append]; exact .osf (List.mem_singleton.2 rfl) rfl (by simp [flat_length PlD.len]; omega) (by rw [List.drop_zero, List.take_of_length_le (by simp [flat_length PlD.len]; omega), List.flatMap_append]; rfl)) (FrzL.tf rfl)) (.inr rfl) (hN _ nodes _ (by simp; omega) (fun p hp => (List.mem_append.1 hp).elim (fun h => hv.node p h) (fun h => List.mem_singleton.1 h ▸ hv.node _ (List.getElem_mem hj))) (liveL_le l x.vols[i].home nodes))) ?_
        refine d1 rfl rfl (lop_move (v := .tup _) rfl) ?_
        refine d1 rfl rfl (lop_extract rfl rfl) ?_
        refine d1 rfl rfl (lop_extract rfl rfl) ?_
        refine d1w rfl rfl (lop_new (t := 12) (cs := [.int _ _, .int _ _]) Try.zeroValue41 rfl rfl rfl rfl) ?_
        first
          | refine d0w rfl rfl (lop_storeK (v := .agg [.int _ _, .int _ _]) (cs' := [.int _ _, .int _ _]) (f' := true) rfl rfl rfl Try.sizeOf41 rfl rfl rfl rfl rfl) ?_
          | refine d0w rfl rfl (lop_storeK (v := .agg [.int _ _, .int _ _]) (cs' := [.int _ _, .int _ _]) (f' := false) rfl rfl rfl Try.sizeOf41 rfl rfl rfl rfl rfl) ?_
        refine d1 rfl rfl (lop_assign (v := .int _ _) rfl) ?_
        refine dr_nil (by kernel_rfl) ?_
        refine ok_seq ?_
        refine ok_reg ?_
        refine s1 rfl (lop_move (v := .int _ _) rfl) ?_
        refine s1 rfl (lop_neq rfl rfl) ?_
        refine ops_nil ?_
        first
          | refine ok_if _ rfl rfl (fun h_t55 => ?_) (fun h_t55 => ?_)
          | refine ok_cond rfl rfl (fun h_t55 => ?_) (fun h_t55 => ?_)
        · refine ok_exit ?_
          refine ok_region ?_
          refine s1 rfl (lop_bop rfl rfl rfl (bop_add (by omega) (by omega))) ?_
          refine s1 rfl (lop_move (v := .int _ _) rfl) ?_
          refine ops_nil ?_
          exact ⟨⟨i + 1, by omega, noneL_step (f := repG l nodes) hn h_t18 (by rw [repG_some hj h0 he, if_neg (by simpa using h_t37), if_neg h_t55])⟩, by simp only; omega, le_mk ⟨rfl, rfl, rfl, rfl, rfl, rfl, trivial⟩ ⟨.inr rfl, trivial⟩ rfl⟩
        · have h_t55 : (nextF (x.vols[i].places ++ [x.vols[i].places[j]]) nodes (liveL l x.vols[i].home nodes)).2 = 0 := Decidable.byContradiction h_t55
          refine ok_skip ?_
          refine ok_region ?_
          first
            | refine s1 rfl (lop_load_rf_agg (ys := [.int _ _, .int _ _]) rfl rfl Try.isAgg41 Try.sizeOf41 (Nat.le_of_ble_eq_true rfl) rfl) ?_
            | refine s1 rfl (lop_load_fp_agg (ys := [.int _ _, .int _ _]) rfl Try.isAgg41 Try.sizeOf41 (Nat.le_of_ble_eq_true rfl) rfl) ?_
          first
            | refine s0w rfl (lop_storeK (v := .agg [.int _ _, .int _ _]) (cs' := [.int _ _, .int _ _]) (f' := true) rfl rfl rfl Try.sizeOf41 rfl rfl rfl rfl rfl) ?_
            | refine s0w rfl (lop_storeK (v := .agg [.int _ _, .int _ _]) (cs' := [.int _ _, .int _ _]) (f' := false) rfl rfl rfl Try.sizeOf41 rfl rfl rfl rfl rfl) ?_
          refine ops_nil ?_
          refine ok_drw Try.mixed ?_
          first
            | refine d1 rfl rfl (lop_fieldAddr_rf (fo := 0) rfl Try.underlying39 rfl rfl Try.sizeOf3 (by decide)) ?_
            | refine d1 rfl rfl (lop_fieldAddr_fp (fo := 0) rfl Try.underlying39 rfl rfl Try.sizeOf3 (by decide) rfl) ?_
          first
            | refine d1 rfl rfl (lop_load_rf rfl rfl Try.isAgg3 rfl) ?_
            | refine d1 rfl rfl (lop_load_fp rfl Try.isAgg3 rfl) ?_
          first
            | refine d1 rfl rfl (lop_move (v := .sl _ _) rfl) ?_
            | refine d1 rfl rfl (lop_move (v := .os _ _ _ _) rfl) ?_
            | refine d1 rfl rfl (lop_move (v := .z0) rfl) ?_
          first
            | refine d1 rfl rfl (lop_indexAddr_os rfl rfl Try.underlying74 Try.sizeOf3 rfl h0) ?_
            | refine d1 rfl rfl (lop_indexAddr_sl rfl rfl Try.underlying74 Try.sizeOf3 rfl h0 (flat_at intEnc_len h0) (flat_ne intEnc_len (by decide) h0)) ?_
          refine d1 rfl rfl (lop_load_fp (v := i64 (j : Int)) rfl Try.isAgg3 (by rw [← he]; rfl)) ?_
          first
            | refine d1 rfl rfl (lop_load_rf_agg (ys := [.int _ _, .int _ _]) rfl rfl Try.isAgg41 Try.sizeOf41 (Nat.le_of_ble_eq_true rfl) rfl) ?_
            | refine d1 rfl rfl (lop_load_fp_agg (ys := [.int _ _, .int _ _]) rfl Try.isAgg41 Try.sizeOf41 (Nat.le_of_ble_eq_true rfl) rfl) ?_
          first
            | refine d1w rfl rfl (lop_buildSlice (t := 63) (cs := [.int _ _, .int _ _]) (f := true) Try.underlying30 Try.sizeOf41 (by decide) Try.zeroValue41 rfl rfl rfl (by decide) rfl (.inr (by decide)) rfl (fun h => by cases h)) ?_
            | refine d1w rfl rfl (lop_buildSlice (t := 63) (cs := [.int _ _, .int _ _]) (f := false) Try.underlying30 Try.sizeOf41 (by decide) Try.zeroValue41 rfl rfl rfl (by decide) rfl (.inr (by decide)) rfl (fun _ => rfl)) ?_
          first
            | refine d1 rfl rfl (lop_buildK (cs := [.int _ _, .int _ _, .int _ _, .int _ _, .sl _ _, .int _ _, .int _ _]) Try.underlying34 Try.zeroValue34 rfl rfl places34 rfl) ?_
            | refine d1 rfl rfl (lop_buildK (cs := [.int _ _, .int _ _, .int _ _, .int _ _, .os _ _ _ _, .int _ _, .int _ _]) Try.underlying34 Try.zeroValue34 rfl rfl places34 rfl) ?_
            | refine d1 rfl rfl (lop_buildK (cs := [.int _ _, .int _ _, .int _ _, .int _ _, .z0, .int _ _, .int _ _]) Try.underlying34 Try.zeroValue34 rfl rfl places34 rfl) ?_
          first
            | refine d0w rfl rfl (lop_storeK (v := .agg [.int _ _, .int _ _, .int _ _, .int _ _, _, .int _ _, .int _ _]) (cs' := [.int _ _, .int _ _, .int _ _, .int _ _, _, .int _ _, .int _ _]) (f' := true) rfl rfl rfl Try.sizeOf34 rfl rfl rfl rfl rfl) ?_
            | refine d0w rfl rfl (lop_storeK (v := .agg [.int _ _, .int _ _, .int _ _, .int _ _, _, .int _ _, .int _ _]) (cs' := [.int _ _, .int _ _, .int _ _, .int _ _, _, .int _ _, .int _ _]) (f' := false) rfl rfl rfl Try.sizeOf34 rfl rfl rfl rfl rfl) ?_
          refine d1 rfl rfl (lop_assign (v := .bool _) rfl) ?_
          refine dr_nil (by kernel_rfl) ?_
          refine ok_ret ?_
          have e1 : repairF l nodes x.vols = (⟨1, x.vols[i].id, (j : Int), 0, [(nextF (x.vols[i].places ++ [x.vols[i].places[j]]) nodes (liveL l x.vols[i].home nodes)).1], ⟨0, 0⟩⟩, true) := by unfold repairF; rw [findSomeL_at (f := repG l nodes) h_t18 (by rw [repG_some hj h0 he, if_neg (by simpa using h_t37), if_pos h_t55]) hn]
          exact ret_gen (R := [6, 63]) ⟨_, _, rfl, ⟨rfl, 6, 0, _, _, rfl, rfl, .inl ⟨7, Try.isAgg34, Try.sizeOf34, Nat.le_of_ble_eq_true rfl, rfl⟩⟩, _, _, rfl, ⟨rfl, rfl⟩, rfl⟩ (by rw [e1]; exact .tup (.cons (.agg (fzL_sound _ [6, 63] _ rfl)) (.cons (.tf rfl) .nil))) (fun t ht => by simp at ht; rcases ht with rfl | rfl <;> exact Option.some_ne_none _)
      · have h_t37 : livesAt l x.vols[i].places[j] = true := by simpa using h_t37
        refine ok_skip ?_
        refine ok_drw Try.mixed ?_
        first
          | refine d1 rfl rfl (lop_fieldAddr_rf (fo := 0) rfl Try.underlying39 rfl rfl Try.sizeOf3 (by decide)) ?_
          | refine d1 rfl rfl (lop_fieldAddr_fp (fo := 0) rfl Try.underlying39 rfl rfl Try.sizeOf3 (by decide) rfl) ?_
        first
          | refine d1 rfl rfl (lop_load_rf rfl rfl Try.isAgg3 rfl) ?_
          | refine d1 rfl rfl (lop_load_fp rfl Try.isAgg3 rfl) ?_
        first
          | refine d1 rfl rfl (lop_move (v := .sl _ _) rfl) ?_
          | refine d1 rfl rfl (lop_move (v := .os _ _ _ _) rfl) ?_
          | refine d1 rfl rfl (lop_move (v := .z0) rfl) ?_
        first
          | refine d1 rfl rfl (lop_indexAddr_os rfl rfl Try.underlying74 Try.sizeOf3 rfl h0) ?_
          | refine d1 rfl rfl (lop_indexAddr_sl rfl rfl Try.underlying74 Try.sizeOf3 rfl h0 (flat_at intEnc_len h0) (flat_ne intEnc_len (by decide) h0)) ?_
        refine d1 rfl rfl (lop_load_fp (v := i64 (j : Int)) rfl Try.isAgg3 (by rw [← he]; rfl)) ?_
        first
          | refine d1 rfl rfl (lop_load_rf_agg (ys := [.int _ _, .int _ _]) rfl rfl Try.isAgg41 Try.sizeOf41 (Nat.le_of_ble_eq_true rfl) rfl) ?_
          | refine d1 rfl rfl (lop_load_fp_agg (ys := [.int _ _, .int _ _]) rfl Try.isAgg41 Try.sizeOf41 (Nat.le_of_ble_eq_true rfl) rfl) ?_
        first
          | refine d1w rfl rfl (lop_buildSlice (t := 63) (cs := [.int _ _, .int _ _]) (f := true) Try.underlying30 Try.sizeOf41 (by decide) Try.zeroValue41 rfl rfl rfl (by decide) rfl (.inr (by decide)) rfl (fun h => by cases h)) ?_
          | refine d1w rfl rfl (lop_buildSlice (t := 63) (cs := [.int _ _, .int _ _]) (f := false) Try.underlying30 Try.sizeOf41 (by decide) Try.zeroValue41 rfl rfl rfl (by decide) rfl (.inr (by decide)) rfl (fun _ => rfl)) ?_
        first
          | refine d1 rfl rfl (lop_buildK (cs := [.int _ _, .int _ _, .int _ _, .int _ _, .sl _ _, .int _ _, .int _ _]) Try.underlying34 Try.zeroValue34 rfl rfl places34 rfl) ?_
          | refine d1 rfl rfl (lop_buildK (cs := [.int _ _, .int _ _, .int _ _, .int _ _, .os _ _ _ _, .int _ _, .int _ _]) Try.underlying34 Try.zeroValue34 rfl rfl places34 rfl) ?_
          | refine d1 rfl rfl (lop_buildK (cs := [.int _ _, .int _ _, .int _ _, .int _ _, .z0, .int _ _, .int _ _]) Try.underlying34 Try.zeroValue34 rfl rfl places34 rfl) ?_
        first
          | refine d0w rfl rfl (lop_storeK (v := .agg [.int _ _, .int _ _, .int _ _, .int _ _, _, .int _ _, .int _ _]) (cs' := [.int _ _, .int _ _, .int _ _, .int _ _, _, .int _ _, .int _ _]) (f' := true) rfl rfl rfl Try.sizeOf34 rfl rfl rfl rfl rfl) ?_
          | refine d0w rfl rfl (lop_storeK (v := .agg [.int _ _, .int _ _, .int _ _, .int _ _, _, .int _ _, .int _ _]) (cs' := [.int _ _, .int _ _, .int _ _, .int _ _, _, .int _ _, .int _ _]) (f' := false) rfl rfl rfl Try.sizeOf34 rfl rfl rfl rfl rfl) ?_
        refine d1 rfl rfl (lop_assign (v := .bool _) rfl) ?_
        refine dr_nil (by kernel_rfl) ?_
        refine ok_ret ?_
        have e1 : repairF l nodes x.vols = (⟨1, x.vols[i].id, (j : Int), 0, [x.vols[i].places[j]], ⟨0, 0⟩⟩, true) := by unfold repairF; rw [findSomeL_at (f := repG l nodes) h_t18 (by rw [repG_some hj h0 he, if_pos h_t37]) hn]
        exact ret_gen (R := [6, 63]) ⟨_, _, rfl, ⟨rfl, 6, 0, _, _, rfl, rfl, .inl ⟨7, Try.isAgg34, Try.sizeOf34, Nat.le_of_ble_eq_true rfl, rfl⟩⟩, _, _, rfl, ⟨rfl, rfl⟩, rfl⟩ (by rw [e1]; exact .tup (.cons (.agg (fzL_sound _ [6, 63] _ rfl)) (.cons (.tf rfl) .nil))) (fun t ht => by simp at ht; rcases ht with rfl | rfl <;> exact Option.some_ne_none _)
  · refine ok_exit ?_
    refine ok_reg ?_
    refine s1 rfl (lop_buildK (cs := [.int _ _, .int _ _, .int _ _, .int _ _, .z0, .int _ _, .int _ _]) Try.underlying34 Try.zeroValue34 rfl rfl places34 rfl) ?_
    first
      | refine s0w rfl (lop_storeK (v := .agg [.int _ _, .int _ _, .int _ _, .int _ _, _, .int _ _, .int _ _]) (cs' := [.int _ _, .int _ _, .int _ _, .int _ _, _, .int _ _, .int _ _]) (f' := true) rfl rfl rfl Try.sizeOf34 rfl rfl rfl rfl rfl) ?_
      | refine s0w rfl (lop_storeK (v := .agg [.int _ _, .int _ _, .int _ _, .int _ _, _, .int _ _, .int _ _]) (cs' := [.int _ _, .int _ _, .int _ _, .int _ _, _, .int _ _, .int _ _]) (f' := false) rfl rfl rfl Try.sizeOf34 rfl rfl rfl rfl rfl) ?_
    refine s1 rfl (lop_assign (v := .bool _) rfl) ?_
    refine ops_nil ?_
    refine ok_ret ?_
    have e1 : repairF l nodes x.vols = (.zero, false) := by unfold repairF; rw [findSomeL_no (fun j hj => hn j hj (by omega))]
    exact ret_gen (R := [6]) ⟨_, _, rfl, ⟨rfl, 6, 0, _, _, rfl, rfl, .inl ⟨7, Try.isAgg34, Try.sizeOf34, Nat.le_of_ble_eq_true rfl, rfl⟩⟩, _, _, rfl, ⟨rfl, rfl⟩, rfl⟩ (by rw [e1]; exact .tup (.cons (.agg (fzL_sound _ [6] _ rfl)) (.cons (.tf rfl) .nil))) (fun t ht => by simp at ht; subst ht; exact Option.some_ne_none _)

end Go.Proofs
