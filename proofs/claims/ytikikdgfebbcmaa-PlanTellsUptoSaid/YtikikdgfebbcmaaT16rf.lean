/- Chapter 16: walks. Printed by gen.py. -/
import Derived.Test.YtikikdgfebbcmaaT16re
set_option linter.unusedVariables false
set_option linter.unusedSimpArgs false
set_option maxRecDepth 100000
namespace Go.Proofs
open Go.Hg

theorem noneN_step {α : Type} {f : Nat → Option α} {n i : Nat} (hn : ∀ j, (h : j < n) → j < i → f j = none) (h0 : f i = none) : ∀ j, (h : j < n) → j < i + 1 → f j = none := by
  intro j hj hlt
  rcases Nat.lt_or_ge j i with h1 | h1
  · exact hn j hj h1
  · have : j = i := by omega
    subst this; exact h0
theorem drop_dead {x : IdxD} {n : InvD} (h : n.live = false) : dropP x n = false := by
  unfold dropP
  rw [h]
  simp

theorem ref16_Next_ac (x : IdxD) (hx : VolsOk x.vols) {l : List InvD} (hl : InvsOk l) (nodes : Int) : AC Try.prog 12 [.agg x.enc, rowOf InvD.enc l, i64 nodes] (.agg (planNextF x l nodes).enc) := by
  have hvl := hx.1
  have hll := hl.1
  refine AC.intro Try.func12 rfl (Nat.le_of_ble_eq_true rfl) ?_
  refine ok_reg ?_
  first
    | refine s1w rfl (lop_box (t := 3) (v := .agg [_, _, _]) (f := true) (cs := [_, _, _]) rfl rfl rfl rfl (fun h => by cases h)) rfl ?_
    | refine s1w rfl (lop_box (t := 3) (v := .agg [_, _, _]) (f := false) (cs := [_, _, _]) rfl rfl rfl rfl (fun _ => rfl)) rfl ?_
  refine s1w rfl (lop_new (t := 6) (cs := [.int _ _, .int _ _, .int _ _, .int _ _, .z0, .int _ _, .int _ _]) Try.zeroValue34 rfl rfl rfl rfl) rfl ?_
  refine ops_nil ?_
  refine ok_seq ?_
  refine ok_reg ?_
  refine s1 rfl (lop_assign (v := .int _ _) rfl) ?_
  refine ops_nil ?_
  refine ok_block ?_
  refine ok_loop (ι := {i : Nat // i ≤ x.vols.length ∧ ∀ j, (h : j < x.vols.length) → j < i → repG l nodes x.vols[j] = none}) (fun i => ⟨[(1, rowOf InvD.enc l), (2, i64 nodes), (3, .rf 3 0), (6, .rf 6 0), (7, i64 i.1)], [(3, some (true, x.enc)), (6, some (true, actZ))], 220⟩) (fun i => x.vols.length - i.1) (⟨0, Nat.zero_le _, fun _ _ h => absurd h (Nat.not_lt_zero _)⟩) ?_ ?_
  · exact le_mk ⟨rfl, rfl, rfl, rfl, rfl, trivial⟩ ⟨.inr rfl, .inr rfl, trivial⟩ rfl
  rintro ⟨i, hi, hn⟩
  dsimp only
  refine ok_seq ?_
  refine ok_reg ?_
  refine s1 rfl (lop_move (v := .int _ _) rfl) ?_
  first
    | refine s1 rfl (lop_fieldAddr_rf (fo := 0) rfl Try.underlying26 rfl rfl Try.sizeOf22 (by decide)) ?_
    | refine s1 rfl (lop_fieldAddr_fp (fo := 0) rfl Try.underlying26 rfl rfl Try.sizeOf22 (by decide) rfl) ?_
  first
    | refine s1 rfl (lop_load_rf rfl rfl Try.isAgg22 rfl) ?_
    | refine s1 rfl (lop_load_fp rfl Try.isAgg22 rfl) ?_
  refine s1 rfl (lop_len rfl Try.underlying22 ⟨⟨_, rfl⟩, rfl⟩) ?_
  refine s1 rfl (lop_lss rfl rfl) ?_
  refine ops_nil ?_
  first
    | refine ok_if _ rfl rfl (fun h_t27 => ?_) (fun h_t27 => ?_)
    | refine ok_cond rfl rfl (fun h_t27 => ?_) (fun h_t27 => ?_)
  · have h_t27 : i < x.vols.length := Int.ofNat_lt.1 h_t27
    have hv := hx.2 x.vols[i] (List.getElem_mem h_t27)
    have hvp := hv.places
    refine ok_skip ?_
    refine ok_seq ?_
    refine ok_block ?_
    refine ok_reg ?_
    first
      | refine s1 rfl (lop_fieldAddr_rf (fo := 0) rfl Try.underlying26 rfl rfl Try.sizeOf22 (by decide)) ?_
      | refine s1 rfl (lop_fieldAddr_fp (fo := 0) rfl Try.underlying26 rfl rfl Try.sizeOf22 (by decide) rfl) ?_
    first
      | refine s1 rfl (lop_load_rf rfl rfl Try.isAgg22 rfl) ?_
      | refine s1 rfl (lop_load_fp rfl Try.isAgg22 rfl) ?_
    refine s1 rfl (lop_move (v := .int _ _) rfl) ?_
    first
      | refine s1 rfl (lop_indexAddr_os rfl rfl Try.underlying22 Try.sizeOf39 rfl h_t27) ?_
      | refine s1 rfl (lop_indexAddr_sl rfl rfl Try.underlying22 Try.sizeOf39 rfl h_t27 (flat_at VolD.len h_t27) (flat_ne VolD.len (by decide) h_t27)) ?_
    first
      | refine s1 rfl (lop_load_rf_agg rfl rfl Try.isAgg39 Try.sizeOf39 (by rw [List.length_append, VolD.len]; omega) (by rw [List.take_append_of_le_length (by rw [VolD.len]; omega), List.take_of_length_le (by rw [VolD.len]; omega)])) ?_
      | refine s1 rfl (lop_load_fp_agg rfl Try.isAgg39 Try.sizeOf39 (by rw [List.length_append, VolD.len]; omega) (by rw [List.take_append_of_le_length (by rw [VolD.len]; omega), List.take_of_length_le (by rw [VolD.len]; omega)])) ?_
    refine s1w rfl (lop_new (t := 8) (cs := [.int _ _, .int _ _, .int _ _, .int _ _, .int _ _, .z0, .z0, .int _ _, .int _ _]) Try.zeroValue39 rfl rfl rfl rfl) rfl ?_
    first
      | refine s0w rfl (lop_storeK (v := .agg [.int _ _, .int _ _, .int _ _, .int _ _, .int _ _, _, _, .int _ _, .int _ _]) (cs' := [.int _ _, .int _ _, .int _ _, .int _ _, .int _ _, _, _, .int _ _, .int _ _]) (f' := true) rfl rfl rfl Try.sizeOf39 rfl rfl rfl rfl rfl) ?_
      | refine s0w rfl (lop_storeK (v := .agg [.int _ _, .int _ _, .int _ _, .int _ _, .int _ _, _, _, .int _ _, .int _ _]) (cs' := [.int _ _, .int _ _, .int _ _, .int _ _, .int _ _, _, _, .int _ _, .int _ _]) (f' := false) rfl rfl rfl Try.sizeOf39 rfl rfl rfl rfl rfl) ?_
    refine ops_nil ?_
    refine ok_reg ?_
    first
      | refine s1 rfl (lop_load_rf_agg (ys := [.int _ _, .int _ _, .int _ _, .int _ _, .int _ _, _, _, .int _ _, .int _ _]) rfl rfl Try.isAgg39 Try.sizeOf39 (Nat.le_of_ble_eq_true rfl) rfl) ?_
      | refine s1 rfl (lop_load_fp_agg (ys := [.int _ _, .int _ _, .int _ _, .int _ _, .int _ _, _, _, .int _ _, .int _ _]) rfl Try.isAgg39 Try.sizeOf39 (Nat.le_of_ble_eq_true rfl) rfl) ?_
    first
      | refine s1 rfl (lop_move (v := .sl _ _) rfl) ?_
      | refine s1 rfl (lop_move (v := .os _ _ _ _) rfl) ?_
      | refine s1 rfl (lop_move (v := .z0) rfl) ?_
    refine s1 rfl (lop_call rfl Try.call24 (FrzL.tf rfl) (.inl rfl) (ref16_Lost_ac x.vols[i] hv hl)) ?_
    first
      | refine s1 rfl (lop_assign (v := .sl _ _) rfl) ?_
      | refine s1 rfl (lop_assign (v := .os _ _ _ _) rfl) ?_
      | refine s1 rfl (lop_assign (v := .z0) rfl) ?_
    refine ops_nil ?_
    refine ok_seq ?_
    refine ok_reg ?_
    first
      | refine s1 rfl (lop_move (v := .sl _ _) rfl) ?_
      | refine s1 rfl (lop_move (v := .os _ _ _ _) rfl) ?_
      | refine s1 rfl (lop_move (v := .z0) rfl) ?_
    refine s1 rfl (lop_len rfl Try.underlying74 ⟨⟨_, rfl⟩, rfl⟩) ?_
    refine s1 rfl (lop_eql rfl rfl) ?_
    refine ops_nil ?_
    first
      | refine ok_if _ rfl rfl (fun h_t40 => ?_) (fun h_t40 => ?_)
      | refine ok_cond rfl rfl (fun h_t40 => ?_) (fun h_t40 => ?_)
    · refine ok_exit ?_
      refine ok_region ?_
      refine s1 rfl (lop_move (v := .int _ _) rfl) ?_
      refine s1 rfl (lop_bop rfl rfl rfl (bop_add (by omega) (by omega))) ?_
      refine s1 rfl (lop_assign (v := .int _ _) rfl) ?_
      refine ops_nil ?_
      exact ⟨⟨i + 1, by omega, noneL_step (f := repG l nodes) hn h_t27 (repG_none h_t40)⟩, by simp only; omega, le_mk ⟨rfl, rfl, rfl, rfl, rfl, trivial⟩ ⟨.inr rfl, .inr rfl, trivial⟩ rfl⟩
    · obtain ⟨j, hj, h0, he⟩ := lostL_head h_t40
      refine ok_skip ?_
      refine ok_drw Try.mixed ?_
      first
        | refine d1 rfl rfl (lop_fieldAddr_rf (fo := 6) rfl Try.underlying39 rfl rfl Try.sizeOf30 (by decide)) ?_
        | refine d1 rfl rfl (lop_fieldAddr_fp (fo := 6) rfl Try.underlying39 rfl rfl Try.sizeOf30 (by decide) rfl) ?_
      first
        | refine d1 rfl rfl (lop_load_rf rfl rfl Try.isAgg30 rfl) ?_
        | refine d1 rfl rfl (lop_load_fp rfl Try.isAgg30 rfl) ?_
      first
        | refine d1 rfl rfl (lop_move (v := .sl _ _) rfl) ?_
        | refine d1 rfl rfl (lop_move (v := .os _ _ _ _) rfl) ?_
        | refine d1 rfl rfl (lop_move (v := .z0) rfl) ?_
      first
        | refine d1 rfl rfl (lop_indexAddr_os rfl rfl Try.underlying74 Try.sizeOf3 rfl h0) ?_
        | refine d1 rfl rfl (lop_indexAddr_sl rfl rfl Try.underlying74 Try.sizeOf3 rfl h0 (flat_at intEnc_len h0) (flat_ne intEnc_len (by decide) h0)) ?_
      refine d1 rfl rfl (lop_load_fp (v := i64 (lostL x.vols[i] l)[0]) rfl Try.isAgg3 rfl) ?_
      first
        | refine d1 rfl rfl (lop_indexAddr_os rfl rfl Try.underlying30 Try.sizeOf41 he hj) ?_
        | refine d1 rfl rfl (lop_indexAddr_sl rfl rfl Try.underlying30 Try.sizeOf41 he hj (flat_at PlD.len hj) (flat_ne PlD.len (by decide) hj)) ?_
      first
        | refine d1 rfl rfl (lop_load_rf_agg rfl rfl Try.isAgg41 Try.sizeOf41 (by rw [List.length_append, PlD.len]; omega) (by rw [List.take_append_of_le_length (by rw [PlD.len]; omega), List.take_of_length_le (by rw [PlD.len]; omega)])) ?_
        | refine d1 rfl rfl (lop_load_fp_agg rfl Try.isAgg41 Try.sizeOf41 (by rw [List.length_append, PlD.len]; omega) (by rw [List.take_append_of_le_length (by rw [PlD.len]; omega), List.take_of_length_le (by rw [PlD.len]; omega)])) ?_
      refine d1w rfl rfl (lop_new (t := 10) (cs := [.int _ _, .int _ _]) Try.zeroValue41 rfl rfl rfl rfl) ?_
      first
        | refine d0w rfl rfl (lop_storeK (v := .agg [.int _ _, .int _ _]) (cs' := [.int _ _, .int _ _]) (f' := true) rfl rfl rfl Try.sizeOf41 rfl rfl rfl rfl rfl) ?_
        | refine d0w rfl rfl (lop_storeK (v := .agg [.int _ _, .int _ _]) (cs' := [.int _ _, .int _ _]) (f' := false) rfl rfl rfl Try.sizeOf41 rfl rfl rfl rfl rfl) ?_
      refine dr_nil (by kernel_rfl) ?_
      refine ok_reg ?_
      refine s1 rfl (lop_assign (v := .int _ _) rfl) ?_
      refine ops_nil ?_
      refine ok_seq ?_
      refine ok_reg ?_
      first
        | refine s1 rfl (lop_move (v := .sl _ _) rfl) ?_
        | refine s1 rfl (lop_move (v := .os _ _ _ _) rfl) ?_
        | refine s1 rfl (lop_move (v := .z0) rfl) ?_
      first
        | refine s1 rfl (lop_load_rf_agg (ys := [.int _ _, .int _ _]) rfl rfl Try.isAgg41 Try.sizeOf41 (Nat.le_of_ble_eq_true rfl) rfl) ?_
        | refine s1 rfl (lop_load_fp_agg (ys := [.int _ _, .int _ _]) rfl Try.isAgg41 Try.sizeOf41 (Nat.le_of_ble_eq_true rfl) rfl) ?_
      refine s1 rfl (lop_call rfl Try.call33 (FrzL.tf rfl) (.inl rfl) (ref16_lives_ac hl x.vols[i].places[j])) ?_
      refine s1 rfl (lop_not rfl) ?_
      refine ops_nil ?_
      first
        | refine ok_if _ rfl rfl (fun h_t51 => ?_) (fun h_t51 => ?_)
        | refine ok_cond rfl rfl (fun h_t51 => ?_) (fun h_t51 => ?_)
      · have h_t51 : ¬ livesAt l x.vols[i].places[j] = true := by simpa using h_t51
        refine ok_draw Try.mixed ?_
        first
          | refine d1w rfl rfl (lop_buildSlice (t := 53) (cs := []) (f := true) Try.underlying30 Try.sizeOf41 (by decide) Try.zeroValue41 rfl rfl rfl (by decide) rfl (.inl rfl) rfl (fun h => by cases h)) ?_
          | refine d1w rfl rfl (lop_buildSlice (t := 53) (cs := []) (f := false) Try.underlying30 Try.sizeOf41 (by decide) Try.zeroValue41 rfl rfl rfl (by decide) rfl (.inl rfl) rfl (fun _ => rfl)) ?_
        first
          | refine d1 rfl rfl (lop_fieldAddr_rf (fo := 6) rfl Try.underlying39 rfl rfl Try.sizeOf30 (by decide)) ?_
          | refine d1 rfl rfl (lop_fieldAddr_fp (fo := 6) rfl Try.underlying39 rfl rfl Try.sizeOf30 (by decide) rfl) ?_
        first
          | refine d1 rfl rfl (lop_load_rf rfl rfl Try.isAgg30 rfl) ?_
          | refine d1 rfl rfl (lop_load_fp rfl Try.isAgg30 rfl) ?_
        first
          | refine d2w rfl rfl (lop_append_os (t' := 56) (R := []) rfl rfl rfl (by simp) (.sl Try.underlying30 (flat_length PlD.len _)) Try.underlying30 info41 rfl (by omega) (by omega)) ?_
          | refine d1w rfl rfl (lop_append_z0 (t' := 56) (R := []) rfl rfl (.sl Try.underlying30 (flat_length PlD.len _)) Try.underlying30 info41 rfl (by omega) (by omega)) ?_
        first
          | refine d1 rfl rfl (lop_load_rf_agg (ys := [.int _ _, .int _ _]) rfl rfl Try.isAgg41 Try.sizeOf41 (Nat.le_of_ble_eq_true rfl) rfl) ?_
          | refine d1 rfl rfl (lop_load_fp_agg (ys := [.int _ _, .int _ _]) rfl Try.isAgg41 Try.sizeOf41 (Nat.le_of_ble_eq_true rfl) rfl) ?_
        first
          | refine d1w rfl rfl (lop_buildSlice (t := 58) (cs := [.int _ _, .int _ _]) (f := true) Try.underlying30 Try.sizeOf41 (by decide) Try.zeroValue41 rfl rfl rfl (by decide) rfl (.inr (by decide)) rfl (fun h => by cases h)) ?_
          | refine d1w rfl rfl (lop_buildSlice (t := 58) (cs := [.int _ _, .int _ _]) (f := false) Try.underlying30 Try.sizeOf41 (by decide) Try.zeroValue41 rfl rfl rfl (by decide) rfl (.inr (by decide)) rfl (fun _ => rfl)) ?_
        first
          | refine d2w rfl rfl (lop_append_os (t' := 59) rfl rfl rfl (by simp [flat_length PlD.len]) (.os Try.underlying30 (List.mem_singleton.2 rfl) rfl (Nat.le_of_ble_eq_true rfl) rfl) Try.underlying30 info41 rfl (by omega) (by omega)) ?_
          | refine d1w rfl rfl (lop_append_z0 (t' := 59) rfl rfl (.os Try.underlying30 (List.mem_singleton.2 rfl) rfl (Nat.le_of_ble_eq_true rfl) rfl) Try.underlying30 info41 rfl (by omega) (by omega)) ?_
          | refine d2w rfl rfl (lop_append_os (t' := 59) (R := []) rfl rfl rfl (by simp [flat_length PlD.len]) (.sl Try.underlying30 rfl) Try.underlying30 info41 rfl (by omega) (by omega)) ?_
          | refine d1w rfl rfl (lop_append_z0 (t' := 59) (R := []) rfl rfl (.sl Try.underlying30 rfl) Try.underlying30 info41 rfl (by omega) (by omega)) ?_
          | refine d2w rfl rfl (lop_append_os (t' := 59) (R := []) rfl rfl rfl (by simp [flat_length PlD.len]) (.z0 Try.underlying30) Try.underlying30 info41 rfl (by omega) (by omega)) ?_
          | refine d1w rfl rfl (lop_append_z0 (t' := 59) (R := []) rfl rfl (.z0 Try.underlying30) Try.underlying30 info41 rfl (by omega) (by omega)) ?_
        refine d1 rfl rfl (lop_move (v := .int _ _) rfl) ?_
        first
          | refine d1 rfl rfl (lop_move (v := .sl _ _) rfl) ?_
          | refine d1 rfl rfl (lop_move (v := .os _ _ _ _) rfl) ?_
          | refine d1 rfl rfl (lop_move (v := .z0) rfl) ?_
        first
          | refine d1 rfl rfl (lop_fieldAddr_rf (fo := 1) rfl Try.underlying39 rfl rfl Try.sizeOf3 (by decide)) ?_
          | refine d1 rfl rfl (lop_fieldAddr_fp (fo := 1) rfl Try.underlying39 rfl rfl Try.sizeOf3 (by decide) rfl) ?_
        first
          | refine d1 rfl rfl (lop_load_rf rfl rfl Try.isAgg3 rfl) ?_
          | refine d1 rfl rfl (lop_load_fp rfl Try.isAgg3 rfl) ?_
        refine d1 rfl rfl (lop_move (v := .int _ _) rfl) ?_
        refine d1 rfl rfl (lop_call rfl Try.call21 (FrzL.tf rfl) (.inl rfl) (ref16_Live_ac hl x.vols[i].home nodes)) ?_
        refine d1 rfl rfl (lop_call (R := [59]) rfl Try.call34 (.cons (v' := rowOf PlD.enc (x.vols[i].places ++ [x.vols[i].places[j]])) (by unfold rowOf; rw [List.length_append, show x.vols[i].places.length + [x.vols[i].places[j]].length = 0 + x.vols[i].places.length + 1 by simp]; exact .osf (List.mem_singleton.2 rfl) rfl (by simp [flat_length PlD.len]; omega) (by rw [List.drop_zero, List.take_of_length_le (by simp [flat_length PlD.len]; omega), List.flatMap_append]; rfl)) (FrzL.tf rfl)) (.inr rfl) (ref11_Next_ac (by simp; omega) (fun p hp => (List.mem_append.1 hp).elim (fun h => hv.node p h) (fun h => List.mem_singleton.1 h ▸ hv.node _ (List.getElem_mem hj))) (liveL_le l x.vols[i].home nodes))) ?_
        refine d1 rfl rfl (lop_move (v := .tup _) rfl) ?_
        refine d1 rfl rfl (lop_extract rfl rfl) ?_
        refine d1 rfl rfl (lop_extract rfl rfl) ?_
        first
          | refine d0w rfl rfl (lop_storeK (v := .agg [.int _ _, .int _ _]) (cs' := [.int _ _, .int _ _]) (f' := true) rfl rfl rfl Try.sizeOf41 rfl rfl rfl rfl rfl) ?_
          | refine d0w rfl rfl (lop_storeK (v := .agg [.int _ _, .int _ _]) (cs' := [.int _ _, .int _ _]) (f' := false) rfl rfl rfl Try.sizeOf41 rfl rfl rfl rfl rfl) ?_
        refine d1 rfl rfl (lop_assign (v := .int _ _) rfl) ?_
        refine dr_nil (by kernel_rfl) ?_
        refine ok_reg ?_
        refine s1 rfl (lop_move (v := .int _ _) rfl) ?_
        refine s1 rfl (lop_eql rfl rfl) ?_
        refine ops_nil ?_
        first
          | refine ok_if _ rfl rfl (fun h_t70 => ?_) (fun h_t70 => ?_)
          | refine ok_cond rfl rfl (fun h_t70 => ?_) (fun h_t70 => ?_)
        · refine ok_drw Try.mixed ?_
          first
            | refine d1 rfl rfl (lop_fieldAddr_rf (fo := 0) rfl Try.underlying39 rfl rfl Try.sizeOf3 (by decide)) ?_
            | refine d1 rfl rfl (lop_fieldAddr_fp (fo := 0) rfl Try.underlying39 rfl rfl Try.sizeOf3 (by decide) rfl) ?_
          first
            | refine d1 rfl rfl (lop_load_rf rfl rfl Try.isAgg3 rfl) ?_
            | refine d1 rfl rfl (lop_load_fp rfl Try.isAgg3 rfl) ?_
          first
            | refine d1 rfl rfl (lop_move (v := .sl _ _) rfl) ?_
            | refine d1 rfl rfl (lop_move (v := .os _ _ _ _) rfl) ?_
            | refine d1 rfl rfl (lop_move (v := .z0) rfl) ?_
          first
            | refine d1 rfl rfl (lop_indexAddr_os rfl rfl Try.underlying74 Try.sizeOf3 rfl h0) ?_
            | refine d1 rfl rfl (lop_indexAddr_sl rfl rfl Try.underlying74 Try.sizeOf3 rfl h0 (flat_at intEnc_len h0) (flat_ne intEnc_len (by decide) h0)) ?_
          refine d1 rfl rfl (lop_load_fp (v := i64 (j : Int)) rfl Try.isAgg3 (by rw [← he]; rfl)) ?_
          first
            | refine d1 rfl rfl (lop_load_rf_agg (ys := [.int _ _, .int _ _]) rfl rfl Try.isAgg41 Try.sizeOf41 (Nat.le_of_ble_eq_true rfl) rfl) ?_
            | refine d1 rfl rfl (lop_load_fp_agg (ys := [.int _ _, .int _ _]) rfl Try.isAgg41 Try.sizeOf41 (Nat.le_of_ble_eq_true rfl) rfl) ?_
          first
            | refine d1w rfl rfl (lop_buildSlice (t := 77) (cs := [.int _ _, .int _ _]) (f := true) Try.underlying30 Try.sizeOf41 (by decide) Try.zeroValue41 rfl rfl rfl (by decide) rfl (.inr (by decide)) rfl (fun h => by cases h)) ?_
            | refine d1w rfl rfl (lop_buildSlice (t := 77) (cs := [.int _ _, .int _ _]) (f := false) Try.underlying30 Try.sizeOf41 (by decide) Try.zeroValue41 rfl rfl rfl (by decide) rfl (.inr (by decide)) rfl (fun _ => rfl)) ?_
          first
            | refine d1 rfl rfl (lop_buildK (cs := [.int _ _, .int _ _, .int _ _, .int _ _, .sl _ _, .int _ _, .int _ _]) Try.underlying34 Try.zeroValue34 rfl rfl places34 rfl) ?_
            | refine d1 rfl rfl (lop_buildK (cs := [.int _ _, .int _ _, .int _ _, .int _ _, .os _ _ _ _, .int _ _, .int _ _]) Try.underlying34 Try.zeroValue34 rfl rfl places34 rfl) ?_
            | refine d1 rfl rfl (lop_buildK (cs := [.int _ _, .int _ _, .int _ _, .int _ _, .z0, .int _ _, .int _ _]) Try.underlying34 Try.zeroValue34 rfl rfl places34 rfl) ?_
          first
            | refine d0w rfl rfl (lop_storeK (v := .agg [.int _ _, .int _ _, .int _ _, .int _ _, _, .int _ _, .int _ _]) (cs' := [.int _ _, .int _ _, .int _ _, .int _ _, _, .int _ _, .int _ _]) (f' := true) rfl rfl rfl Try.sizeOf34 rfl rfl rfl rfl rfl) ?_
            | refine d0w rfl rfl (lop_storeK (v := .agg [.int _ _, .int _ _, .int _ _, .int _ _, _, .int _ _, .int _ _]) (cs' := [.int _ _, .int _ _, .int _ _, .int _ _, _, .int _ _, .int _ _]) (f' := false) rfl rfl rfl Try.sizeOf34 rfl rfl rfl rfl rfl) ?_
          refine dr_nil (by kernel_rfl) ?_
          refine ok_ret ?_
          have e1 : repairF l nodes x.vols = (⟨1, x.vols[i].id, (j : Int), 0, [(nextF (x.vols[i].places ++ [x.vols[i].places[j]]) nodes (liveL l x.vols[i].home nodes)).1], ⟨0, 0⟩⟩, true) := by unfold repairF; rw [findSomeL_at (f := repG l nodes) h_t27 (by rw [repG_some hj h0 he, if_neg h_t51, if_pos h_t70]) hn]
          have e2 : planNextF x l nodes = ⟨1, x.vols[i].id, (j : Int), 0, [(nextF (x.vols[i].places ++ [x.vols[i].places[j]]) nodes (liveL l x.vols[i].home nodes)).1], ⟨0, 0⟩⟩ := by
            rw [planNext_at (i := 0) (by decide) (fun j hj => by
              match j, hj with
              | _, h => exact absurd h (Nat.not_lt_zero _)) (show (repairF l nodes x.vols).2 = true from by rw [e1])]
            show (repairF l nodes x.vols).1 = _
            rw [e1]
          rw [e2]
          exact ret_gen (R := [6, 77]) ⟨_, _, rfl, ⟨rfl, 6, 0, _, _, rfl, rfl, .inl ⟨7, Try.isAgg34, Try.sizeOf34, Nat.le_of_ble_eq_true rfl, rfl⟩⟩, rfl⟩ (.agg (fzL_sound _ [6, 77] _ rfl)) (fun t ht => by simp at ht; rcases ht with rfl | rfl <;> exact Option.some_ne_none _)
        · refine ok_skip ?_
          refine ok_region ?_
          refine s1 rfl (lop_move (v := .int _ _) rfl) ?_
          refine s1 rfl (lop_bop rfl rfl rfl (bop_add (by omega) (by omega))) ?_
          refine s1 rfl (lop_assign (v := .int _ _) rfl) ?_
          refine ops_nil ?_
          exact ⟨⟨i + 1, by omega, noneL_step (f := repG l nodes) hn h_t27 (by rw [repG_some hj h0 he, if_neg (by simpa using h_t51), if_neg h_t70])⟩, by simp only; omega, le_mk ⟨rfl, rfl, rfl, rfl, rfl, trivial⟩ ⟨.inr rfl, .inr rfl, trivial⟩ rfl⟩
      · have h_t51 : livesAt l x.vols[i].places[j] = true := by simpa using h_t51
        refine ok_skip ?_
        refine ok_reg ?_
        refine s1 rfl (lop_move (v := .int _ _) rfl) ?_
        refine s1 rfl (lop_eql rfl rfl) ?_
        refine ops_nil ?_
        first
          | refine ok_if _ rfl rfl (fun h_t70 => ?_) (fun h_t70 => ?_)
          | refine ok_cond rfl rfl (fun h_t70 => ?_) (fun h_t70 => ?_)
        · refine ok_drw Try.mixed ?_
          first
            | refine d1 rfl rfl (lop_fieldAddr_rf (fo := 0) rfl Try.underlying39 rfl rfl Try.sizeOf3 (by decide)) ?_
            | refine d1 rfl rfl (lop_fieldAddr_fp (fo := 0) rfl Try.underlying39 rfl rfl Try.sizeOf3 (by decide) rfl) ?_
          first
            | refine d1 rfl rfl (lop_load_rf rfl rfl Try.isAgg3 rfl) ?_
            | refine d1 rfl rfl (lop_load_fp rfl Try.isAgg3 rfl) ?_
          first
            | refine d1 rfl rfl (lop_move (v := .sl _ _) rfl) ?_
            | refine d1 rfl rfl (lop_move (v := .os _ _ _ _) rfl) ?_
            | refine d1 rfl rfl (lop_move (v := .z0) rfl) ?_
          first
            | refine d1 rfl rfl (lop_indexAddr_os rfl rfl Try.underlying74 Try.sizeOf3 rfl h0) ?_
            | refine d1 rfl rfl (lop_indexAddr_sl rfl rfl Try.underlying74 Try.sizeOf3 rfl h0 (flat_at intEnc_len h0) (flat_ne intEnc_len (by decide) h0)) ?_
          refine d1 rfl rfl (lop_load_fp (v := i64 (j : Int)) rfl Try.isAgg3 (by rw [← he]; rfl)) ?_
          first
            | refine d1 rfl rfl (lop_load_rf_agg (ys := [.int _ _, .int _ _]) rfl rfl Try.isAgg41 Try.sizeOf41 (Nat.le_of_ble_eq_true rfl) rfl) ?_
            | refine d1 rfl rfl (lop_load_fp_agg (ys := [.int _ _, .int _ _]) rfl Try.isAgg41 Try.sizeOf41 (Nat.le_of_ble_eq_true rfl) rfl) ?_
          first
            | refine d1w rfl rfl (lop_buildSlice (t := 77) (cs := [.int _ _, .int _ _]) (f := true) Try.underlying30 Try.sizeOf41 (by decide) Try.zeroValue41 rfl rfl rfl (by decide) rfl (.inr (by decide)) rfl (fun h => by cases h)) ?_
            | refine d1w rfl rfl (lop_buildSlice (t := 77) (cs := [.int _ _, .int _ _]) (f := false) Try.underlying30 Try.sizeOf41 (by decide) Try.zeroValue41 rfl rfl rfl (by decide) rfl (.inr (by decide)) rfl (fun _ => rfl)) ?_
          first
            | refine d1 rfl rfl (lop_buildK (cs := [.int _ _, .int _ _, .int _ _, .int _ _, .sl _ _, .int _ _, .int _ _]) Try.underlying34 Try.zeroValue34 rfl rfl places34 rfl) ?_
            | refine d1 rfl rfl (lop_buildK (cs := [.int _ _, .int _ _, .int _ _, .int _ _, .os _ _ _ _, .int _ _, .int _ _]) Try.underlying34 Try.zeroValue34 rfl rfl places34 rfl) ?_
            | refine d1 rfl rfl (lop_buildK (cs := [.int _ _, .int _ _, .int _ _, .int _ _, .z0, .int _ _, .int _ _]) Try.underlying34 Try.zeroValue34 rfl rfl places34 rfl) ?_
          first
            | refine d0w rfl rfl (lop_storeK (v := .agg [.int _ _, .int _ _, .int _ _, .int _ _, _, .int _ _, .int _ _]) (cs' := [.int _ _, .int _ _, .int _ _, .int _ _, _, .int _ _, .int _ _]) (f' := true) rfl rfl rfl Try.sizeOf34 rfl rfl rfl rfl rfl) ?_
            | refine d0w rfl rfl (lop_storeK (v := .agg [.int _ _, .int _ _, .int _ _, .int _ _, _, .int _ _, .int _ _]) (cs' := [.int _ _, .int _ _, .int _ _, .int _ _, _, .int _ _, .int _ _]) (f' := false) rfl rfl rfl Try.sizeOf34 rfl rfl rfl rfl rfl) ?_
          refine dr_nil (by kernel_rfl) ?_
          refine ok_ret ?_
          have e1 : repairF l nodes x.vols = (⟨1, x.vols[i].id, (j : Int), 0, [x.vols[i].places[j]], ⟨0, 0⟩⟩, true) := by unfold repairF; rw [findSomeL_at (f := repG l nodes) h_t27 (by rw [repG_some hj h0 he, if_pos h_t51]) hn]
          have e2 : planNextF x l nodes = ⟨1, x.vols[i].id, (j : Int), 0, [x.vols[i].places[j]], ⟨0, 0⟩⟩ := by
            rw [planNext_at (i := 0) (by decide) (fun j hj => by
              match j, hj with
              | _, h => exact absurd h (Nat.not_lt_zero _)) (show (repairF l nodes x.vols).2 = true from by rw [e1])]
            show (repairF l nodes x.vols).1 = _
            rw [e1]
          rw [e2]
          exact ret_gen (R := [6, 77]) ⟨_, _, rfl, ⟨rfl, 6, 0, _, _, rfl, rfl, .inl ⟨7, Try.isAgg34, Try.sizeOf34, Nat.le_of_ble_eq_true rfl, rfl⟩⟩, rfl⟩ (.agg (fzL_sound _ [6, 77] _ rfl)) (fun t ht => by simp at ht; rcases ht with rfl | rfl <;> exact Option.some_ne_none _)
        · refine ok_skip ?_
          refine ok_region ?_
          refine s1 rfl (lop_move (v := .int _ _) rfl) ?_
          refine s1 rfl (lop_bop rfl rfl rfl (bop_add (by omega) (by omega))) ?_
          refine s1 rfl (lop_assign (v := .int _ _) rfl) ?_
          refine ops_nil ?_
          exact absurd rfl h_t70
  · have hs0 : (repairF l nodes x.vols).2 = false := by unfold repairF; rw [findSomeL_no (fun j hj => hn j hj (by omega))]
    refine ok_exit ?_
    refine ok_seq ?_
    refine ok_reg ?_
    refine s1 rfl (lop_assign (v := .int _ _) rfl) ?_
    refine ops_nil ?_
    refine ok_block ?_
    refine ok_loop (ι := {i : Nat // i ≤ x.vols.length ∧ ∀ j, (h : j < x.vols.length) → j < i → encP l nodes x.vols[j] = false}) (fun i => ⟨[(1, rowOf InvD.enc l), (2, i64 nodes), (3, .rf 3 0), (6, .rf 6 0), (12, i64 i.1)], [(3, some (true, x.enc)), (6, some (true, actZ))], 220⟩) (fun i => x.vols.length - i.1) (⟨0, Nat.zero_le _, fun _ _ h => absurd h (Nat.not_lt_zero _)⟩) ?_ ?_
    · exact le_mk ⟨rfl, rfl, rfl, rfl, rfl, trivial⟩ ⟨.inr rfl, .inr rfl, trivial⟩ rfl
    rintro ⟨i, hi, hn⟩
    dsimp only
    refine ok_seq ?_
    refine ok_reg ?_
    refine s1 rfl (lop_move (v := .int _ _) rfl) ?_
    first
      | refine s1 rfl (lop_fieldAddr_rf (fo := 0) rfl Try.underlying26 rfl rfl Try.sizeOf22 (by decide)) ?_
      | refine s1 rfl (lop_fieldAddr_fp (fo := 0) rfl Try.underlying26 rfl rfl Try.sizeOf22 (by decide) rfl) ?_
    first
      | refine s1 rfl (lop_load_rf rfl rfl Try.isAgg22 rfl) ?_
      | refine s1 rfl (lop_load_fp rfl Try.isAgg22 rfl) ?_
    refine s1 rfl (lop_len rfl Try.underlying22 ⟨⟨_, rfl⟩, rfl⟩) ?_
    refine s1 rfl (lop_lss rfl rfl) ?_
    refine ops_nil ?_
    first
      | refine ok_if _ rfl rfl (fun h_t83 => ?_) (fun h_t83 => ?_)
      | refine ok_cond rfl rfl (fun h_t83 => ?_) (fun h_t83 => ?_)
    · have h_t83 : i < x.vols.length := Int.ofNat_lt.1 h_t83
      have hv := hx.2 x.vols[i] (List.getElem_mem h_t83)
      refine ok_skip ?_
      refine ok_seq ?_
      refine ok_block ?_
      refine ok_reg ?_
      first
        | refine s1 rfl (lop_fieldAddr_rf (fo := 0) rfl Try.underlying26 rfl rfl Try.sizeOf22 (by decide)) ?_
        | refine s1 rfl (lop_fieldAddr_fp (fo := 0) rfl Try.underlying26 rfl rfl Try.sizeOf22 (by decide) rfl) ?_
      first
        | refine s1 rfl (lop_load_rf rfl rfl Try.isAgg22 rfl) ?_
        | refine s1 rfl (lop_load_fp rfl Try.isAgg22 rfl) ?_
      refine s1 rfl (lop_move (v := .int _ _) rfl) ?_
      first
        | refine s1 rfl (lop_indexAddr_os rfl rfl Try.underlying22 Try.sizeOf39 rfl h_t83) ?_
        | refine s1 rfl (lop_indexAddr_sl rfl rfl Try.underlying22 Try.sizeOf39 rfl h_t83 (flat_at VolD.len h_t83) (flat_ne VolD.len (by decide) h_t83)) ?_
      first
        | refine s1 rfl (lop_load_rf_agg rfl rfl Try.isAgg39 Try.sizeOf39 (by rw [List.length_append, VolD.len]; omega) (by rw [List.take_append_of_le_length (by rw [VolD.len]; omega), List.take_of_length_le (by rw [VolD.len]; omega)])) ?_
        | refine s1 rfl (lop_load_fp_agg rfl Try.isAgg39 Try.sizeOf39 (by rw [List.length_append, VolD.len]; omega) (by rw [List.take_append_of_le_length (by rw [VolD.len]; omega), List.take_of_length_le (by rw [VolD.len]; omega)])) ?_
      refine s1w rfl (lop_new (t := 13) (cs := [.int _ _, .int _ _, .int _ _, .int _ _, .int _ _, .z0, .z0, .int _ _, .int _ _]) Try.zeroValue39 rfl rfl rfl rfl) rfl ?_
      first
        | refine s0w rfl (lop_storeK (v := .agg [.int _ _, .int _ _, .int _ _, .int _ _, .int _ _, _, _, .int _ _, .int _ _]) (cs' := [.int _ _, .int _ _, .int _ _, .int _ _, .int _ _, _, _, .int _ _, .int _ _]) (f' := true) rfl rfl rfl Try.sizeOf39 rfl rfl rfl rfl rfl) ?_
        | refine s0w rfl (lop_storeK (v := .agg [.int _ _, .int _ _, .int _ _, .int _ _, .int _ _, _, _, .int _ _, .int _ _]) (cs' := [.int _ _, .int _ _, .int _ _, .int _ _, .int _ _, _, _, .int _ _, .int _ _]) (f' := false) rfl rfl rfl Try.sizeOf39 rfl rfl rfl rfl rfl) ?_
      refine ops_nil ?_
      refine ok_drw Try.mixed ?_
      first
        | refine d1 rfl rfl (lop_fieldAddr_rf (fo := 0) rfl Try.underlying39 rfl rfl Try.sizeOf3 (by decide)) ?_
        | refine d1 rfl rfl (lop_fieldAddr_fp (fo := 0) rfl Try.underlying39 rfl rfl Try.sizeOf3 (by decide) rfl) ?_
      first
        | refine d1 rfl rfl (lop_load_rf rfl rfl Try.isAgg3 rfl) ?_
        | refine d1 rfl rfl (lop_load_fp rfl Try.isAgg3 rfl) ?_
      first
        | refine d1 rfl rfl (lop_fieldAddr_rf (fo := 1) rfl Try.underlying39 rfl rfl Try.sizeOf3 (by decide)) ?_
        | refine d1 rfl rfl (lop_fieldAddr_fp (fo := 1) rfl Try.underlying39 rfl rfl Try.sizeOf3 (by decide) rfl) ?_
      first
        | refine d1 rfl rfl (lop_load_rf rfl rfl Try.isAgg3 rfl) ?_
        | refine d1 rfl rfl (lop_load_fp rfl Try.isAgg3 rfl) ?_
      refine d1 rfl rfl (lop_move (v := .int _ _) rfl) ?_
      first
        | refine d1 rfl rfl (lop_move (v := .sl _ _) rfl) ?_
        | refine d1 rfl rfl (lop_move (v := .os _ _ _ _) rfl) ?_
        | refine d1 rfl rfl (lop_move (v := .z0) rfl) ?_
      first
        | refine d1 rfl rfl (lop_fieldAddr_rf (fo := 1) rfl Try.underlying39 rfl rfl Try.sizeOf3 (by decide)) ?_
        | refine d1 rfl rfl (lop_fieldAddr_fp (fo := 1) rfl Try.underlying39 rfl rfl Try.sizeOf3 (by decide) rfl) ?_
      first
        | refine d1 rfl rfl (lop_load_rf rfl rfl Try.isAgg3 rfl) ?_
        | refine d1 rfl rfl (lop_load_fp rfl Try.isAgg3 rfl) ?_
      refine d1 rfl rfl (lop_move (v := .int _ _) rfl) ?_
      refine d1 rfl rfl (lop_call rfl Try.call21 (FrzL.tf rfl) (.inl rfl) (ref16_Live_ac hl x.vols[i].home nodes)) ?_
      refine d1 rfl rfl (lop_call rfl Try.call35 (FrzL.tf rfl) (.inl rfl) (ref11_Spread_ac x.vols[i].id x.vols[i].home 14 nodes (liveL_le l x.vols[i].home nodes))) ?_
      refine d1 rfl rfl (lop_move (v := .tup _) rfl) ?_
      refine d1 rfl rfl (lop_extract rfl rfl) ?_
      refine d1 rfl rfl (lop_extract rfl rfl) ?_
      first
        | refine d1 rfl rfl (lop_assign (v := .sl _ _) rfl) ?_
        | refine d1 rfl rfl (lop_assign (v := .os _ _ _ _) rfl) ?_
        | refine d1 rfl rfl (lop_assign (v := .z0) rfl) ?_
      refine d1 rfl rfl (lop_assign (v := .int _ _) rfl) ?_
      refine dr_nil (by kernel_rfl) ?_
      refine ok_reg ?_
      first
        | refine s1 rfl (lop_fieldAddr_rf (fo := 4) rfl Try.underlying39 rfl rfl Try.sizeOf3 (by decide)) ?_
        | refine s1 rfl (lop_fieldAddr_fp (fo := 4) rfl Try.underlying39 rfl rfl Try.sizeOf3 (by decide) rfl) ?_
      first
        | refine s1 rfl (lop_load_rf rfl rfl Try.isAgg3 rfl) ?_
        | refine s1 rfl (lop_load_fp rfl Try.isAgg3 rfl) ?_
      refine s1 rfl (lop_eql rfl rfl) ?_
      refine s1 rfl (lop_move (v := .bool _) rfl) ?_
      first
        | refine gsplitP 3 rfl rfl (fun g18_3 p18_3 => ?_) (fun g18_3 p18_3 => ?_)
        | refine gsplitB 3 rfl rfl (fun g18_3 p18_3 => ?_) (fun g18_3 p18_3 => ?_)
      · refine y1 rfl rfl g18_3 rfl (lop_move (v := .int _ _) rfl) ?_
        refine y1 rfl rfl g18_3 rfl (lop_eql rfl rfl) ?_
        first
          | refine s1 rfl (lop_pick_t (v := .bool _) rfl g18_3 rfl) ?_
          | refine s1 rfl (lop_pick_t (v := .bool _) rfl rfl rfl) ?_
          | refine s1 rfl (lop_pick_f (v := .bool _) rfl rfl rfl) ?_
          | refine s1 rfl (lop_pick rfl rfl rfl) ?_
        refine ops_nil ?_
        first
          | refine ok_if _ rfl rfl (fun h_t111 => ?_) (fun h_t111 => ?_)
          | refine ok_cond rfl rfl (fun h_t111 => ?_) (fun h_t111 => ?_)
        · refine ok_reg ?_
          first
            | refine s1 rfl (lop_fieldAddr_rf (fo := 0) rfl Try.underlying39 rfl rfl Try.sizeOf3 (by decide)) ?_
            | refine s1 rfl (lop_fieldAddr_fp (fo := 0) rfl Try.underlying39 rfl rfl Try.sizeOf3 (by decide) rfl) ?_
          first
            | refine s1 rfl (lop_load_rf rfl rfl Try.isAgg3 rfl) ?_
            | refine s1 rfl (lop_load_fp rfl Try.isAgg3 rfl) ?_
          first
            | refine s1 rfl (lop_move (v := .sl _ _) rfl) ?_
            | refine s1 rfl (lop_move (v := .os _ _ _ _) rfl) ?_
            | refine s1 rfl (lop_move (v := .z0) rfl) ?_
          first
            | refine s1 rfl (lop_buildK (cs := [.int _ _, .int _ _, .int _ _, .int _ _, .sl _ _, .int _ _, .int _ _]) Try.underlying34 Try.zeroValue34 rfl rfl places34 rfl) ?_
            | refine s1 rfl (lop_buildK (cs := [.int _ _, .int _ _, .int _ _, .int _ _, .os _ _ _ _, .int _ _, .int _ _]) Try.underlying34 Try.zeroValue34 rfl rfl places34 rfl) ?_
            | refine s1 rfl (lop_buildK (cs := [.int _ _, .int _ _, .int _ _, .int _ _, .z0, .int _ _, .int _ _]) Try.underlying34 Try.zeroValue34 rfl rfl places34 rfl) ?_
          first
            | refine s0w rfl (lop_storeK (v := .agg [.int _ _, .int _ _, .int _ _, .int _ _, _, .int _ _, .int _ _]) (cs' := [.int _ _, .int _ _, .int _ _, .int _ _, _, .int _ _, .int _ _]) (f' := true) rfl rfl rfl Try.sizeOf34 rfl rfl rfl rfl rfl) ?_
            | refine s0w rfl (lop_storeK (v := .agg [.int _ _, .int _ _, .int _ _, .int _ _, _, .int _ _, .int _ _]) (cs' := [.int _ _, .int _ _, .int _ _, .int _ _, _, .int _ _, .int _ _]) (f' := false) rfl rfl rfl Try.sizeOf34 rfl rfl rfl rfl rfl) ?_
          refine ops_nil ?_
          refine ok_ret ?_
          have e1 : encodeF l nodes x.vols = (⟨2, x.vols[i].id, 0, 0, (spreadF x.vols[i].id x.vols[i].home 14 nodes (liveL l x.vols[i].home nodes)).1, ⟨0, 0⟩⟩, true) := by unfold encodeF; rw [find_at (p := encP l nodes) h_t83 (by unfold encP; simp_all) hn]
          have e2 : planNextF x l nodes = ⟨2, x.vols[i].id, 0, 0, (spreadF x.vols[i].id x.vols[i].home 14 nodes (liveL l x.vols[i].home nodes)).1, ⟨0, 0⟩⟩ := by
            rw [planNext_at (i := 1) (by decide) (fun j hj => by
              match j, hj with
              | 0, _ => exact hs0) (show (encodeF l nodes x.vols).2 = true from by rw [e1])]
            show (encodeF l nodes x.vols).1 = _
            rw [e1]
          rw [e2]
          exact ret_gen (R := [6]) ⟨_, _, rfl, ⟨rfl, 6, 0, _, _, rfl, rfl, .inl ⟨7, Try.isAgg34, Try.sizeOf34, Nat.le_of_ble_eq_true rfl, rfl⟩⟩, rfl⟩ (.agg (fzL_sound _ [6] _ rfl)) (fun t ht => by simp at ht; subst ht; exact Option.some_ne_none _)
        · refine ok_skip ?_
          refine ok_region ?_
          refine s1 rfl (lop_move (v := .int _ _) rfl) ?_
          refine s1 rfl (lop_bop rfl rfl rfl (bop_add (by omega) (by omega))) ?_
          refine s1 rfl (lop_assign (v := .int _ _) rfl) ?_
          refine ops_nil ?_
          exact ⟨⟨i + 1, by omega, none_step (p := encP l nodes) hn h_t83 (by unfold encP; simp_all)⟩, by simp only; omega, le_mk ⟨rfl, rfl, rfl, rfl, rfl, trivial⟩ ⟨.inr rfl, .inr rfl, trivial⟩ rfl⟩
      · refine n1 rfl rfl g18_3 ?_
        refine n1 rfl rfl g18_3 ?_
        first
          | refine s1 rfl (lop_pick_f (v := .bool _) rfl g18_3 rfl) ?_
          | refine s1 rfl (lop_pick_t (v := .bool _) rfl rfl rfl) ?_
          | refine s1 rfl (lop_pick_f (v := .bool _) rfl rfl rfl) ?_
          | refine s1 rfl (lop_pick rfl rfl rfl) ?_
        refine ops_nil ?_
        refine ok_false rfl rfl ?_
        refine ok_skip ?_
        refine ok_region ?_
        refine s1 rfl (lop_move (v := .int _ _) rfl) ?_
        refine s1 rfl (lop_bop rfl rfl rfl (bop_add (by omega) (by omega))) ?_
        refine s1 rfl (lop_assign (v := .int _ _) rfl) ?_
        refine ops_nil ?_
        exact ⟨⟨i + 1, by omega, none_step (p := encP l nodes) hn h_t83 (by unfold encP; simp_all)⟩, by simp only; omega, le_mk ⟨rfl, rfl, rfl, rfl, rfl, trivial⟩ ⟨.inr rfl, .inr rfl, trivial⟩ rfl⟩
    · have hs1 : (encodeF l nodes x.vols).2 = false := by unfold encodeF; rw [find_no (p := encP l nodes) (fun j hj => hn j hj (by omega))]
      refine ok_exit ?_
      refine ok_seq ?_
      refine ok_reg ?_
      refine s1 rfl (lop_assign (v := .int _ _) rfl) ?_
      refine ops_nil ?_
      refine ok_block ?_
      refine ok_loop (ι := {i : Nat // i ≤ x.vols.length ∧ ∀ j, (h : j < x.vols.length) → j < i → pairG l nodes x.vols j = none}) (fun i => ⟨[(1, rowOf InvD.enc l), (2, i64 nodes), (3, .rf 3 0), (6, .rf 6 0), (16, i64 i.1)], [(3, some (true, x.enc)), (6, some (true, actZ))], 220⟩) (fun i => x.vols.length - i.1) (⟨0, Nat.zero_le _, fun _ _ h => absurd h (Nat.not_lt_zero _)⟩) ?_ ?_
      · exact le_mk ⟨rfl, rfl, rfl, rfl, rfl, trivial⟩ ⟨.inr rfl, .inr rfl, trivial⟩ rfl
      rintro ⟨i, hi, hn⟩
      dsimp only
      refine ok_seq ?_
      refine ok_reg ?_
      refine s1 rfl (lop_move (v := .int _ _) rfl) ?_
      first
        | refine s1 rfl (lop_fieldAddr_rf (fo := 0) rfl Try.underlying26 rfl rfl Try.sizeOf22 (by decide)) ?_
        | refine s1 rfl (lop_fieldAddr_fp (fo := 0) rfl Try.underlying26 rfl rfl Try.sizeOf22 (by decide) rfl) ?_
      first
        | refine s1 rfl (lop_load_rf rfl rfl Try.isAgg22 rfl) ?_
        | refine s1 rfl (lop_load_fp rfl Try.isAgg22 rfl) ?_
      refine s1 rfl (lop_len rfl Try.underlying22 ⟨⟨_, rfl⟩, rfl⟩) ?_
      refine s1 rfl (lop_lss rfl rfl) ?_
      refine ops_nil ?_
      first
        | refine ok_if _ rfl rfl (fun h_t120 => ?_) (fun h_t120 => ?_)
        | refine ok_cond rfl rfl (fun h_t120 => ?_) (fun h_t120 => ?_)
      · have h_t120 : i < x.vols.length := Int.ofNat_lt.1 h_t120
        refine ok_skip ?_
        refine ok_seq ?_
        refine ok_block ?_
        refine ok_seq ?_
        refine ok_reg ?_
        first
          | refine s1 rfl (lop_fieldAddr_rf (fo := 0) rfl Try.underlying26 rfl rfl Try.sizeOf22 (by decide)) ?_
          | refine s1 rfl (lop_fieldAddr_fp (fo := 0) rfl Try.underlying26 rfl rfl Try.sizeOf22 (by decide) rfl) ?_
        first
          | refine s1 rfl (lop_load_rf rfl rfl Try.isAgg22 rfl) ?_
          | refine s1 rfl (lop_load_fp rfl Try.isAgg22 rfl) ?_
        refine s1 rfl (lop_move (v := .int _ _) rfl) ?_
        first
          | refine s1 rfl (lop_indexAddr_os rfl rfl Try.underlying22 Try.sizeOf39 rfl h_t120) ?_
          | refine s1 rfl (lop_indexAddr_sl rfl rfl Try.underlying22 Try.sizeOf39 rfl h_t120 (flat_at VolD.len h_t120) (flat_ne VolD.len (by decide) h_t120)) ?_
        first
          | refine s1 rfl (lop_fieldAddr_rf (fo := 4) rfl Try.underlying39 rfl rfl Try.sizeOf3 (by decide)) ?_
          | refine s1 rfl (lop_fieldAddr_fp (fo := 4) rfl Try.underlying39 rfl rfl Try.sizeOf3 (by decide) rfl) ?_
        first
          | refine s1 rfl (lop_load_rf rfl rfl Try.isAgg3 rfl) ?_
          | refine s1 rfl (lop_load_fp rfl Try.isAgg3 rfl) ?_
        refine s1 rfl (lop_neq rfl rfl) ?_
        refine ops_nil ?_
        first
          | refine ok_if _ rfl rfl (fun h_t129 => ?_) (fun h_t129 => ?_)
          | refine ok_cond rfl rfl (fun h_t129 => ?_) (fun h_t129 => ?_)
        · refine ok_exit ?_
          refine ok_region ?_
          refine s1 rfl (lop_move (v := .int _ _) rfl) ?_
          refine s1 rfl (lop_bop rfl rfl rfl (bop_add (by omega) (by omega))) ?_
          refine s1 rfl (lop_assign (v := .int _ _) rfl) ?_
          refine ops_nil ?_
          exact ⟨⟨i + 1, by omega, noneN_step hn (by rw [pairG_ref, getD_at _ h_t120, if_neg h_t129])⟩, by simp only; omega, le_mk ⟨rfl, rfl, rfl, rfl, rfl, trivial⟩ ⟨.inr rfl, .inr rfl, trivial⟩ rfl⟩
        · have h_t129 : x.vols[i].phase = 3 := Decidable.byContradiction h_t129
          refine ok_skip ?_
          refine ok_reg ?_
          first
            | refine s1 rfl (lop_load_rf_agg (ys := [_, _, _]) rfl rfl Try.isAgg26 Try.sizeOf26 (Nat.le_of_ble_eq_true rfl) rfl) ?_
            | refine s1 rfl (lop_load_fp_agg (ys := [_, _, _]) rfl Try.isAgg26 Try.sizeOf26 (Nat.le_of_ble_eq_true rfl) rfl) ?_
          first
            | refine s1 rfl (lop_move (v := .sl _ _) rfl) ?_
            | refine s1 rfl (lop_move (v := .os _ _ _ _) rfl) ?_
            | refine s1 rfl (lop_move (v := .z0) rfl) ?_
          refine s1 rfl (lop_move (v := .int _ _) rfl) ?_
          refine s1 rfl (lop_move (v := .int _ _) rfl) ?_
          refine s1 rfl (lop_call rfl Try.call36 (FrzL.tf rfl) (.inl rfl) (ref16_pair_ac x hx hl nodes h_t120)) ?_
          refine s1 rfl (lop_move (v := .tup _) rfl) ?_
          refine s1 rfl (lop_extract rfl rfl) ?_
          refine s1 rfl (lop_extract rfl rfl) ?_
          refine s1w rfl (lop_new (t := 17) (cs := [.int _ _, .int _ _, .int _ _, .int _ _, .z0, .int _ _, .int _ _]) Try.zeroValue34 rfl rfl rfl rfl) rfl ?_
          first
            | refine s0w rfl (lop_storeK (v := .agg [.int _ _, .int _ _, .int _ _, .int _ _, _, .int _ _, .int _ _]) (cs' := [.int _ _, .int _ _, .int _ _, .int _ _, _, .int _ _, .int _ _]) (f' := true) rfl rfl rfl Try.sizeOf34 rfl rfl rfl rfl rfl) ?_
            | refine s0w rfl (lop_storeK (v := .agg [.int _ _, .int _ _, .int _ _, .int _ _, _, .int _ _, .int _ _]) (cs' := [.int _ _, .int _ _, .int _ _, .int _ _, _, .int _ _, .int _ _]) (f' := false) rfl rfl rfl Try.sizeOf34 rfl rfl rfl rfl rfl) ?_
          refine s1 rfl (lop_assign (v := .bool _) rfl) ?_
          refine ops_nil ?_
          refine ok_reg ?_
          refine s1 rfl (lop_move (v := .bool _) rfl) ?_
          refine ops_nil ?_
          first
            | refine ok_if _ rfl rfl (fun h_t138 => ?_) (fun h_t138 => ?_)
            | refine ok_cond rfl rfl (fun h_t138 => ?_) (fun h_t138 => ?_)
          · refine ok_reg ?_
            first
              | refine s1 rfl (lop_load_rf_agg (ys := [.int _ _, .int _ _, .int _ _, .int _ _, _, .int _ _, .int _ _]) rfl rfl Try.isAgg34 Try.sizeOf34 (Nat.le_of_ble_eq_true rfl) rfl) ?_
              | refine s1 rfl (lop_load_fp_agg (ys := [.int _ _, .int _ _, .int _ _, .int _ _, _, .int _ _, .int _ _]) rfl Try.isAgg34 Try.sizeOf34 (Nat.le_of_ble_eq_true rfl) rfl) ?_
            first
              | refine s0w rfl (lop_storeK (v := .agg [.int _ _, .int _ _, .int _ _, .int _ _, _, .int _ _, .int _ _]) (cs' := [.int _ _, .int _ _, .int _ _, .int _ _, _, .int _ _, .int _ _]) (f' := true) rfl rfl rfl Try.sizeOf34 rfl rfl rfl rfl rfl) ?_
              | refine s0w rfl (lop_storeK (v := .agg [.int _ _, .int _ _, .int _ _, .int _ _, _, .int _ _, .int _ _]) (cs' := [.int _ _, .int _ _, .int _ _, .int _ _, _, .int _ _, .int _ _]) (f' := false) rfl rfl rfl Try.sizeOf34 rfl rfl rfl rfl rfl) ?_
            refine ops_nil ?_
            refine ok_ret ?_
            have e1 : pairF l nodes x.vols = ((refPair l nodes x.vols i).1, true) := by unfold pairF; rw [findSome_at (f := pairG l nodes x.vols) h_t120 (by rw [pairG_ref, getD_at _ h_t120, if_pos h_t129, if_pos h_t138]) (fun j hj => hn j (by omega) hj)]
            have e2 : planNextF x l nodes = (refPair l nodes x.vols i).1 := by
              rw [planNext_at (i := 2) (by decide) (fun j hj => by
                match j, hj with
                | 0, _ => exact hs0
                | 1, _ => exact hs1) (show (pairF l nodes x.vols).2 = true from by rw [e1])]
              show (pairF l nodes x.vols).1 = _
              rw [e1]
            rw [e2]
            exact ret_gen (R := [6]) ⟨_, _, rfl, ⟨rfl, 6, 0, _, _, rfl, rfl, .inl ⟨7, Try.isAgg34, Try.sizeOf34, Nat.le_of_ble_eq_true rfl, rfl⟩⟩, rfl⟩ (.agg (fzL_sound _ [6] _ rfl)) (fun t ht => by simp at ht; subst ht; exact Option.some_ne_none _)
          · refine ok_skip ?_
            refine ok_region ?_
            refine s1 rfl (lop_move (v := .int _ _) rfl) ?_
            refine s1 rfl (lop_bop rfl rfl rfl (bop_add (by omega) (by omega))) ?_
            refine s1 rfl (lop_assign (v := .int _ _) rfl) ?_
            refine ops_nil ?_
            exact ⟨⟨i + 1, by omega, noneN_step hn (by rw [pairG_ref, getD_at _ h_t120, if_pos h_t129, if_neg (by simpa using h_t138)])⟩, by simp only; omega, le_mk ⟨rfl, rfl, rfl, rfl, rfl, trivial⟩ ⟨.inr rfl, .inr rfl, trivial⟩ rfl⟩
      · have hs2 : (pairF l nodes x.vols).2 = false := by unfold pairF; rw [findSome_no (fun j hj => hn j hj (by omega))]
        refine ok_exit ?_
        refine ok_seq ?_
        refine ok_reg ?_
        refine s1 rfl (lop_assign (v := .int _ _) rfl) ?_
        refine ops_nil ?_
        refine ok_block ?_
        refine ok_loop (ι := {i : Nat // i ≤ x.vols.length ∧ ∀ j, (h : j < x.vols.length) → j < i → lockP x.vols[j] = false}) (fun i => ⟨[(1, rowOf InvD.enc l), (2, i64 nodes), (3, .rf 3 0), (6, .rf 6 0), (19, i64 i.1)], [(3, some (true, x.enc)), (6, some (true, actZ))], 220⟩) (fun i => x.vols.length - i.1) (⟨0, Nat.zero_le _, fun _ _ h => absurd h (Nat.not_lt_zero _)⟩) ?_ ?_
        · exact le_mk ⟨rfl, rfl, rfl, rfl, rfl, trivial⟩ ⟨.inr rfl, .inr rfl, trivial⟩ rfl
        rintro ⟨i, hi, hn⟩
        dsimp only
        refine ok_seq ?_
        refine ok_reg ?_
        refine s1 rfl (lop_move (v := .int _ _) rfl) ?_
        first
          | refine s1 rfl (lop_fieldAddr_rf (fo := 0) rfl Try.underlying26 rfl rfl Try.sizeOf22 (by decide)) ?_
          | refine s1 rfl (lop_fieldAddr_fp (fo := 0) rfl Try.underlying26 rfl rfl Try.sizeOf22 (by decide) rfl) ?_
        first
          | refine s1 rfl (lop_load_rf rfl rfl Try.isAgg22 rfl) ?_
          | refine s1 rfl (lop_load_fp rfl Try.isAgg22 rfl) ?_
        refine s1 rfl (lop_len rfl Try.underlying22 ⟨⟨_, rfl⟩, rfl⟩) ?_
        refine s1 rfl (lop_lss rfl rfl) ?_
        refine ops_nil ?_
        first
          | refine ok_if _ rfl rfl (fun h_t144 => ?_) (fun h_t144 => ?_)
          | refine ok_cond rfl rfl (fun h_t144 => ?_) (fun h_t144 => ?_)
        · have h_t144 : i < x.vols.length := Int.ofNat_lt.1 h_t144
          refine ok_skip ?_
          refine ok_seq ?_
          refine ok_block ?_
          refine ok_reg ?_
          first
            | refine s1 rfl (lop_fieldAddr_rf (fo := 0) rfl Try.underlying26 rfl rfl Try.sizeOf22 (by decide)) ?_
            | refine s1 rfl (lop_fieldAddr_fp (fo := 0) rfl Try.underlying26 rfl rfl Try.sizeOf22 (by decide) rfl) ?_
          first
            | refine s1 rfl (lop_load_rf rfl rfl Try.isAgg22 rfl) ?_
            | refine s1 rfl (lop_load_fp rfl Try.isAgg22 rfl) ?_
          refine s1 rfl (lop_move (v := .int _ _) rfl) ?_
          first
            | refine s1 rfl (lop_indexAddr_os rfl rfl Try.underlying22 Try.sizeOf39 rfl h_t144) ?_
            | refine s1 rfl (lop_indexAddr_sl rfl rfl Try.underlying22 Try.sizeOf39 rfl h_t144 (flat_at VolD.len h_t144) (flat_ne VolD.len (by decide) h_t144)) ?_
          first
            | refine s1 rfl (lop_fieldAddr_rf (fo := 4) rfl Try.underlying39 rfl rfl Try.sizeOf3 (by decide)) ?_
            | refine s1 rfl (lop_fieldAddr_fp (fo := 4) rfl Try.underlying39 rfl rfl Try.sizeOf3 (by decide) rfl) ?_
          first
            | refine s1 rfl (lop_load_rf rfl rfl Try.isAgg3 rfl) ?_
            | refine s1 rfl (lop_load_fp rfl Try.isAgg3 rfl) ?_
          refine s1 rfl (lop_eql rfl rfl) ?_
          refine s1 rfl (lop_move (v := .bool _) rfl) ?_
          first
            | refine gsplitP 7 rfl rfl (fun g30_7 p30_7 => ?_) (fun g30_7 p30_7 => ?_)
            | refine gsplitB 7 rfl rfl (fun g30_7 p30_7 => ?_) (fun g30_7 p30_7 => ?_)
          · first
              | refine y1 rfl rfl g30_7 rfl (lop_fieldAddr_rf (fo := 0) rfl Try.underlying26 rfl rfl Try.sizeOf22 (by decide)) ?_
              | refine y1 rfl rfl g30_7 rfl (lop_fieldAddr_fp (fo := 0) rfl Try.underlying26 rfl rfl Try.sizeOf22 (by decide) rfl) ?_
            first
              | refine y1 rfl rfl g30_7 rfl (lop_load_rf rfl rfl Try.isAgg22 rfl) ?_
              | refine y1 rfl rfl g30_7 rfl (lop_load_fp rfl Try.isAgg22 rfl) ?_
            refine y1 rfl rfl g30_7 rfl (lop_move (v := .int _ _) rfl) ?_
            first
              | refine y1 rfl rfl g30_7 rfl (lop_indexAddr_os rfl rfl Try.underlying22 Try.sizeOf39 rfl h_t144) ?_
              | refine y1 rfl rfl g30_7 rfl (lop_indexAddr_sl rfl rfl Try.underlying22 Try.sizeOf39 rfl h_t144 (flat_at VolD.len h_t144) (flat_ne VolD.len (by decide) h_t144)) ?_
            first
              | refine y1 rfl rfl g30_7 rfl (lop_fieldAddr_rf (fo := 3) rfl Try.underlying39 rfl rfl Try.sizeOf3 (by decide)) ?_
              | refine y1 rfl rfl g30_7 rfl (lop_fieldAddr_fp (fo := 3) rfl Try.underlying39 rfl rfl Try.sizeOf3 (by decide) rfl) ?_
            first
              | refine y1 rfl rfl g30_7 rfl (lop_load_rf rfl rfl Try.isAgg3 rfl) ?_
              | refine y1 rfl rfl g30_7 rfl (lop_load_fp rfl Try.isAgg3 rfl) ?_
            refine y1 rfl rfl g30_7 rfl (lop_gtr rfl rfl) ?_
            first
              | refine s1 rfl (lop_pick_t (v := .bool _) rfl g30_7 rfl) ?_
              | refine s1 rfl (lop_pick_t (v := .bool _) rfl rfl rfl) ?_
              | refine s1 rfl (lop_pick_f (v := .bool _) rfl rfl rfl) ?_
              | refine s1 rfl (lop_pick rfl rfl rfl) ?_
            refine ops_nil ?_
            first
              | refine ok_if _ rfl rfl (fun h_t162 => ?_) (fun h_t162 => ?_)
              | refine ok_cond rfl rfl (fun h_t162 => ?_) (fun h_t162 => ?_)
            · refine ok_reg ?_
              first
                | refine s1 rfl (lop_fieldAddr_rf (fo := 0) rfl Try.underlying26 rfl rfl Try.sizeOf22 (by decide)) ?_
                | refine s1 rfl (lop_fieldAddr_fp (fo := 0) rfl Try.underlying26 rfl rfl Try.sizeOf22 (by decide) rfl) ?_
              first
                | refine s1 rfl (lop_load_rf rfl rfl Try.isAgg22 rfl) ?_
                | refine s1 rfl (lop_load_fp rfl Try.isAgg22 rfl) ?_
              refine s1 rfl (lop_move (v := .int _ _) rfl) ?_
              first
                | refine s1 rfl (lop_indexAddr_os rfl rfl Try.underlying22 Try.sizeOf39 rfl h_t144) ?_
                | refine s1 rfl (lop_indexAddr_sl rfl rfl Try.underlying22 Try.sizeOf39 rfl h_t144 (flat_at VolD.len h_t144) (flat_ne VolD.len (by decide) h_t144)) ?_
              first
                | refine s1 rfl (lop_fieldAddr_rf (fo := 0) rfl Try.underlying39 rfl rfl Try.sizeOf3 (by decide)) ?_
                | refine s1 rfl (lop_fieldAddr_fp (fo := 0) rfl Try.underlying39 rfl rfl Try.sizeOf3 (by decide) rfl) ?_
              first
                | refine s1 rfl (lop_load_rf rfl rfl Try.isAgg3 rfl) ?_
                | refine s1 rfl (lop_load_fp rfl Try.isAgg3 rfl) ?_
              refine s1 rfl (lop_buildK (cs := [.int _ _, .int _ _, .int _ _, .int _ _, .z0, .int _ _, .int _ _]) Try.underlying34 Try.zeroValue34 rfl rfl places34 rfl) ?_
              first
                | refine s0w rfl (lop_storeK (v := .agg [.int _ _, .int _ _, .int _ _, .int _ _, _, .int _ _, .int _ _]) (cs' := [.int _ _, .int _ _, .int _ _, .int _ _, _, .int _ _, .int _ _]) (f' := true) rfl rfl rfl Try.sizeOf34 rfl rfl rfl rfl rfl) ?_
                | refine s0w rfl (lop_storeK (v := .agg [.int _ _, .int _ _, .int _ _, .int _ _, _, .int _ _, .int _ _]) (cs' := [.int _ _, .int _ _, .int _ _, .int _ _, _, .int _ _, .int _ _]) (f' := false) rfl rfl rfl Try.sizeOf34 rfl rfl rfl rfl rfl) ?_
              refine ops_nil ?_
              refine ok_ret ?_
              have e1 : lockF x.vols = (⟨4, x.vols[i].id, 0, 0, [], ⟨0, 0⟩⟩, true) := by unfold lockF; rw [find_at (p := lockP) h_t144 (by unfold lockP; simp_all) hn]
              have e2 : planNextF x l nodes = ⟨4, x.vols[i].id, 0, 0, [], ⟨0, 0⟩⟩ := by
                rw [planNext_at (i := 3) (by decide) (fun j hj => by
                  match j, hj with
                  | 0, _ => exact hs0
                  | 1, _ => exact hs1
                  | 2, _ => exact hs2) (show (lockF x.vols).2 = true from by rw [e1])]
                show (lockF x.vols).1 = _
                rw [e1]
              rw [e2]
              exact ret_gen (R := [6]) ⟨_, _, rfl, ⟨rfl, 6, 0, _, _, rfl, rfl, .inl ⟨7, Try.isAgg34, Try.sizeOf34, Nat.le_of_ble_eq_true rfl, rfl⟩⟩, rfl⟩ (.agg (fzL_sound _ [6] _ rfl)) (fun t ht => by simp at ht; subst ht; exact Option.some_ne_none _)
            · refine ok_skip ?_
              refine ok_region ?_
              refine s1 rfl (lop_move (v := .int _ _) rfl) ?_
              refine s1 rfl (lop_bop rfl rfl rfl (bop_add (by omega) (by omega))) ?_
              refine s1 rfl (lop_assign (v := .int _ _) rfl) ?_
              refine ops_nil ?_
              exact ⟨⟨i + 1, by omega, none_step (p := lockP) hn h_t144 (by unfold lockP; simp_all)⟩, by simp only; omega, le_mk ⟨rfl, rfl, rfl, rfl, rfl, trivial⟩ ⟨.inr rfl, .inr rfl, trivial⟩ rfl⟩
          · refine n1 rfl rfl g30_7 ?_
            refine n1 rfl rfl g30_7 ?_
            refine n1 rfl rfl g30_7 ?_
            refine n1 rfl rfl g30_7 ?_
            refine n1 rfl rfl g30_7 ?_
            refine n1 rfl rfl g30_7 ?_
            refine n1 rfl rfl g30_7 ?_
            first
              | refine s1 rfl (lop_pick_f (v := .bool _) rfl g30_7 rfl) ?_
              | refine s1 rfl (lop_pick_t (v := .bool _) rfl rfl rfl) ?_
              | refine s1 rfl (lop_pick_f (v := .bool _) rfl rfl rfl) ?_
              | refine s1 rfl (lop_pick rfl rfl rfl) ?_
            refine ops_nil ?_
            refine ok_false rfl rfl ?_
            refine ok_skip ?_
            refine ok_region ?_
            refine s1 rfl (lop_move (v := .int _ _) rfl) ?_
            refine s1 rfl (lop_bop rfl rfl rfl (bop_add (by omega) (by omega))) ?_
            refine s1 rfl (lop_assign (v := .int _ _) rfl) ?_
            refine ops_nil ?_
            exact ⟨⟨i + 1, by omega, none_step (p := lockP) hn h_t144 (by unfold lockP; simp_all)⟩, by simp only; omega, le_mk ⟨rfl, rfl, rfl, rfl, rfl, trivial⟩ ⟨.inr rfl, .inr rfl, trivial⟩ rfl⟩
        · have hs3 : (lockF x.vols).2 = false := by unfold lockF; rw [find_no (p := lockP) (fun j hj => hn j hj (by omega))]
          refine ok_exit ?_
          refine ok_seq ?_
          refine ok_reg ?_
          refine s1 rfl (lop_assign (v := .int _ _) rfl) ?_
          refine ops_nil ?_
          refine ok_block ?_
          refine ok_loop (ι := {i : Nat // i ≤ l.length ∧ ∀ j, (h : j < l.length) → j < i → dropP x l[j] = false}) (fun i => ⟨[(1, rowOf InvD.enc l), (2, i64 nodes), (3, .rf 3 0), (6, .rf 6 0), (20, i64 i.1)], [(3, some (true, x.enc)), (6, some (true, actZ))], 220⟩) (fun i => l.length - i.1) (⟨0, Nat.zero_le _, fun _ _ h => absurd h (Nat.not_lt_zero _)⟩) ?_ ?_
          · exact le_mk ⟨rfl, rfl, rfl, rfl, rfl, trivial⟩ ⟨.inr rfl, .inr rfl, trivial⟩ rfl
          rintro ⟨i, hi, hn⟩
          dsimp only
          refine ok_seq ?_
          refine ok_reg ?_
          refine s1 rfl (lop_move (v := .int _ _) rfl) ?_
          first
            | refine s1 rfl (lop_move (v := .sl _ _) rfl) ?_
            | refine s1 rfl (lop_move (v := .os _ _ _ _) rfl) ?_
            | refine s1 rfl (lop_move (v := .z0) rfl) ?_
          refine s1 rfl (lop_len rfl Try.underlying27 ⟨⟨_, rfl⟩, rfl⟩) ?_
          refine s1 rfl (lop_lss rfl rfl) ?_
          refine ops_nil ?_
          first
            | refine ok_if _ rfl rfl (fun h_t173 => ?_) (fun h_t173 => ?_)
            | refine ok_cond rfl rfl (fun h_t173 => ?_) (fun h_t173 => ?_)
          · have h_t173 : i < l.length := Int.ofNat_lt.1 h_t173
            have hkl := hl.2 l[i] (List.getElem_mem h_t173)
            refine ok_skip ?_
            refine ok_seq ?_
            refine ok_block ?_
            refine ok_reg ?_
            refine s1 rfl (lop_assign (v := .int _ _) rfl) ?_
            refine ops_nil ?_
            refine ok_block ?_
            refine ok_loop (ι := {k : Nat // k ≤ l[i].keys.length ∧ ∀ j, (h : j < l[i].keys.length) → j < k → (fun k => l[i].live && oldAt x k) l[i].keys[j] = false}) (fun k => ⟨[(1, rowOf InvD.enc l), (2, i64 nodes), (3, .rf 3 0), (6, .rf 6 0), (20, i64 i), (21, i64 k.1)], [(3, some (true, x.enc)), (6, some (true, actZ))], 220⟩) (fun k => l[i].keys.length - k.1) (⟨0, Nat.zero_le _, fun _ _ h => absurd h (Nat.not_lt_zero _)⟩) ?_ ?_
            · exact le_mk ⟨rfl, rfl, rfl, rfl, rfl, rfl, trivial⟩ ⟨.inr rfl, .inr rfl, trivial⟩ rfl
            rintro ⟨k, hki, hk⟩
            dsimp only
            refine ok_seq ?_
            refine ok_reg ?_
            refine s1 rfl (lop_move (v := .int _ _) rfl) ?_
            first
              | refine s1 rfl (lop_move (v := .sl _ _) rfl) ?_
              | refine s1 rfl (lop_move (v := .os _ _ _ _) rfl) ?_
              | refine s1 rfl (lop_move (v := .z0) rfl) ?_
            refine s1 rfl (lop_move (v := .int _ _) rfl) ?_
            first
              | refine s1 rfl (lop_indexAddr_os rfl rfl Try.underlying27 Try.sizeOf44 rfl h_t173) ?_
              | refine s1 rfl (lop_indexAddr_sl rfl rfl Try.underlying27 Try.sizeOf44 rfl h_t173 (flat_at InvD.len h_t173) (flat_ne InvD.len (by decide) h_t173)) ?_
            first
              | refine s1 rfl (lop_fieldAddr_rf (fo := 3) rfl Try.underlying44 rfl rfl Try.sizeOf42 (by decide)) ?_
              | refine s1 rfl (lop_fieldAddr_fp (fo := 3) rfl Try.underlying44 rfl rfl Try.sizeOf42 (by decide) rfl) ?_
            first
              | refine s1 rfl (lop_load_rf rfl rfl Try.isAgg42 rfl) ?_
              | refine s1 rfl (lop_load_fp rfl Try.isAgg42 rfl) ?_
            refine s1 rfl (lop_len rfl Try.underlying42 ⟨⟨_, rfl⟩, rfl⟩) ?_
            refine s1 rfl (lop_lss rfl rfl) ?_
            refine s1 rfl (lop_move (v := .bool _) rfl) ?_
            first
              | refine gsplitP 8 rfl rfl (fun g36_8 p36_8 => ?_) (fun g36_8 p36_8 => ?_)
              | refine gsplitB 8 rfl rfl (fun g36_8 p36_8 => ?_) (fun g36_8 p36_8 => ?_)
            · have hkk : k < l[i].keys.length := Int.ofNat_lt.1 p36_8
              first
                | refine y1 rfl rfl g36_8 rfl (lop_move (v := .sl _ _) rfl) ?_
                | refine y1 rfl rfl g36_8 rfl (lop_move (v := .os _ _ _ _) rfl) ?_
                | refine y1 rfl rfl g36_8 rfl (lop_move (v := .z0) rfl) ?_
              refine y1 rfl rfl g36_8 rfl (lop_move (v := .int _ _) rfl) ?_
              first
                | refine y1 rfl rfl g36_8 rfl (lop_indexAddr_os rfl rfl Try.underlying27 Try.sizeOf44 rfl h_t173) ?_
                | refine y1 rfl rfl g36_8 rfl (lop_indexAddr_sl rfl rfl Try.underlying27 Try.sizeOf44 rfl h_t173 (flat_at InvD.len h_t173) (flat_ne InvD.len (by decide) h_t173)) ?_
              first
                | refine y1 rfl rfl g36_8 rfl (lop_fieldAddr_rf (fo := 2) rfl Try.underlying44 rfl rfl Try.sizeOf4 (by decide)) ?_
                | refine y1 rfl rfl g36_8 rfl (lop_fieldAddr_fp (fo := 2) rfl Try.underlying44 rfl rfl Try.sizeOf4 (by decide) rfl) ?_
              first
                | refine y1 rfl rfl g36_8 rfl (lop_load_rf rfl rfl Try.isAgg4 rfl) ?_
                | refine y1 rfl rfl g36_8 rfl (lop_load_fp rfl Try.isAgg4 rfl) ?_
              first
                | refine s1 rfl (lop_pick_t (v := .bool _) rfl g36_8 rfl) ?_
                | refine s1 rfl (lop_pick_t (v := .bool _) rfl rfl rfl) ?_
                | refine s1 rfl (lop_pick_f (v := .bool _) rfl rfl rfl) ?_
                | refine s1 rfl (lop_pick rfl rfl rfl) ?_
              refine ops_nil ?_
              first
                | refine ok_if _ rfl rfl (fun h_t190 => ?_) (fun h_t190 => ?_)
                | refine ok_cond rfl rfl (fun h_t190 => ?_) (fun h_t190 => ?_)
              · refine ok_skip ?_
                refine ok_seq ?_
                refine ok_block ?_
                refine ok_drw Try.mixed ?_
                first
                  | refine d1 rfl rfl (lop_load_rf_agg (ys := [_, _, _]) rfl rfl Try.isAgg26 Try.sizeOf26 (Nat.le_of_ble_eq_true rfl) rfl) ?_
                  | refine d1 rfl rfl (lop_load_fp_agg (ys := [_, _, _]) rfl Try.isAgg26 Try.sizeOf26 (Nat.le_of_ble_eq_true rfl) rfl) ?_
                first
                  | refine d1 rfl rfl (lop_move (v := .sl _ _) rfl) ?_
                  | refine d1 rfl rfl (lop_move (v := .os _ _ _ _) rfl) ?_
                  | refine d1 rfl rfl (lop_move (v := .z0) rfl) ?_
                refine d1 rfl rfl (lop_move (v := .int _ _) rfl) ?_
                first
                  | refine d1 rfl rfl (lop_indexAddr_os rfl rfl Try.underlying27 Try.sizeOf44 rfl h_t173) ?_
                  | refine d1 rfl rfl (lop_indexAddr_sl rfl rfl Try.underlying27 Try.sizeOf44 rfl h_t173 (flat_at InvD.len h_t173) (flat_ne InvD.len (by decide) h_t173)) ?_
                first
                  | refine d1 rfl rfl (lop_fieldAddr_rf (fo := 3) rfl Try.underlying44 rfl rfl Try.sizeOf42 (by decide)) ?_
                  | refine d1 rfl rfl (lop_fieldAddr_fp (fo := 3) rfl Try.underlying44 rfl rfl Try.sizeOf42 (by decide) rfl) ?_
                first
                  | refine d1 rfl rfl (lop_load_rf rfl rfl Try.isAgg42 rfl) ?_
                  | refine d1 rfl rfl (lop_load_fp rfl Try.isAgg42 rfl) ?_
                refine d1 rfl rfl (lop_move (v := .int _ _) rfl) ?_
                first
                  | refine d1 rfl rfl (lop_indexAddr_os rfl rfl Try.underlying42 Try.sizeOf32 rfl hkk) ?_
                  | refine d1 rfl rfl (lop_indexAddr_sl rfl rfl Try.underlying42 Try.sizeOf32 rfl hkk (flat_at KeyD.len hkk) (flat_ne KeyD.len (by decide) hkk)) ?_
                first
                  | refine d1 rfl rfl (lop_load_rf_agg rfl rfl Try.isAgg32 Try.sizeOf32 (by rw [List.length_append, KeyD.len]; omega) (by rw [List.take_append_of_le_length (by rw [KeyD.len]; omega), List.take_of_length_le (by rw [KeyD.len]; omega)])) ?_
                  | refine d1 rfl rfl (lop_load_fp_agg rfl Try.isAgg32 Try.sizeOf32 (by rw [List.length_append, KeyD.len]; omega) (by rw [List.take_append_of_le_length (by rw [KeyD.len]; omega), List.take_of_length_le (by rw [KeyD.len]; omega)])) ?_
                refine d1 rfl rfl (lop_call rfl Try.call27 (FrzL.tf rfl) (.inl rfl) (ref16_Old_ac x hx l[i].keys[k])) ?_
                refine d1 rfl rfl (lop_assign (v := .bool _) rfl) ?_
                refine dr_nil (by kernel_rfl) ?_
                refine ok_reg ?_
                refine s1 rfl (lop_move (v := .bool _) rfl) ?_
                refine ops_nil ?_
                first
                  | refine ok_if _ rfl rfl (fun h_t203 => ?_) (fun h_t203 => ?_)
                  | refine ok_cond rfl rfl (fun h_t203 => ?_) (fun h_t203 => ?_)
                · refine ok_drw Try.mixed ?_
                  first
                    | refine d1 rfl rfl (lop_move (v := .sl _ _) rfl) ?_
                    | refine d1 rfl rfl (lop_move (v := .os _ _ _ _) rfl) ?_
                    | refine d1 rfl rfl (lop_move (v := .z0) rfl) ?_
                  refine d1 rfl rfl (lop_move (v := .int _ _) rfl) ?_
                  first
                    | refine d1 rfl rfl (lop_indexAddr_os rfl rfl Try.underlying27 Try.sizeOf44 rfl h_t173) ?_
                    | refine d1 rfl rfl (lop_indexAddr_sl rfl rfl Try.underlying27 Try.sizeOf44 rfl h_t173 (flat_at InvD.len h_t173) (flat_ne InvD.len (by decide) h_t173)) ?_
                  first
                    | refine d1 rfl rfl (lop_fieldAddr_rf (fo := 3) rfl Try.underlying44 rfl rfl Try.sizeOf42 (by decide)) ?_
                    | refine d1 rfl rfl (lop_fieldAddr_fp (fo := 3) rfl Try.underlying44 rfl rfl Try.sizeOf42 (by decide) rfl) ?_
                  first
                    | refine d1 rfl rfl (lop_load_rf rfl rfl Try.isAgg42 rfl) ?_
                    | refine d1 rfl rfl (lop_load_fp rfl Try.isAgg42 rfl) ?_
                  refine d1 rfl rfl (lop_move (v := .int _ _) rfl) ?_
                  first
                    | refine d1 rfl rfl (lop_indexAddr_os rfl rfl Try.underlying42 Try.sizeOf32 rfl hkk) ?_
                    | refine d1 rfl rfl (lop_indexAddr_sl rfl rfl Try.underlying42 Try.sizeOf32 rfl hkk (flat_at KeyD.len hkk) (flat_ne KeyD.len (by decide) hkk)) ?_
                  first
                    | refine d1 rfl rfl (lop_load_rf_agg rfl rfl Try.isAgg32 Try.sizeOf32 (by rw [List.length_append, KeyD.len]; omega) (by rw [List.take_append_of_le_length (by rw [KeyD.len]; omega), List.take_of_length_le (by rw [KeyD.len]; omega)])) ?_
                    | refine d1 rfl rfl (lop_load_fp_agg rfl Try.isAgg32 Try.sizeOf32 (by rw [List.length_append, KeyD.len]; omega) (by rw [List.take_append_of_le_length (by rw [KeyD.len]; omega), List.take_of_length_le (by rw [KeyD.len]; omega)])) ?_
                  first
                    | refine d1 rfl rfl (lop_move (v := .sl _ _) rfl) ?_
                    | refine d1 rfl rfl (lop_move (v := .os _ _ _ _) rfl) ?_
                    | refine d1 rfl rfl (lop_move (v := .z0) rfl) ?_
                  refine d1 rfl rfl (lop_move (v := .int _ _) rfl) ?_
                  first
                    | refine d1 rfl rfl (lop_indexAddr_os rfl rfl Try.underlying27 Try.sizeOf44 rfl h_t173) ?_
                    | refine d1 rfl rfl (lop_indexAddr_sl rfl rfl Try.underlying27 Try.sizeOf44 rfl h_t173 (flat_at InvD.len h_t173) (flat_ne InvD.len (by decide) h_t173)) ?_
                  first
                    | refine d1 rfl rfl (lop_fieldAddr_rf (fo := 0) rfl Try.underlying44 rfl rfl Try.sizeOf41 (by decide)) ?_
                    | refine d1 rfl rfl (lop_fieldAddr_fp (fo := 0) rfl Try.underlying44 rfl rfl Try.sizeOf41 (by decide) rfl) ?_
                  first
                    | refine d1 rfl rfl (lop_load_rf_agg (ys := [.int _ _, .int _ _]) rfl rfl Try.isAgg41 Try.sizeOf41 (Nat.le_of_ble_eq_true rfl) rfl) ?_
                    | refine d1 rfl rfl (lop_load_fp_agg (ys := [.int _ _, .int _ _]) rfl Try.isAgg41 Try.sizeOf41 (Nat.le_of_ble_eq_true rfl) rfl) ?_
                  first
                    | refine d1w rfl rfl (lop_buildSlice (t := 217) (cs := [.int _ _, .int _ _]) (f := true) Try.underlying30 Try.sizeOf41 (by decide) Try.zeroValue41 rfl rfl rfl (by decide) rfl (.inr (by decide)) rfl (fun h => by cases h)) ?_
                    | refine d1w rfl rfl (lop_buildSlice (t := 217) (cs := [.int _ _, .int _ _]) (f := false) Try.underlying30 Try.sizeOf41 (by decide) Try.zeroValue41 rfl rfl rfl (by decide) rfl (.inr (by decide)) rfl (fun _ => rfl)) ?_
                  first
                    | refine d1 rfl rfl (lop_buildK (cs := [.int _ _, .int _ _, .int _ _, .int _ _, .sl _ _, .int _ _, .int _ _]) Try.underlying34 Try.zeroValue34 rfl rfl places34 rfl) ?_
                    | refine d1 rfl rfl (lop_buildK (cs := [.int _ _, .int _ _, .int _ _, .int _ _, .os _ _ _ _, .int _ _, .int _ _]) Try.underlying34 Try.zeroValue34 rfl rfl places34 rfl) ?_
                    | refine d1 rfl rfl (lop_buildK (cs := [.int _ _, .int _ _, .int _ _, .int _ _, .z0, .int _ _, .int _ _]) Try.underlying34 Try.zeroValue34 rfl rfl places34 rfl) ?_
                  first
                    | refine d0w rfl rfl (lop_storeK (v := .agg [.int _ _, .int _ _, .int _ _, .int _ _, _, .int _ _, .int _ _]) (cs' := [.int _ _, .int _ _, .int _ _, .int _ _, _, .int _ _, .int _ _]) (f' := true) rfl rfl rfl Try.sizeOf34 rfl rfl rfl rfl rfl) ?_
                    | refine d0w rfl rfl (lop_storeK (v := .agg [.int _ _, .int _ _, .int _ _, .int _ _, _, .int _ _, .int _ _]) (cs' := [.int _ _, .int _ _, .int _ _, .int _ _, _, .int _ _, .int _ _]) (f' := false) rfl rfl rfl Try.sizeOf34 rfl rfl rfl rfl rfl) ?_
                  refine dr_nil (by kernel_rfl) ?_
                  refine ok_ret ?_
                  have e0 : l[i].keys.find? (fun k => l[i].live && oldAt x k) = some l[i].keys[k] := find_at (p := (fun k => l[i].live && oldAt x k)) hkk (by simp_all) hk
                  have e1 : dropF x l = (⟨5, 0, 0, 0, [l[i].place], l[i].keys[k]⟩, true) := by unfold dropF; rw [find_at (p := dropP x) h_t173 (by unfold dropP; rw [e0]; rfl) hn]; simp only; rw [e0]; rfl
                  have e2 : planNextF x l nodes = ⟨5, 0, 0, 0, [l[i].place], l[i].keys[k]⟩ := by
                    rw [planNext_at (i := 4) (by decide) (fun j hj => by
                      match j, hj with
                      | 0, _ => exact hs0
                      | 1, _ => exact hs1
                      | 2, _ => exact hs2
                      | 3, _ => exact hs3) (show (dropF x l).2 = true from by rw [e1])]
                    show (dropF x l).1 = _
                    rw [e1]
                  rw [e2]
                  exact ret_gen (R := [6, 217]) ⟨_, _, rfl, ⟨rfl, 6, 0, _, _, rfl, rfl, .inl ⟨7, Try.isAgg34, Try.sizeOf34, Nat.le_of_ble_eq_true rfl, rfl⟩⟩, rfl⟩ (.agg (fzL_sound _ [6, 217] _ rfl)) (fun t ht => by simp at ht; rcases ht with rfl | rfl <;> exact Option.some_ne_none _)
                · refine ok_skip ?_
                  refine ok_region ?_
                  refine s1 rfl (lop_move (v := .int _ _) rfl) ?_
                  refine s1 rfl (lop_bop rfl rfl rfl (bop_add (by omega) (by omega))) ?_
                  refine s1 rfl (lop_assign (v := .int _ _) rfl) ?_
                  refine ops_nil ?_
                  exact ⟨⟨k + 1, by omega, none_step (p := (fun k => l[i].live && oldAt x k)) hk hkk (by simp_all)⟩, by simp only; omega, le_mk ⟨rfl, rfl, rfl, rfl, rfl, rfl, trivial⟩ ⟨.inr rfl, .inr rfl, trivial⟩ rfl⟩
              · refine ok_exit ?_
                refine ok_region ?_
                refine s1 rfl (lop_move (v := .int _ _) rfl) ?_
                refine s1 rfl (lop_bop rfl rfl rfl (bop_add (by omega) (by omega))) ?_
                refine s1 rfl (lop_assign (v := .int _ _) rfl) ?_
                refine ops_nil ?_
                exact ⟨⟨i + 1, by omega, none_step (p := dropP x) hn h_t173 (drop_dead (by simpa using h_t190))⟩, by simp only; omega, le_mk ⟨rfl, rfl, rfl, rfl, rfl, trivial⟩ ⟨.inr rfl, .inr rfl, trivial⟩ rfl⟩
            · refine n1 rfl rfl g36_8 ?_
              refine n1 rfl rfl g36_8 ?_
              refine n1 rfl rfl g36_8 ?_
              refine n1 rfl rfl g36_8 ?_
              refine n1 rfl rfl g36_8 ?_
              first
                | refine s1 rfl (lop_pick_f (v := .bool _) rfl g36_8 rfl) ?_
                | refine s1 rfl (lop_pick_t (v := .bool _) rfl rfl rfl) ?_
                | refine s1 rfl (lop_pick_f (v := .bool _) rfl rfl rfl) ?_
                | refine s1 rfl (lop_pick rfl rfl rfl) ?_
              refine ops_nil ?_
              refine ok_false rfl rfl ?_
              refine ok_exit ?_
              refine ok_region ?_
              refine s1 rfl (lop_move (v := .int _ _) rfl) ?_
              refine s1 rfl (lop_bop rfl rfl rfl (bop_add (by omega) (by omega))) ?_
              refine s1 rfl (lop_assign (v := .int _ _) rfl) ?_
              refine ops_nil ?_
              exact ⟨⟨i + 1, by omega, none_step (p := dropP x) hn h_t173 (by unfold dropP; rw [find_no (p := (fun k => l[i].live && oldAt x k)) (fun j hj => hk j hj (by omega))]; rfl)⟩, by simp only; omega, le_mk ⟨rfl, rfl, rfl, rfl, rfl, trivial⟩ ⟨.inr rfl, .inr rfl, trivial⟩ rfl⟩
          · have hs4 : (dropF x l).2 = false := by unfold dropF; rw [find_no (p := dropP x) (fun j hj => hn j hj (by omega))]
            refine ok_exit ?_
            refine ok_reg ?_
            refine s1 rfl (lop_buildK (cs := [.int _ _, .int _ _, .int _ _, .int _ _, .z0, .int _ _, .int _ _]) Try.underlying34 Try.zeroValue34 rfl rfl places34 rfl) ?_
            first
              | refine s0w rfl (lop_storeK (v := .agg [.int _ _, .int _ _, .int _ _, .int _ _, _, .int _ _, .int _ _]) (cs' := [.int _ _, .int _ _, .int _ _, .int _ _, _, .int _ _, .int _ _]) (f' := true) rfl rfl rfl Try.sizeOf34 rfl rfl rfl rfl rfl) ?_
              | refine s0w rfl (lop_storeK (v := .agg [.int _ _, .int _ _, .int _ _, .int _ _, _, .int _ _, .int _ _]) (cs' := [.int _ _, .int _ _, .int _ _, .int _ _, _, .int _ _, .int _ _]) (f' := false) rfl rfl rfl Try.sizeOf34 rfl rfl rfl rfl rfl) ?_
            refine ops_nil ?_
            refine ok_ret ?_
            rw [planNext_no (fun j hj => by
              match j, hj with
              | 0, _ => exact hs0
              | 1, _ => exact hs1
              | 2, _ => exact hs2
              | 3, _ => exact hs3
              | 4, _ => exact hs4)]
            exact ret_gen (R := [6]) ⟨_, _, rfl, ⟨rfl, 6, 0, _, _, rfl, rfl, .inl ⟨7, Try.isAgg34, Try.sizeOf34, Nat.le_of_ble_eq_true rfl, rfl⟩⟩, rfl⟩ (.agg (fzL_sound _ [6] _ rfl)) (fun t ht => by simp at ht; subst ht; exact Option.some_ne_none _)

theorem spread_to (vol r many nodes : Int) (live : List Bool) : (spreadF vol r many nodes live).1.length ≤ 1048576 := Nat.le_trans (spreadF_le _ _ _ _ _) (by decide)
theorem planNext_to (x : IdxD) (l : List InvD) (nodes : Int) : (planNextF x l nodes).to.length ≤ 1048576 := by
  have key : ∀ i, i < 5 → (stepF x l nodes i).1.to.length ≤ 1048576 := by
    intro i hi
    match i, hi with
    | 0, _ =>
      simp only [stepF]
      unfold repairF
      split
      · rename_i a ha
        obtain ⟨v, hv, hr⟩ := List.exists_of_findSome?_eq_some ha
        unfold repG at hr
        split at hr
        · cases hr
        · split at hr
          · cases hr; simp
          · split at hr
            · cases hr; simp
            · cases hr
      · simp [ActD.zero]
    | 1, _ =>
      simp only [stepF]
      unfold encodeF
      split
      · exact spread_to _ _ _ _ _
      · simp [ActD.zero]
    | 2, _ =>
      simp only [stepF]
      unfold pairF
      split
      · rename_i a ha
        obtain ⟨v, hv, hr⟩ := List.exists_of_findSome?_eq_some ha
        unfold pairG at hr
        split at hr
        · split at hr
          · cases hr
          · split at hr
            · cases hr; exact spread_to _ _ _ _ _
            · cases hr
        · cases hr
      · simp [ActD.zero]
    | 3, _ =>
      simp only [stepF]
      unfold lockF
      split
      · simp
      · simp [ActD.zero]
    | 4, _ =>
      simp only [stepF]
      unfold dropF
      split
      · simp
      · simp [ActD.zero]
  unfold planNextF
  by_cases h0 : (stepF x l nodes 0).2 = true
  · rw [if_pos h0]; exact key 0 (by decide)
  rw [if_neg h0]
  by_cases h1 : (stepF x l nodes 1).2 = true
  · rw [if_pos h1]; exact key 1 (by decide)
  rw [if_neg h1]
  by_cases h2 : (stepF x l nodes 2).2 = true
  · rw [if_pos h2]; exact key 2 (by decide)
  rw [if_neg h2]
  by_cases h3 : (stepF x l nodes 3).2 = true
  · rw [if_pos h3]; exact key 3 (by decide)
  rw [if_neg h3]
  by_cases h4 : (stepF x l nodes 4).2 = true
  · rw [if_pos h4]; exact key 4 (by decide)
  rw [if_neg h4]
  simp [ActD.zero]

theorem PlanNexts_ac (x : IdxD) (hx : VolsOk x.vols) {l : List InvD} (hl : InvsOk l) (nodes : Int) : AC Try.prog 3 [.agg x.enc, rowOf InvD.enc l, i64 nodes] (.bool true) := by
  refine AC.intro Try.func3 rfl (Nat.le_of_ble_eq_true rfl) ?_
  refine ok_reg ?_
  first
    | refine s1w rfl (lop_box (t := 3) (v := .agg [_, _, _]) (f := true) (cs := [_, _, _]) rfl rfl rfl rfl (fun h => by cases h)) rfl ?_
    | refine s1w rfl (lop_box (t := 3) (v := .agg [_, _, _]) (f := false) (cs := [_, _, _]) rfl rfl rfl rfl (fun _ => rfl)) rfl ?_
  refine s1 rfl (lop_assign (v := .bool _) rfl) ?_
  refine ops_nil ?_
  refine ok_reg ?_
  refine s1 rfl (lop_call rfl Try.call9 (FrzL.tf rfl) (.inl rfl) shown_ac) ?_
  refine s1 rfl (lop_assign (v := .bool _) rfl) ?_
  refine ops_nil ?_
  refine ok_drw Try.mixed ?_
  first
    | refine d1 rfl rfl (lop_load_rf_agg (ys := [_, _, _]) rfl rfl Try.isAgg26 Try.sizeOf26 (Nat.le_of_ble_eq_true rfl) rfl) ?_
    | refine d1 rfl rfl (lop_load_fp_agg (ys := [_, _, _]) rfl Try.isAgg26 Try.sizeOf26 (Nat.le_of_ble_eq_true rfl) rfl) ?_
  first
    | refine d1 rfl rfl (lop_move (v := .sl _ _) rfl) ?_
    | refine d1 rfl rfl (lop_move (v := .os _ _ _ _) rfl) ?_
    | refine d1 rfl rfl (lop_move (v := .z0) rfl) ?_
  refine d1 rfl rfl (lop_move (v := .int _ _) rfl) ?_
  refine d1 rfl rfl (lop_call rfl Try.call11 (FrzL.tf rfl) (.inl rfl) (plan_Next_ac x hx hl nodes)) ?_
  first
    | refine d1 rfl rfl (lop_load_rf_agg (ys := [_, _, _]) rfl rfl Try.isAgg26 Try.sizeOf26 (Nat.le_of_ble_eq_true rfl) rfl) ?_
    | refine d1 rfl rfl (lop_load_fp_agg (ys := [_, _, _]) rfl Try.isAgg26 Try.sizeOf26 (Nat.le_of_ble_eq_true rfl) rfl) ?_
  first
    | refine d1 rfl rfl (lop_move (v := .sl _ _) rfl) ?_
    | refine d1 rfl rfl (lop_move (v := .os _ _ _ _) rfl) ?_
    | refine d1 rfl rfl (lop_move (v := .z0) rfl) ?_
  refine d1 rfl rfl (lop_move (v := .int _ _) rfl) ?_
  refine d1 rfl rfl (lop_call rfl Try.call12 (FrzL.tf rfl) (.inl rfl) (ref16_Next_ac x hx hl nodes)) ?_
  refine d1 rfl rfl (lop_call rfl Try.call10 (FrzL.tf rfl) (.inl rfl) (ref16_Same_ac (planNextF x l nodes) (planNext_to x l nodes))) ?_
  refine d1 rfl rfl (lop_assign (v := .bool _) rfl) ?_
  refine dr_nil (by kernel_rfl) ?_
  refine ok_reg ?_
  refine s1 rfl (lop_move (v := .bool _) rfl) ?_
  refine s1 rfl (lop_move (v := .bool _) rfl) ?_
  refine y1 rfl rfl rfl rfl (lop_move (v := .bool _) rfl) ?_
  first
    | refine s1 rfl (lop_pick_t (v := .bool _) rfl rfl rfl) ?_
    | refine s1 rfl (lop_pick_t (v := .bool _) rfl rfl rfl) ?_
    | refine s1 rfl (lop_pick_f (v := .bool _) rfl rfl rfl) ?_
    | refine s1 rfl (lop_pick rfl rfl rfl) ?_
  refine s1 rfl (lop_assign (v := .bool _) rfl) ?_
  refine ops_nil ?_
  refine ok_ret ?_
  exact ret_one rfl rfl rfl rfl rfl

end Go.Proofs
