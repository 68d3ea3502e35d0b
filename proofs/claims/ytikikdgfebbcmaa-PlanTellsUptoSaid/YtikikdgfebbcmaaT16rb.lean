/- Chapter 16: walks. Printed by gen.py. -/
import Derived.Test.YtikikdgfebbcmaaT16ra
set_option linter.unusedVariables false
set_option linter.unusedSimpArgs false
set_option maxRecDepth 100000
namespace Go.Proofs
open Go.Hg

theorem ref16_Lost_ac (v : VolD) (hv : v.ok) {l : List InvD} (hl : InvsOk l) : AC Try.prog 24 [.agg v.enc, rowOf InvD.enc l] (rowOf intEnc (lostL v l)) := by
  have hvp := hv.places
  refine AC.intro Try.func24 rfl (Nat.le_of_ble_eq_true rfl) ?_
  refine ok_reg ?_
  first
    | refine s1w rfl (lop_box (t := 2) (v := .agg [.int _ _, .int _ _, .int _ _, .int _ _, .int _ _, _, _, .int _ _, .int _ _]) (f := true) (cs := [.int _ _, .int _ _, .int _ _, .int _ _, .int _ _, _, _, .int _ _, .int _ _]) rfl rfl rfl rfl (fun h => by cases h)) rfl ?_
    | refine s1w rfl (lop_box (t := 2) (v := .agg [.int _ _, .int _ _, .int _ _, .int _ _, .int _ _, _, _, .int _ _, .int _ _]) (f := false) (cs := [.int _ _, .int _ _, .int _ _, .int _ _, .int _ _, _, _, .int _ _, .int _ _]) rfl rfl rfl rfl (fun _ => rfl)) rfl ?_
  first
    | refine s1 rfl (lop_assign (v := .sl _ _) rfl) ?_
    | refine s1 rfl (lop_assign (v := .os _ _ _ _) rfl) ?_
    | refine s1 rfl (lop_assign (v := .z0) rfl) ?_
  refine ops_nil ?_
  refine ok_reg ?_
  first
    | refine s1 rfl (lop_assign (v := .sl _ _) rfl) ?_
    | refine s1 rfl (lop_assign (v := .os _ _ _ _) rfl) ?_
    | refine s1 rfl (lop_assign (v := .z0) rfl) ?_
  refine ops_nil ?_
  refine ok_seq ?_
  refine ok_reg ?_
  refine s1 rfl (lop_assign (v := .int _ _) rfl) ?_
  refine ops_nil ?_
  refine ok_block ?_
  refine ok_loop (ι := {i : Nat // i ≤ v.places.length}) (fun i => ⟨[(1, rowOf InvD.enc l), (2, .rf 2 0), (5, .os 100 0 1 (lostP l v.id v.places i.1).length), (6, i64 i.1)], [(2, some (true, v.enc)), (100, some (true, (lostP l v.id v.places i.1).flatMap intEnc))], 33⟩) (fun i => v.places.length - i.1) (⟨0, Nat.zero_le _⟩) ?_ ?_
  · exact le_ren [(100, none)] ⟨rfl, rfl, rfl, rfl, trivial⟩ rfl ⟨⟨_, rfl, rfl⟩, ⟨rfl, rfl⟩, trivial⟩ rfl rfl rfl
  rintro ⟨i, hi⟩
  dsimp only
  have hle := lostP_le l v.id v.places i
  refine ok_seq ?_
  refine ok_reg ?_
  refine s1 rfl (lop_move (v := .int _ _) rfl) ?_
  first
    | refine s1 rfl (lop_fieldAddr_rf (fo := 6) rfl Try.underlying39 rfl rfl Try.sizeOf30 (by decide)) ?_
    | refine s1 rfl (lop_fieldAddr_fp (fo := 6) rfl Try.underlying39 rfl rfl Try.sizeOf30 (by decide) rfl) ?_
  first
    | refine s1 rfl (lop_load_rf rfl rfl Try.isAgg30 rfl) ?_
    | refine s1 rfl (lop_load_fp rfl Try.isAgg30 rfl) ?_
  refine s1 rfl (lop_len rfl Try.underlying30 ⟨⟨_, rfl⟩, rfl⟩) ?_
  refine s1 rfl (lop_lss rfl rfl) ?_
  refine ops_nil ?_
  first
    | refine ok_if _ rfl rfl (fun h_t12 => ?_) (fun h_t12 => ?_)
    | refine ok_cond rfl rfl (fun h_t12 => ?_) (fun h_t12 => ?_)
  · have h_t12 : i < v.places.length := Int.ofNat_lt.1 h_t12
    refine ok_skip ?_
    refine ok_seq ?_
    refine ok_block ?_
    refine ok_drw Try.mixed ?_
    first
      | refine d1 rfl rfl (lop_move (v := .sl _ _) rfl) ?_
      | refine d1 rfl rfl (lop_move (v := .os _ _ _ _) rfl) ?_
      | refine d1 rfl rfl (lop_move (v := .z0) rfl) ?_
    first
      | refine d1 rfl rfl (lop_fieldAddr_rf (fo := 6) rfl Try.underlying39 rfl rfl Try.sizeOf30 (by decide)) ?_
      | refine d1 rfl rfl (lop_fieldAddr_fp (fo := 6) rfl Try.underlying39 rfl rfl Try.sizeOf30 (by decide) rfl) ?_
    first
      | refine d1 rfl rfl (lop_load_rf rfl rfl Try.isAgg30 rfl) ?_
      | refine d1 rfl rfl (lop_load_fp rfl Try.isAgg30 rfl) ?_
    refine d1 rfl rfl (lop_move (v := .int _ _) rfl) ?_
    first
      | refine d1 rfl rfl (lop_indexAddr_os rfl rfl Try.underlying30 Try.sizeOf41 rfl h_t12) ?_
      | refine d1 rfl rfl (lop_indexAddr_sl rfl rfl Try.underlying30 Try.sizeOf41 rfl h_t12 (flat_at PlD.len h_t12) (flat_ne PlD.len (by decide) h_t12)) ?_
    first
      | refine d1 rfl rfl (lop_load_rf_agg rfl rfl Try.isAgg41 Try.sizeOf41 (by rw [List.length_append, PlD.len]; omega) (by rw [List.take_append_of_le_length (by rw [PlD.len]; omega), List.take_of_length_le (by rw [PlD.len]; omega)])) ?_
      | refine d1 rfl rfl (lop_load_fp_agg rfl Try.isAgg41 Try.sizeOf41 (by rw [List.length_append, PlD.len]; omega) (by rw [List.take_append_of_le_length (by rw [PlD.len]; omega), List.take_of_length_le (by rw [PlD.len]; omega)])) ?_
    first
      | refine d1 rfl rfl (lop_fieldAddr_rf (fo := 0) rfl Try.underlying39 rfl rfl Try.sizeOf3 (by decide)) ?_
      | refine d1 rfl rfl (lop_fieldAddr_fp (fo := 0) rfl Try.underlying39 rfl rfl Try.sizeOf3 (by decide) rfl) ?_
    first
      | refine d1 rfl rfl (lop_load_rf rfl rfl Try.isAgg3 rfl) ?_
      | refine d1 rfl rfl (lop_load_fp rfl Try.isAgg3 rfl) ?_
    refine d1 rfl rfl (lop_move (v := .int _ _) rfl) ?_
    refine d1 rfl rfl (lop_buildK (cs := [.int _ _, .int _ _]) Try.underlying32 Try.zeroValue32 rfl rfl places32 rfl) ?_
    refine d1 rfl rfl (lop_call rfl Try.call26 (FrzL.tf rfl) (.inl rfl) (ref16_Has_ac hl v.places[i] ⟨v.id, (i : Int)⟩)) ?_
    refine d1 rfl rfl (lop_assign (v := .bool _) rfl) ?_
    refine dr_nil (by kernel_rfl) ?_
    refine ok_reg ?_
    refine s1 rfl (lop_move (v := .bool _) rfl) ?_
    refine s1 rfl (lop_not rfl) ?_
    refine ops_nil ?_
    first
      | refine ok_if _ rfl rfl (fun h_t27 => ?_) (fun h_t27 => ?_)
      | refine ok_cond rfl rfl (fun h_t27 => ?_) (fun h_t27 => ?_)
    · refine ok_region ?_
      first
        | refine s1 rfl (lop_move (v := .sl _ _) rfl) ?_
        | refine s1 rfl (lop_move (v := .os _ _ _ _) rfl) ?_
        | refine s1 rfl (lop_move (v := .z0) rfl) ?_
      refine s1 rfl (lop_move (v := .int _ _) rfl) ?_
      first
        | refine s1w rfl (lop_buildSlice (t := 30) (cs := [.int _ _]) (f := true) Try.underlying74 Try.sizeOf3 (by decide) Try.zeroValue3 rfl rfl rfl (by decide) rfl (.inr (by decide)) rfl (fun h => by cases h)) rfl ?_
        | refine s1w rfl (lop_buildSlice (t := 30) (cs := [.int _ _]) (f := false) Try.underlying74 Try.sizeOf3 (by decide) Try.zeroValue3 rfl rfl rfl (by decide) rfl (.inr (by decide)) rfl (fun _ => rfl)) rfl ?_
      first
        | refine s2w rfl (lop_append_os (t' := 31) rfl rfl rfl (by rw [flat_length intEnc_len, Nat.mul_one]) (.os Try.underlying74 (List.mem_singleton.2 rfl) rfl (Nat.le_of_ble_eq_true rfl) rfl) Try.underlying74 info3 rfl (by omega) (by omega)) rfl ?_
        | refine s1w rfl (lop_append_z0 (t' := 31) rfl rfl (.os Try.underlying74 (List.mem_singleton.2 rfl) rfl (Nat.le_of_ble_eq_true rfl) rfl) Try.underlying74 info3 rfl (by omega) (by omega)) rfl ?_
        | refine s2w rfl (lop_append_os (t' := 31) (R := []) rfl rfl rfl (by rw [flat_length intEnc_len, Nat.mul_one]) (.sl Try.underlying74 rfl) Try.underlying74 info3 rfl (by omega) (by omega)) rfl ?_
        | refine s1w rfl (lop_append_z0 (t' := 31) (R := []) rfl rfl (.sl Try.underlying74 rfl) Try.underlying74 info3 rfl (by omega) (by omega)) rfl ?_
        | refine s2w rfl (lop_append_os (t' := 31) (R := []) rfl rfl rfl (by rw [flat_length intEnc_len, Nat.mul_one]) (.z0 Try.underlying74) Try.underlying74 info3 rfl (by omega) (by omega)) rfl ?_
        | refine s1w rfl (lop_append_z0 (t' := 31) (R := []) rfl rfl (.z0 Try.underlying74) Try.underlying74 info3 rfl (by omega) (by omega)) rfl ?_
      first
        | refine s1 rfl (lop_assign (v := .sl _ _) rfl) ?_
        | refine s1 rfl (lop_assign (v := .os _ _ _ _) rfl) ?_
        | refine s1 rfl (lop_assign (v := .z0) rfl) ?_
      refine ops_nil ?_
      refine ok_region ?_
      refine s1 rfl (lop_move (v := .int _ _) rfl) ?_
      refine s1 rfl (lop_bop rfl rfl rfl (bop_add (by omega) (by omega))) ?_
      refine s1 rfl (lop_assign (v := .int _ _) rfl) ?_
      refine ops_nil ?_
      have e1 := lostP_yes h_t12 (Bool.not_eq_true' _ ▸ h_t27)
      exact ⟨⟨i + 1, by omega⟩, by simp only; omega, le_ren [(100, some 31)] ⟨rfl, rfl, congrArg (V.os 31 0 1) (by rw [e1, List.length_append]; rfl), rfl, trivial⟩ rfl ⟨⟨_, rfl, rfl⟩, ⟨_, rfl, by show _ = List.flatMap _ _; rw [e1, List.flatMap_append]; rfl⟩, trivial⟩ rfl rfl rfl⟩
    · refine ok_skip ?_
      refine ok_region ?_
      refine s1 rfl (lop_move (v := .int _ _) rfl) ?_
      refine s1 rfl (lop_bop rfl rfl rfl (bop_add (by omega) (by omega))) ?_
      refine s1 rfl (lop_assign (v := .int _ _) rfl) ?_
      refine ops_nil ?_
      have e1 := lostP_no h_t12 (by simpa using h_t27)
      exact ⟨⟨i + 1, by omega⟩, by simp only; omega, le_mk ⟨rfl, rfl, congrArg (V.os 100 0 1) (by rw [e1]), rfl, trivial⟩ ⟨.inr rfl, .inr (by rw [e1]; rfl), trivial⟩ rfl⟩
  · refine ok_exit ?_
    refine ok_reg ?_
    first
      | refine s1 rfl (lop_move (v := .sl _ _) rfl) ?_
      | refine s1 rfl (lop_move (v := .os _ _ _ _) rfl) ?_
      | refine s1 rfl (lop_move (v := .z0) rfl) ?_
    first
      | refine s1 rfl (lop_assign (v := .sl _ _) rfl) ?_
      | refine s1 rfl (lop_assign (v := .os _ _ _ _) rfl) ?_
      | refine s1 rfl (lop_assign (v := .z0) rfl) ?_
    refine ops_nil ?_
    refine ok_ret ?_
    have e2 : i = v.places.length := by omega
    subst e2
    have e3 : lostL v l = lostP l v.id v.places v.places.length := rfl
    rw [e3]
    exact ret_os rfl rfl rfl rfl (by rw [flat_length intEnc_len]; omega) (by rw [List.drop_zero, Nat.mul_one, List.take_of_length_le (by rw [flat_length intEnc_len]; omega)])

theorem ref16_Live_ac {l : List InvD} (hl : InvsOk l) (region nodes : Int) : AC Try.prog 21 [rowOf InvD.enc l, i64 region, i64 nodes] (rowOf boolEnc (liveL l region nodes)) := by
  refine AC.intro Try.func21 rfl (Nat.le_of_ble_eq_true rfl) ?_
  refine ok_reg ?_
  first
    | refine s1 rfl (lop_assign (v := .sl _ _) rfl) ?_
    | refine s1 rfl (lop_assign (v := .os _ _ _ _) rfl) ?_
    | refine s1 rfl (lop_assign (v := .z0) rfl) ?_
  refine ops_nil ?_
  refine ok_seq ?_
  refine ok_reg ?_
  refine s1 rfl (lop_move (v := .int _ _) rfl) ?_
  refine s1 rfl (lop_lss rfl rfl) ?_
  refine s1 rfl (lop_move (v := .bool _) rfl) ?_
  first
    | refine gsplitP 2 rfl rfl (fun g1_2 p1_2 => ?_) (fun g1_2 p1_2 => ?_)
    | refine gsplitB 2 rfl rfl (fun g1_2 p1_2 => ?_) (fun g1_2 p1_2 => ?_)
  · refine n1 rfl rfl g1_2 ?_
    refine n1 rfl rfl g1_2 ?_
    first
      | refine s1 rfl (lop_pick_t (v := .bool _) rfl g1_2 rfl) ?_
      | refine s1 rfl (lop_pick_t (v := .bool _) rfl rfl rfl) ?_
      | refine s1 rfl (lop_pick_f (v := .bool _) rfl rfl rfl) ?_
      | refine s1 rfl (lop_pick rfl rfl rfl) ?_
    refine ops_nil ?_
    refine ok_true rfl rfl ?_
    refine ok_reg ?_
    first
      | refine s1 rfl (lop_assign (v := .sl _ _) rfl) ?_
      | refine s1 rfl (lop_assign (v := .os _ _ _ _) rfl) ?_
      | refine s1 rfl (lop_assign (v := .z0) rfl) ?_
    refine ops_nil ?_
    refine ok_ret ?_
    rw [show liveL l region nodes = [] by unfold liveL; rw [if_neg (by first | omega | (simp at *; omega))]]
    exact ret_gen (R := []) ⟨_, _, rfl, ⟨rfl, rfl⟩, rfl⟩ .z (fun t h => by cases h)
  · refine y1 rfl rfl g1_2 rfl (lop_move (v := .int _ _) rfl) ?_
    refine y1 rfl rfl g1_2 rfl (lop_gtr rfl rfl) ?_
    first
      | refine s1 rfl (lop_pick_f (v := .bool _) rfl g1_2 rfl) ?_
      | refine s1 rfl (lop_pick_t (v := .bool _) rfl rfl rfl) ?_
      | refine s1 rfl (lop_pick_f (v := .bool _) rfl rfl rfl) ?_
      | refine s1 rfl (lop_pick rfl rfl rfl) ?_
    refine ops_nil ?_
    first
      | refine ok_if _ rfl rfl (fun h_t14 => ?_) (fun h_t14 => ?_)
      | refine ok_cond rfl rfl (fun h_t14 => ?_) (fun h_t14 => ?_)
    · refine ok_reg ?_
      first
        | refine s1 rfl (lop_assign (v := .sl _ _) rfl) ?_
        | refine s1 rfl (lop_assign (v := .os _ _ _ _) rfl) ?_
        | refine s1 rfl (lop_assign (v := .z0) rfl) ?_
      refine ops_nil ?_
      refine ok_ret ?_
      rw [show liveL l region nodes = [] by unfold liveL; rw [if_neg (by first | omega | (simp at *; omega))]]
      exact ret_gen (R := []) ⟨_, _, rfl, ⟨rfl, rfl⟩, rfl⟩ .z (fun t h => by cases h)
    · refine ok_skip ?_
      refine ok_reg ?_
      first
        | refine s1 rfl (lop_assign (v := .sl _ _) rfl) ?_
        | refine s1 rfl (lop_assign (v := .os _ _ _ _) rfl) ?_
        | refine s1 rfl (lop_assign (v := .z0) rfl) ?_
      refine ops_nil ?_
      refine ok_seq ?_
      refine ok_reg ?_
      refine s1 rfl (lop_assign (v := .int _ _) rfl) ?_
      refine ops_nil ?_
      refine ok_block ?_
      refine ok_loop (ι := {i : Nat // i ≤ nodes.toNat}) (fun i => ⟨[(0, rowOf InvD.enc l), (1, i64 region), (2, i64 nodes), (7, .os 100 0 1 i.1), (8, i64 i.1)], [(100, some (true, ((List.range i.1).map (fun (n : Nat) => livesAt l ⟨region, (n : Int)⟩)).flatMap boolEnc))], 29⟩) (fun i => nodes.toNat - i.1) (⟨0, Nat.zero_le _⟩) ?_ ?_
      · exact le_ren [(100, none)] ⟨rfl, rfl, rfl, rfl, rfl, trivial⟩ rfl ⟨⟨rfl, rfl⟩, trivial⟩ rfl rfl rfl
      rintro ⟨i, hi⟩
      dsimp only
      refine ok_seq ?_
      refine ok_reg ?_
      refine s1 rfl (lop_move (v := .int _ _) rfl) ?_
      refine s1 rfl (lop_move (v := .int _ _) rfl) ?_
      refine s1 rfl (lop_lss rfl rfl) ?_
      refine ops_nil ?_
      first
        | refine ok_if _ rfl rfl (fun h_t17 => ?_) (fun h_t17 => ?_)
        | refine ok_cond rfl rfl (fun h_t17 => ?_) (fun h_t17 => ?_)
      · refine ok_skip ?_
        refine ok_seq ?_
        refine ok_block ?_
        refine ok_region ?_
        first
          | refine s1 rfl (lop_move (v := .sl _ _) rfl) ?_
          | refine s1 rfl (lop_move (v := .os _ _ _ _) rfl) ?_
          | refine s1 rfl (lop_move (v := .z0) rfl) ?_
        first
          | refine s1 rfl (lop_move (v := .sl _ _) rfl) ?_
          | refine s1 rfl (lop_move (v := .os _ _ _ _) rfl) ?_
          | refine s1 rfl (lop_move (v := .z0) rfl) ?_
        refine s1 rfl (lop_move (v := .int _ _) rfl) ?_
        refine s1 rfl (lop_move (v := .int _ _) rfl) ?_
        refine s1 rfl (lop_buildK (cs := [.int _ _, .int _ _]) Try.underlying41 Try.zeroValue41 rfl rfl places41 rfl) ?_
        refine s1 rfl (lop_call rfl Try.call33 (FrzL.tf rfl) (.inl rfl) (ref16_lives_ac hl ⟨region, (i : Int)⟩)) ?_
        first
          | refine s1w rfl (lop_buildSlice (t := 26) (cs := [.bool _]) (f := true) Try.underlying71 Try.sizeOf4 (by decide) Try.zeroValue4 rfl rfl rfl (by decide) rfl (.inr (by decide)) rfl (fun h => by cases h)) rfl ?_
          | refine s1w rfl (lop_buildSlice (t := 26) (cs := [.bool _]) (f := false) Try.underlying71 Try.sizeOf4 (by decide) Try.zeroValue4 rfl rfl rfl (by decide) rfl (.inr (by decide)) rfl (fun _ => rfl)) rfl ?_
        first
          | refine s2w rfl (lop_append_os (t' := 27) rfl rfl rfl (by simp [flat_length boolEnc_len]) (.os Try.underlying71 (List.mem_singleton.2 rfl) rfl (Nat.le_of_ble_eq_true rfl) rfl) Try.underlying71 info4 rfl (by omega) (by omega)) rfl ?_
          | refine s1w rfl (lop_append_z0 (t' := 27) rfl rfl (.os Try.underlying71 (List.mem_singleton.2 rfl) rfl (Nat.le_of_ble_eq_true rfl) rfl) Try.underlying71 info4 rfl (by omega) (by omega)) rfl ?_
          | refine s2w rfl (lop_append_os (t' := 27) (R := []) rfl rfl rfl (by simp [flat_length boolEnc_len]) (.sl Try.underlying71 rfl) Try.underlying71 info4 rfl (by omega) (by omega)) rfl ?_
          | refine s1w rfl (lop_append_z0 (t' := 27) (R := []) rfl rfl (.sl Try.underlying71 rfl) Try.underlying71 info4 rfl (by omega) (by omega)) rfl ?_
          | refine s2w rfl (lop_append_os (t' := 27) (R := []) rfl rfl rfl (by simp [flat_length boolEnc_len]) (.z0 Try.underlying71) Try.underlying71 info4 rfl (by omega) (by omega)) rfl ?_
          | refine s1w rfl (lop_append_z0 (t' := 27) (R := []) rfl rfl (.z0 Try.underlying71) Try.underlying71 info4 rfl (by omega) (by omega)) rfl ?_
        first
          | refine s1 rfl (lop_assign (v := .sl _ _) rfl) ?_
          | refine s1 rfl (lop_assign (v := .os _ _ _ _) rfl) ?_
          | refine s1 rfl (lop_assign (v := .z0) rfl) ?_
        refine ops_nil ?_
        refine ok_region ?_
        refine s1 rfl (lop_move (v := .int _ _) rfl) ?_
        refine s1 rfl (lop_bop rfl rfl rfl (bop_add (by omega) (by omega))) ?_
        refine s1 rfl (lop_assign (v := .int _ _) rfl) ?_
        refine ops_nil ?_
        have e1 : (List.range (i + 1)).map (fun (n : Nat) => livesAt l ⟨region, (n : Int)⟩) = (List.range i).map (fun (n : Nat) => livesAt l ⟨region, (n : Int)⟩) ++ [livesAt l ⟨region, (i : Int)⟩] := by rw [List.range_succ, List.map_append]; rfl
        exact ⟨⟨i + 1, by omega⟩, by simp only; omega, le_ren [(100, some 27)] ⟨rfl, rfl, rfl, rfl, rfl, trivial⟩ rfl ⟨⟨_, rfl, by show _ = List.flatMap _ _; rw [e1, List.flatMap_append]; rfl⟩, trivial⟩ rfl rfl rfl⟩
      · refine ok_exit ?_
        refine ok_reg ?_
        first
          | refine s1 rfl (lop_move (v := .sl _ _) rfl) ?_
          | refine s1 rfl (lop_move (v := .os _ _ _ _) rfl) ?_
          | refine s1 rfl (lop_move (v := .z0) rfl) ?_
        first
          | refine s1 rfl (lop_assign (v := .sl _ _) rfl) ?_
          | refine s1 rfl (lop_assign (v := .os _ _ _ _) rfl) ?_
          | refine s1 rfl (lop_assign (v := .z0) rfl) ?_
        refine ops_nil ?_
        refine ok_ret ?_
        have e1 : liveL l region nodes = (List.range nodes.toNat).map (fun (n : Nat) => livesAt l ⟨region, (n : Int)⟩) := by unfold liveL; rw [if_pos (by omega)]
        rw [e1]
        have e2 : i = nodes.toNat := by omega
        subst e2
        unfold rowOf
        rw [List.length_map, List.length_range]
        exact ret_os rfl rfl rfl rfl (by rw [flat_length boolEnc_len, List.length_map, List.length_range]; omega) (by rw [List.drop_zero, Nat.mul_one, List.take_of_length_le (by rw [flat_length boolEnc_len, List.length_map, List.length_range]; omega)])

theorem findV_idx (p : VolD → Bool) (l : List VolD) : (findV p l).2 = idxOf p l := by
  unfold findV idxOf
  cases l.findIdx? p <;> rfl

theorem ref15_VolAt_ac (x : IdxD) (hx : VolsOk x.vols) (id : Int) : AC Try.prog 52 [.agg x.enc, i64 id] (i64 (idxOf (fun v : VolD => decide (v.id = id)) x.vols)) := by
  have hvl := hx.1
  refine AC.intro Try.func52 rfl (Nat.le_of_ble_eq_true rfl) ?_
  refine ok_reg ?_
  first
    | refine s1w rfl (lop_box (t := 2) (v := .agg [_, _, _]) (f := true) (cs := [_, _, _]) rfl rfl rfl rfl (fun h => by cases h)) rfl ?_
    | refine s1w rfl (lop_box (t := 2) (v := .agg [_, _, _]) (f := false) (cs := [_, _, _]) rfl rfl rfl rfl (fun _ => rfl)) rfl ?_
  refine s1 rfl (lop_assign (v := .int _ _) rfl) ?_
  refine ops_nil ?_
  refine ok_seq ?_
  refine ok_reg ?_
  refine s1 rfl (lop_assign (v := .int _ _) rfl) ?_
  refine ops_nil ?_
  refine ok_block ?_
  refine ok_loop (ι := {i : Nat // i ≤ x.vols.length ∧ ∀ j, (h : j < x.vols.length) → j < i → (fun v : VolD => decide (v.id = id)) x.vols[j] = false}) (fun i => ⟨[(1, i64 id), (2, .rf 2 0), (5, i64 i.1)], [(2, some (true, x.enc))], 22⟩) (fun i => x.vols.length - i.1) (⟨0, Nat.zero_le _, fun _ _ h => absurd h (Nat.not_lt_zero _)⟩) ?_ ?_
  · exact le_mk ⟨rfl, rfl, rfl, trivial⟩ ⟨.inr rfl, trivial⟩ rfl
  rintro ⟨i, hi, hn⟩
  dsimp only
  refine ok_seq ?_
  refine ok_reg ?_
  refine s1 rfl (lop_move (v := .int _ _) rfl) ?_
  first
    | refine s1 rfl (lop_fieldAddr_rf (fo := 0) rfl Try.underlying26 rfl rfl Try.sizeOf22 (by decide)) ?_
    | refine s1 rfl (lop_fieldAddr_fp (fo := 0) rfl Try.underlying26 rfl rfl Try.sizeOf22 (by decide) rfl) ?_
  first
    | refine s1 rfl (lop_load_rf rfl rfl Try.isAgg22 rfl) ?_
    | refine s1 rfl (lop_load_fp rfl Try.isAgg22 rfl) ?_
  refine s1 rfl (lop_len rfl Try.underlying22 ⟨⟨_, rfl⟩, rfl⟩) ?_
  refine s1 rfl (lop_lss rfl rfl) ?_
  refine ops_nil ?_
  first
    | refine ok_if _ rfl rfl (fun h_t10 => ?_) (fun h_t10 => ?_)
    | refine ok_cond rfl rfl (fun h_t10 => ?_) (fun h_t10 => ?_)
  · have h_t10 : i < x.vols.length := Int.ofNat_lt.1 h_t10
    refine ok_skip ?_
    refine ok_seq ?_
    refine ok_block ?_
    refine ok_reg ?_
    first
      | refine s1 rfl (lop_fieldAddr_rf (fo := 0) rfl Try.underlying26 rfl rfl Try.sizeOf22 (by decide)) ?_
      | refine s1 rfl (lop_fieldAddr_fp (fo := 0) rfl Try.underlying26 rfl rfl Try.sizeOf22 (by decide) rfl) ?_
    first
      | refine s1 rfl (lop_load_rf rfl rfl Try.isAgg22 rfl) ?_
      | refine s1 rfl (lop_load_fp rfl Try.isAgg22 rfl) ?_
    refine s1 rfl (lop_move (v := .int _ _) rfl) ?_
    first
      | refine s1 rfl (lop_indexAddr_os rfl rfl Try.underlying22 Try.sizeOf39 rfl h_t10) ?_
      | refine s1 rfl (lop_indexAddr_sl rfl rfl Try.underlying22 Try.sizeOf39 rfl h_t10 (flat_at VolD.len h_t10) (flat_ne VolD.len (by decide) h_t10)) ?_
    first
      | refine s1 rfl (lop_fieldAddr_rf (fo := 0) rfl Try.underlying39 rfl rfl Try.sizeOf3 (by decide)) ?_
      | refine s1 rfl (lop_fieldAddr_fp (fo := 0) rfl Try.underlying39 rfl rfl Try.sizeOf3 (by decide) rfl) ?_
    first
      | refine s1 rfl (lop_load_rf rfl rfl Try.isAgg3 rfl) ?_
      | refine s1 rfl (lop_load_fp rfl Try.isAgg3 rfl) ?_
    refine s1 rfl (lop_move (v := .int _ _) rfl) ?_
    refine s1 rfl (lop_eql rfl rfl) ?_
    refine ops_nil ?_
    first
      | refine ok_if _ rfl rfl (fun h_t20 => ?_) (fun h_t20 => ?_)
      | refine ok_cond rfl rfl (fun h_t20 => ?_) (fun h_t20 => ?_)
    · refine ok_reg ?_
      refine s1 rfl (lop_move (v := .int _ _) rfl) ?_
      refine s1 rfl (lop_assign (v := .int _ _) rfl) ?_
      refine ops_nil ?_
      refine ok_ret ?_
      exact ret_one rfl rfl rfl rfl (congrArg i64 (idxOf_at (p := (fun v : VolD => decide (v.id = id))) h_t10 (decide_eq_true h_t20) hn))
    · refine ok_skip ?_
      refine ok_region ?_
      refine s1 rfl (lop_move (v := .int _ _) rfl) ?_
      refine s1 rfl (lop_bop rfl rfl rfl (bop_add (by omega) (by omega))) ?_
      refine s1 rfl (lop_assign (v := .int _ _) rfl) ?_
      refine ops_nil ?_
      exact ⟨⟨i + 1, by omega, none_step (p := (fun v : VolD => decide (v.id = id))) hn h_t10 (decide_eq_false h_t20)⟩, by simp only; omega, le_mk ⟨rfl, rfl, rfl, trivial⟩ ⟨.inr rfl, trivial⟩ rfl⟩
  · refine ok_exit ?_
    refine ok_reg ?_
    refine s1 rfl (lop_assign (v := .int _ _) rfl) ?_
    refine ops_nil ?_
    refine ok_ret ?_
    exact ret_one rfl rfl rfl rfl (congrArg i64 (idxOf_no (p := (fun v : VolD => decide (v.id = id))) fun j hj => hn j hj (by omega)))

theorem ref16_Old_ac (x : IdxD) (hx : VolsOk x.vols) (k : KeyD) : AC Try.prog 27 [.agg x.enc, .agg k.enc] (.bool (oldAt x k)) := by
  refine AC.intro Try.func27 rfl (Nat.le_of_ble_eq_true rfl) ?_
  refine ok_reg ?_
  first
    | refine s1w rfl (lop_box (t := 2) (v := .agg [_, _, _]) (f := true) (cs := [_, _, _]) rfl rfl rfl rfl (fun h => by cases h)) rfl ?_
    | refine s1w rfl (lop_box (t := 2) (v := .agg [_, _, _]) (f := false) (cs := [_, _, _]) rfl rfl rfl rfl (fun _ => rfl)) rfl ?_
  first
    | refine s1w rfl (lop_box (t := 3) (v := .agg [.int _ _, .int _ _]) (f := true) (cs := [.int _ _, .int _ _]) rfl rfl rfl rfl (fun h => by cases h)) rfl ?_
    | refine s1w rfl (lop_box (t := 3) (v := .agg [.int _ _, .int _ _]) (f := false) (cs := [.int _ _, .int _ _]) rfl rfl rfl rfl (fun _ => rfl)) rfl ?_
  refine s1 rfl (lop_assign (v := .bool _) rfl) ?_
  refine ops_nil ?_
  refine ok_reg ?_
  first
    | refine s1 rfl (lop_load_rf_agg (ys := [_, _, _]) rfl rfl Try.isAgg26 Try.sizeOf26 (Nat.le_of_ble_eq_true rfl) rfl) ?_
    | refine s1 rfl (lop_load_fp_agg (ys := [_, _, _]) rfl Try.isAgg26 Try.sizeOf26 (Nat.le_of_ble_eq_true rfl) rfl) ?_
  first
    | refine s1 rfl (lop_fieldAddr_rf (fo := 0) rfl Try.underlying32 rfl rfl Try.sizeOf3 (by decide)) ?_
    | refine s1 rfl (lop_fieldAddr_fp (fo := 0) rfl Try.underlying32 rfl rfl Try.sizeOf3 (by decide) rfl) ?_
  first
    | refine s1 rfl (lop_load_rf rfl rfl Try.isAgg3 rfl) ?_
    | refine s1 rfl (lop_load_fp rfl Try.isAgg3 rfl) ?_
  refine s1 rfl (lop_call rfl Try.call52 (FrzL.tf rfl) (.inl rfl) (ref15_VolAt_ac x hx k.vol)) ?_
  refine s1 rfl (lop_assign (v := .int _ _) rfl) ?_
  refine ops_nil ?_
  refine ok_reg ?_
  refine s1 rfl (lop_move (v := .int _ _) rfl) ?_
  refine s1 rfl (lop_geq rfl rfl) ?_
  refine s1 rfl (lop_move (v := .bool _) rfl) ?_
  first
    | refine gsplitP 2 rfl rfl (fun g2_2 p2_2 => ?_) (fun g2_2 p2_2 => ?_)
    | refine gsplitB 2 rfl rfl (fun g2_2 p2_2 => ?_) (fun g2_2 p2_2 => ?_)
  · obtain ⟨i, hi, hix, hat⟩ := findV_at (show ¬ idxOf (fun v : VolD => decide (v.id = k.vol)) x.vols < 0 by omega)
    first
      | refine y1 rfl rfl g2_2 rfl (lop_fieldAddr_rf (fo := 0) rfl Try.underlying26 rfl rfl Try.sizeOf22 (by decide)) ?_
      | refine y1 rfl rfl g2_2 rfl (lop_fieldAddr_fp (fo := 0) rfl Try.underlying26 rfl rfl Try.sizeOf22 (by decide) rfl) ?_
    first
      | refine y1 rfl rfl g2_2 rfl (lop_load_rf rfl rfl Try.isAgg22 rfl) ?_
      | refine y1 rfl rfl g2_2 rfl (lop_load_fp rfl Try.isAgg22 rfl) ?_
    refine y1 rfl rfl g2_2 rfl (lop_move (v := .int _ _) rfl) ?_
    first
      | refine y1 rfl rfl g2_2 rfl (lop_indexAddr_os rfl rfl Try.underlying22 Try.sizeOf39 hix hi) ?_
      | refine y1 rfl rfl g2_2 rfl (lop_indexAddr_sl rfl rfl Try.underlying22 Try.sizeOf39 hix hi (flat_at VolD.len hi) (flat_ne VolD.len (by decide) hi)) ?_
    first
      | refine y1 rfl rfl g2_2 rfl (lop_fieldAddr_rf (fo := 4) rfl Try.underlying39 rfl rfl Try.sizeOf3 (by decide)) ?_
      | refine y1 rfl rfl g2_2 rfl (lop_fieldAddr_fp (fo := 4) rfl Try.underlying39 rfl rfl Try.sizeOf3 (by decide) rfl) ?_
    first
      | refine y1 rfl rfl g2_2 rfl (lop_load_rf rfl rfl Try.isAgg3 rfl) ?_
      | refine y1 rfl rfl g2_2 rfl (lop_load_fp rfl Try.isAgg3 rfl) ?_
    refine y1 rfl rfl g2_2 rfl (lop_eql rfl rfl) ?_
    first
      | refine s1 rfl (lop_pick_t (v := .bool _) rfl g2_2 rfl) ?_
      | refine s1 rfl (lop_pick_t (v := .bool _) rfl rfl rfl) ?_
      | refine s1 rfl (lop_pick_f (v := .bool _) rfl rfl rfl) ?_
      | refine s1 rfl (lop_pick rfl rfl rfl) ?_
    refine s1 rfl (lop_move (v := .bool _) rfl) ?_
    first
      | refine gsplitP 11 rfl rfl (fun g2_11 p2_11 => ?_) (fun g2_11 p2_11 => ?_)
      | refine gsplitB 11 rfl rfl (fun g2_11 p2_11 => ?_) (fun g2_11 p2_11 => ?_)
    · first
        | refine y1 rfl rfl g2_11 rfl (lop_fieldAddr_rf (fo := 1) rfl Try.underlying32 rfl rfl Try.sizeOf3 (by decide)) ?_
        | refine y1 rfl rfl g2_11 rfl (lop_fieldAddr_fp (fo := 1) rfl Try.underlying32 rfl rfl Try.sizeOf3 (by decide) rfl) ?_
      first
        | refine y1 rfl rfl g2_11 rfl (lop_load_rf rfl rfl Try.isAgg3 rfl) ?_
        | refine y1 rfl rfl g2_11 rfl (lop_load_fp rfl Try.isAgg3 rfl) ?_
      refine y1 rfl rfl g2_11 rfl (lop_geq rfl rfl) ?_
      first
        | refine s1 rfl (lop_pick_t (v := .bool _) rfl g2_2 rfl) ?_
        | refine s1 rfl (lop_pick_t (v := .bool _) rfl g2_11 rfl) ?_
        | refine s1 rfl (lop_pick_t (v := .bool _) rfl rfl rfl) ?_
        | refine s1 rfl (lop_pick_f (v := .bool _) rfl rfl rfl) ?_
        | refine s1 rfl (lop_pick rfl rfl rfl) ?_
      refine s1 rfl (lop_assign (v := .bool _) rfl) ?_
      refine ops_nil ?_
      refine ok_ret ?_
      exact ret_one rfl rfl rfl rfl (congrArg V.bool (by unfold oldAt; first | (rw [hat]; simp; simp_all) | (rw [hno]; simp)))
    · refine n1 rfl rfl g2_11 ?_
      refine n1 rfl rfl g2_11 ?_
      refine n1 rfl rfl g2_11 ?_
      first
        | refine s1 rfl (lop_pick_t (v := .bool _) rfl g2_2 rfl) ?_
        | refine s1 rfl (lop_pick_f (v := .bool _) rfl g2_11 rfl) ?_
        | refine s1 rfl (lop_pick_t (v := .bool _) rfl rfl rfl) ?_
        | refine s1 rfl (lop_pick_f (v := .bool _) rfl rfl rfl) ?_
        | refine s1 rfl (lop_pick rfl rfl rfl) ?_
      refine s1 rfl (lop_assign (v := .bool _) rfl) ?_
      refine ops_nil ?_
      refine ok_ret ?_
      exact ret_one rfl rfl rfl rfl (congrArg V.bool (by unfold oldAt; first | (rw [hat]; simp; simp_all) | (rw [hno]; simp)))
  · have hno := findV_no (show idxOf (fun v : VolD => decide (v.id = k.vol)) x.vols < 0 by omega)
    refine n1 rfl rfl g2_2 ?_
    refine n1 rfl rfl g2_2 ?_
    refine n1 rfl rfl g2_2 ?_
    refine n1 rfl rfl g2_2 ?_
    refine n1 rfl rfl g2_2 ?_
    refine n1 rfl rfl g2_2 ?_
    refine n1 rfl rfl g2_2 ?_
    first
      | refine s1 rfl (lop_pick_f (v := .bool _) rfl g2_2 rfl) ?_
      | refine s1 rfl (lop_pick_t (v := .bool _) rfl rfl rfl) ?_
      | refine s1 rfl (lop_pick_f (v := .bool _) rfl rfl rfl) ?_
      | refine s1 rfl (lop_pick rfl rfl rfl) ?_
    refine s1 rfl (lop_move (v := .bool _) rfl) ?_
    refine n1 rfl rfl rfl ?_
    refine n1 rfl rfl rfl ?_
    refine n1 rfl rfl rfl ?_
    first
      | refine s1 rfl (lop_pick_f (v := .bool _) rfl g2_2 rfl) ?_
      | refine s1 rfl (lop_pick_f (v := .bool _) rfl rfl rfl) ?_
      | refine s1 rfl (lop_pick_t (v := .bool _) rfl rfl rfl) ?_
      | refine s1 rfl (lop_pick_f (v := .bool _) rfl rfl rfl) ?_
      | refine s1 rfl (lop_pick rfl rfl rfl) ?_
    refine s1 rfl (lop_assign (v := .bool _) rfl) ?_
    refine ops_nil ?_
    refine ok_ret ?_
    exact ret_one rfl rfl rfl rfl (congrArg V.bool (by unfold oldAt; first | (rw [hat]; simp; simp_all) | (rw [hno]; simp)))

theorem third_step {a b : Int} {i : Nat} (hn : ∀ j : Int, 1 ≤ j → j < i → j = a ∨ j = b) (h : (i : Int) = a ∨ (i : Int) = b) : ∀ j : Int, 1 ≤ j → j < ((i + 1 : Nat) : Int) → j = a ∨ j = b := fun j h1 h2 => by
  rcases Int.lt_or_le j i with h3 | h3
  · exact hn j h1 h3
  · have : j = (i : Int) := by omega
    subst this; exact h

theorem ref11_Third_ac (a b : Int) : AC Try.prog 59 [i64 a, i64 b] (.tup [i64 (thirdF a b).1, i64 (thirdF a b).2]) := by
  refine AC.intro Try.func59 rfl (Nat.le_of_ble_eq_true rfl) ?_
  refine ok_reg ?_
  refine s1 rfl (lop_assign (v := .int _ _) rfl) ?_
  refine s1 rfl (lop_assign (v := .int _ _) rfl) ?_
  refine ops_nil ?_
  refine ok_seq ?_
  refine ok_reg ?_
  refine s1 rfl (lop_move (v := .int _ _) rfl) ?_
  refine s1 rfl (lop_lss rfl rfl) ?_
  refine s1 rfl (lop_move (v := .bool _) rfl) ?_
  first
    | refine gsplitP 2 rfl rfl (fun g1_2 p1_2 => ?_) (fun g1_2 p1_2 => ?_)
    | refine gsplitB 2 rfl rfl (fun g1_2 p1_2 => ?_) (fun g1_2 p1_2 => ?_)
  · refine n1 rfl rfl g1_2 ?_
    refine n1 rfl rfl g1_2 ?_
    first
      | refine s1 rfl (lop_pick_t (v := .bool _) rfl g1_2 rfl) ?_
      | refine s1 rfl (lop_pick_t (v := .bool _) rfl rfl rfl) ?_
      | refine s1 rfl (lop_pick_f (v := .bool _) rfl rfl rfl) ?_
      | refine s1 rfl (lop_pick rfl rfl rfl) ?_
    refine s1 rfl (lop_move (v := .bool _) rfl) ?_
    refine n1 rfl rfl rfl ?_
    refine n1 rfl rfl rfl ?_
    first
      | refine s1 rfl (lop_pick_t (v := .bool _) rfl g1_2 rfl) ?_
      | refine s1 rfl (lop_pick_t (v := .bool _) rfl rfl rfl) ?_
      | refine s1 rfl (lop_pick_t (v := .bool _) rfl rfl rfl) ?_
      | refine s1 rfl (lop_pick_f (v := .bool _) rfl rfl rfl) ?_
      | refine s1 rfl (lop_pick rfl rfl rfl) ?_
    refine s1 rfl (lop_move (v := .bool _) rfl) ?_
    refine n1 rfl rfl rfl ?_
    refine n1 rfl rfl rfl ?_
    first
      | refine s1 rfl (lop_pick_t (v := .bool _) rfl g1_2 rfl) ?_
      | refine s1 rfl (lop_pick_t (v := .bool _) rfl rfl rfl) ?_
      | refine s1 rfl (lop_pick_t (v := .bool _) rfl rfl rfl) ?_
      | refine s1 rfl (lop_pick_t (v := .bool _) rfl rfl rfl) ?_
      | refine s1 rfl (lop_pick_f (v := .bool _) rfl rfl rfl) ?_
      | refine s1 rfl (lop_pick rfl rfl rfl) ?_
    refine s1 rfl (lop_move (v := .bool _) rfl) ?_
    refine n1 rfl rfl rfl ?_
    refine n1 rfl rfl rfl ?_
    refine n1 rfl rfl rfl ?_
    first
      | refine s1 rfl (lop_pick_t (v := .bool _) rfl g1_2 rfl) ?_
      | refine s1 rfl (lop_pick_t (v := .bool _) rfl rfl rfl) ?_
      | refine s1 rfl (lop_pick_t (v := .bool _) rfl rfl rfl) ?_
      | refine s1 rfl (lop_pick_t (v := .bool _) rfl rfl rfl) ?_
      | refine s1 rfl (lop_pick_t (v := .bool _) rfl rfl rfl) ?_
      | refine s1 rfl (lop_pick_f (v := .bool _) rfl rfl rfl) ?_
      | refine s1 rfl (lop_pick rfl rfl rfl) ?_
    refine ops_nil ?_
    refine ok_true rfl rfl ?_
    refine ok_reg ?_
    refine s1 rfl (lop_assign (v := .int _ _) rfl) ?_
    refine s1 rfl (lop_assign (v := .int _ _) rfl) ?_
    refine ops_nil ?_
    refine ok_ret ?_
    exact ret_gen (R := []) ⟨_, _, rfl, ⟨rfl, rfl⟩, _, _, rfl, ⟨rfl, rfl⟩, rfl⟩ (by rw [show thirdF a b = (0, 1) by unfold thirdF; rw [if_neg (by first | omega | (simp at *; omega))]]; exact .tup (.cons (.tf rfl) (.cons (.tf rfl) .nil))) (fun t h => by cases h)
  · refine y1 rfl rfl g1_2 rfl (lop_move (v := .int _ _) rfl) ?_
    refine y1 rfl rfl g1_2 rfl (lop_gtr rfl rfl) ?_
    first
      | refine s1 rfl (lop_pick_f (v := .bool _) rfl g1_2 rfl) ?_
      | refine s1 rfl (lop_pick_t (v := .bool _) rfl rfl rfl) ?_
      | refine s1 rfl (lop_pick_f (v := .bool _) rfl rfl rfl) ?_
      | refine s1 rfl (lop_pick rfl rfl rfl) ?_
    refine s1 rfl (lop_move (v := .bool _) rfl) ?_
    first
      | refine gsplitP 6 rfl rfl (fun g1_6 p1_6 => ?_) (fun g1_6 p1_6 => ?_)
      | refine gsplitB 6 rfl rfl (fun g1_6 p1_6 => ?_) (fun g1_6 p1_6 => ?_)
    · refine n1 rfl rfl g1_6 ?_
      refine n1 rfl rfl g1_6 ?_
      first
        | refine s1 rfl (lop_pick_f (v := .bool _) rfl g1_2 rfl) ?_
        | refine s1 rfl (lop_pick_t (v := .bool _) rfl g1_6 rfl) ?_
        | refine s1 rfl (lop_pick_t (v := .bool _) rfl rfl rfl) ?_
        | refine s1 rfl (lop_pick_f (v := .bool _) rfl rfl rfl) ?_
        | refine s1 rfl (lop_pick rfl rfl rfl) ?_
      refine s1 rfl (lop_move (v := .bool _) rfl) ?_
      refine n1 rfl rfl rfl ?_
      refine n1 rfl rfl rfl ?_
      first
        | refine s1 rfl (lop_pick_f (v := .bool _) rfl g1_2 rfl) ?_
        | refine s1 rfl (lop_pick_t (v := .bool _) rfl g1_6 rfl) ?_
        | refine s1 rfl (lop_pick_t (v := .bool _) rfl rfl rfl) ?_
        | refine s1 rfl (lop_pick_t (v := .bool _) rfl rfl rfl) ?_
        | refine s1 rfl (lop_pick_f (v := .bool _) rfl rfl rfl) ?_
        | refine s1 rfl (lop_pick rfl rfl rfl) ?_
      refine s1 rfl (lop_move (v := .bool _) rfl) ?_
      refine n1 rfl rfl rfl ?_
      refine n1 rfl rfl rfl ?_
      refine n1 rfl rfl rfl ?_
      first
        | refine s1 rfl (lop_pick_f (v := .bool _) rfl g1_2 rfl) ?_
        | refine s1 rfl (lop_pick_t (v := .bool _) rfl g1_6 rfl) ?_
        | refine s1 rfl (lop_pick_t (v := .bool _) rfl rfl rfl) ?_
        | refine s1 rfl (lop_pick_t (v := .bool _) rfl rfl rfl) ?_
        | refine s1 rfl (lop_pick_t (v := .bool _) rfl rfl rfl) ?_
        | refine s1 rfl (lop_pick_f (v := .bool _) rfl rfl rfl) ?_
        | refine s1 rfl (lop_pick rfl rfl rfl) ?_
      refine ops_nil ?_
      refine ok_true rfl rfl ?_
      refine ok_reg ?_
      refine s1 rfl (lop_assign (v := .int _ _) rfl) ?_
      refine s1 rfl (lop_assign (v := .int _ _) rfl) ?_
      refine ops_nil ?_
      refine ok_ret ?_
      exact ret_gen (R := []) ⟨_, _, rfl, ⟨rfl, rfl⟩, _, _, rfl, ⟨rfl, rfl⟩, rfl⟩ (by rw [show thirdF a b = (0, 1) by unfold thirdF; rw [if_neg (by first | omega | (simp at *; omega))]]; exact .tup (.cons (.tf rfl) (.cons (.tf rfl) .nil))) (fun t h => by cases h)
    · refine y1 rfl rfl g1_6 rfl (lop_move (v := .int _ _) rfl) ?_
      refine y1 rfl rfl g1_6 rfl (lop_lss rfl rfl) ?_
      first
        | refine s1 rfl (lop_pick_f (v := .bool _) rfl g1_2 rfl) ?_
        | refine s1 rfl (lop_pick_f (v := .bool _) rfl g1_6 rfl) ?_
        | refine s1 rfl (lop_pick_t (v := .bool _) rfl rfl rfl) ?_
        | refine s1 rfl (lop_pick_f (v := .bool _) rfl rfl rfl) ?_
        | refine s1 rfl (lop_pick rfl rfl rfl) ?_
      refine s1 rfl (lop_move (v := .bool _) rfl) ?_
      first
        | refine gsplitP 10 rfl rfl (fun g1_10 p1_10 => ?_) (fun g1_10 p1_10 => ?_)
        | refine gsplitB 10 rfl rfl (fun g1_10 p1_10 => ?_) (fun g1_10 p1_10 => ?_)
      · refine n1 rfl rfl g1_10 ?_
        refine n1 rfl rfl g1_10 ?_
        first
          | refine s1 rfl (lop_pick_f (v := .bool _) rfl g1_2 rfl) ?_
          | refine s1 rfl (lop_pick_f (v := .bool _) rfl g1_6 rfl) ?_
          | refine s1 rfl (lop_pick_t (v := .bool _) rfl g1_10 rfl) ?_
          | refine s1 rfl (lop_pick_t (v := .bool _) rfl rfl rfl) ?_
          | refine s1 rfl (lop_pick_f (v := .bool _) rfl rfl rfl) ?_
          | refine s1 rfl (lop_pick rfl rfl rfl) ?_
        refine s1 rfl (lop_move (v := .bool _) rfl) ?_
        refine n1 rfl rfl rfl ?_
        refine n1 rfl rfl rfl ?_
        refine n1 rfl rfl rfl ?_
        first
          | refine s1 rfl (lop_pick_f (v := .bool _) rfl g1_2 rfl) ?_
          | refine s1 rfl (lop_pick_f (v := .bool _) rfl g1_6 rfl) ?_
          | refine s1 rfl (lop_pick_t (v := .bool _) rfl g1_10 rfl) ?_
          | refine s1 rfl (lop_pick_t (v := .bool _) rfl rfl rfl) ?_
          | refine s1 rfl (lop_pick_t (v := .bool _) rfl rfl rfl) ?_
          | refine s1 rfl (lop_pick_f (v := .bool _) rfl rfl rfl) ?_
          | refine s1 rfl (lop_pick rfl rfl rfl) ?_
        refine ops_nil ?_
        refine ok_true rfl rfl ?_
        refine ok_reg ?_
        refine s1 rfl (lop_assign (v := .int _ _) rfl) ?_
        refine s1 rfl (lop_assign (v := .int _ _) rfl) ?_
        refine ops_nil ?_
        refine ok_ret ?_
        exact ret_gen (R := []) ⟨_, _, rfl, ⟨rfl, rfl⟩, _, _, rfl, ⟨rfl, rfl⟩, rfl⟩ (by rw [show thirdF a b = (0, 1) by unfold thirdF; rw [if_neg (by first | omega | (simp at *; omega))]]; exact .tup (.cons (.tf rfl) (.cons (.tf rfl) .nil))) (fun t h => by cases h)
      · refine y1 rfl rfl g1_10 rfl (lop_move (v := .int _ _) rfl) ?_
        refine y1 rfl rfl g1_10 rfl (lop_gtr rfl rfl) ?_
        first
          | refine s1 rfl (lop_pick_f (v := .bool _) rfl g1_2 rfl) ?_
          | refine s1 rfl (lop_pick_f (v := .bool _) rfl g1_6 rfl) ?_
          | refine s1 rfl (lop_pick_f (v := .bool _) rfl g1_10 rfl) ?_
          | refine s1 rfl (lop_pick_t (v := .bool _) rfl rfl rfl) ?_
          | refine s1 rfl (lop_pick_f (v := .bool _) rfl rfl rfl) ?_
          | refine s1 rfl (lop_pick rfl rfl rfl) ?_
        refine s1 rfl (lop_move (v := .bool _) rfl) ?_
        first
          | refine gsplitP 14 rfl rfl (fun g1_14 p1_14 => ?_) (fun g1_14 p1_14 => ?_)
          | refine gsplitB 14 rfl rfl (fun g1_14 p1_14 => ?_) (fun g1_14 p1_14 => ?_)
        · refine n1 rfl rfl g1_14 ?_
          refine n1 rfl rfl g1_14 ?_
          refine n1 rfl rfl g1_14 ?_
          first
            | refine s1 rfl (lop_pick_f (v := .bool _) rfl g1_2 rfl) ?_
            | refine s1 rfl (lop_pick_f (v := .bool _) rfl g1_6 rfl) ?_
            | refine s1 rfl (lop_pick_f (v := .bool _) rfl g1_10 rfl) ?_
            | refine s1 rfl (lop_pick_t (v := .bool _) rfl g1_14 rfl) ?_
            | refine s1 rfl (lop_pick_t (v := .bool _) rfl rfl rfl) ?_
            | refine s1 rfl (lop_pick_f (v := .bool _) rfl rfl rfl) ?_
            | refine s1 rfl (lop_pick rfl rfl rfl) ?_
          refine ops_nil ?_
          refine ok_true rfl rfl ?_
          refine ok_reg ?_
          refine s1 rfl (lop_assign (v := .int _ _) rfl) ?_
          refine s1 rfl (lop_assign (v := .int _ _) rfl) ?_
          refine ops_nil ?_
          refine ok_ret ?_
          exact ret_gen (R := []) ⟨_, _, rfl, ⟨rfl, rfl⟩, _, _, rfl, ⟨rfl, rfl⟩, rfl⟩ (by rw [show thirdF a b = (0, 1) by unfold thirdF; rw [if_neg (by first | omega | (simp at *; omega))]]; exact .tup (.cons (.tf rfl) (.cons (.tf rfl) .nil))) (fun t h => by cases h)
        · refine y1 rfl rfl g1_14 rfl (lop_move (v := .int _ _) rfl) ?_
          refine y1 rfl rfl g1_14 rfl (lop_move (v := .int _ _) rfl) ?_
          refine y1 rfl rfl g1_14 rfl (lop_eql rfl rfl) ?_
          first
            | refine s1 rfl (lop_pick_f (v := .bool _) rfl g1_2 rfl) ?_
            | refine s1 rfl (lop_pick_f (v := .bool _) rfl g1_6 rfl) ?_
            | refine s1 rfl (lop_pick_f (v := .bool _) rfl g1_10 rfl) ?_
            | refine s1 rfl (lop_pick_f (v := .bool _) rfl g1_14 rfl) ?_
            | refine s1 rfl (lop_pick_t (v := .bool _) rfl rfl rfl) ?_
            | refine s1 rfl (lop_pick_f (v := .bool _) rfl rfl rfl) ?_
            | refine s1 rfl (lop_pick rfl rfl rfl) ?_
          refine ops_nil ?_
          first
            | refine ok_if _ rfl rfl (fun h_t25 => ?_) (fun h_t25 => ?_)
            | refine ok_cond rfl rfl (fun h_t25 => ?_) (fun h_t25 => ?_)
          · refine ok_reg ?_
            refine s1 rfl (lop_assign (v := .int _ _) rfl) ?_
            refine s1 rfl (lop_assign (v := .int _ _) rfl) ?_
            refine ops_nil ?_
            refine ok_ret ?_
            exact ret_gen (R := []) ⟨_, _, rfl, ⟨rfl, rfl⟩, _, _, rfl, ⟨rfl, rfl⟩, rfl⟩ (by rw [show thirdF a b = (0, 1) by unfold thirdF; rw [if_neg (by first | omega | (simp at *; omega))]]; exact .tup (.cons (.tf rfl) (.cons (.tf rfl) .nil))) (fun t h => by cases h)
          · have hab : 1 ≤ a ∧ a ≤ 3 ∧ 1 ≤ b ∧ b ≤ 3 ∧ a ≠ b := by simp at *; omega
            refine ok_skip ?_
            refine ok_seq ?_
            refine ok_reg ?_
            refine s1 rfl (lop_assign (v := .int _ _) rfl) ?_
            refine ops_nil ?_
            refine ok_block ?_
            refine ok_loop (ι := {i : Nat // 1 ≤ i ∧ i ≤ 4 ∧ ∀ j : Int, 1 ≤ j → j < i → j = a ∨ j = b}) (fun i => ⟨[(0, i64 a), (1, i64 b), (6, i64 i.1)], [], 39⟩) (fun i => 4 - i.1) (⟨1, by omega, by omega, fun j h1 h2 => by omega⟩) ?_ ?_
            · exact le_mk ⟨rfl, rfl, rfl, trivial⟩ trivial rfl
            rintro ⟨i, hi1, hi, hn⟩
            dsimp only
            refine ok_seq ?_
            refine ok_reg ?_
            refine s1 rfl (lop_move (v := .int _ _) rfl) ?_
            refine s1 rfl (lop_leq rfl rfl) ?_
            refine ops_nil ?_
            first
              | refine ok_if _ rfl rfl (fun h_t27 => ?_) (fun h_t27 => ?_)
              | refine ok_cond rfl rfl (fun h_t27 => ?_) (fun h_t27 => ?_)
            · refine ok_skip ?_
              refine ok_seq ?_
              refine ok_block ?_
              refine ok_reg ?_
              refine s1 rfl (lop_move (v := .int _ _) rfl) ?_
              refine s1 rfl (lop_move (v := .int _ _) rfl) ?_
              refine s1 rfl (lop_neq rfl rfl) ?_
              refine s1 rfl (lop_move (v := .bool _) rfl) ?_
              first
                | refine gsplitP 3 rfl rfl (fun g6_3 p6_3 => ?_) (fun g6_3 p6_3 => ?_)
                | refine gsplitB 3 rfl rfl (fun g6_3 p6_3 => ?_) (fun g6_3 p6_3 => ?_)
              · refine y1 rfl rfl g6_3 rfl (lop_move (v := .int _ _) rfl) ?_
                refine y1 rfl rfl g6_3 rfl (lop_move (v := .int _ _) rfl) ?_
                refine y1 rfl rfl g6_3 rfl (lop_neq rfl rfl) ?_
                first
                  | refine s1 rfl (lop_pick_t (v := .bool _) rfl g6_3 rfl) ?_
                  | refine s1 rfl (lop_pick_t (v := .bool _) rfl rfl rfl) ?_
                  | refine s1 rfl (lop_pick_f (v := .bool _) rfl rfl rfl) ?_
                  | refine s1 rfl (lop_pick rfl rfl rfl) ?_
                refine ops_nil ?_
                first
                  | refine ok_if _ rfl rfl (fun h_t37 => ?_) (fun h_t37 => ?_)
                  | refine ok_cond rfl rfl (fun h_t37 => ?_) (fun h_t37 => ?_)
                · refine ok_reg ?_
                  refine s1 rfl (lop_move (v := .int _ _) rfl) ?_
                  refine s1 rfl (lop_assign (v := .int _ _) rfl) ?_
                  refine s1 rfl (lop_assign (v := .int _ _) rfl) ?_
                  refine ops_nil ?_
                  refine ok_ret ?_
                  exact ret_gen (R := []) ⟨_, _, rfl, ⟨rfl, rfl⟩, _, _, rfl, ⟨rfl, rfl⟩, rfl⟩ (by rw [show thirdF a b = ((i : Int), 0) by unfold thirdF; rw [if_pos (by omega)]; congr 1; simp at *; omega]; exact .tup (.cons (.tf rfl) (.cons (.tf rfl) .nil))) (fun t h => by cases h)
                · refine ok_skip ?_
                  refine ok_region ?_
                  refine s1 rfl (lop_move (v := .int _ _) rfl) ?_
                  refine s1 rfl (lop_bop rfl rfl rfl (bop_add (by omega) (by omega))) ?_
                  refine s1 rfl (lop_assign (v := .int _ _) rfl) ?_
                  refine ops_nil ?_
                  exact ⟨⟨i + 1, by omega, by omega, third_step hn (by simp at *; omega)⟩, by simp only; omega, le_mk ⟨rfl, rfl, rfl, trivial⟩ trivial rfl⟩
              · refine n1 rfl rfl g6_3 ?_
                refine n1 rfl rfl g6_3 ?_
                refine n1 rfl rfl g6_3 ?_
                first
                  | refine s1 rfl (lop_pick_f (v := .bool _) rfl g6_3 rfl) ?_
                  | refine s1 rfl (lop_pick_t (v := .bool _) rfl rfl rfl) ?_
                  | refine s1 rfl (lop_pick_f (v := .bool _) rfl rfl rfl) ?_
                  | refine s1 rfl (lop_pick rfl rfl rfl) ?_
                refine ops_nil ?_
                refine ok_false rfl rfl ?_
                refine ok_skip ?_
                refine ok_region ?_
                refine s1 rfl (lop_move (v := .int _ _) rfl) ?_
                refine s1 rfl (lop_bop rfl rfl rfl (bop_add (by omega) (by omega))) ?_
                refine s1 rfl (lop_assign (v := .int _ _) rfl) ?_
                refine ops_nil ?_
                exact ⟨⟨i + 1, by omega, by omega, third_step hn (by simp at *; omega)⟩, by simp only; omega, le_mk ⟨rfl, rfl, rfl, trivial⟩ trivial rfl⟩
            · refine ok_exit ?_
              refine ok_reg ?_
              refine s1 rfl (lop_assign (v := .int _ _) rfl) ?_
              refine s1 rfl (lop_assign (v := .int _ _) rfl) ?_
              refine ops_nil ?_
              refine ok_ret ?_
              exact absurd (hn 1 (by omega) (by omega)) (by have := hn 2 (by omega) (by omega); have := hn 3 (by omega) (by omega); omega)

end Go.Proofs
