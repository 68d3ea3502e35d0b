/- Chapter 16: walks. Printed by gen.py. -/
import Derived.Test.YtikikdgfebbcmaaT16jb
set_option linter.unusedVariables false
set_option linter.unusedSimpArgs false
set_option maxRecDepth 100000
namespace Go.Proofs
open Go.Hg

theorem ref16_Homes_ac (v : VolD) (n : Int) : AC Try.prog 18 [.agg v.enc, i64 n] (rowOf PlD.enc (homesF v n 2)) := by
  have hs1 := spreadF_le v.id v.home 2 n (List.replicate (clampF n) true)
  have hs2 := spreadF_le v.id v.mate 2 n (List.replicate (clampF n) true)
  have hc64 := clampF_le n
  refine AC.intro Try.func18 rfl (Nat.le_of_ble_eq_true rfl) ?_
  refine ok_reg ?_
  first
    | refine s1w rfl (lop_box (t := 2) (v := .agg [.int _ _, .int _ _, .int _ _, .int _ _, .int _ _, _, _, .int _ _, .int _ _]) (f := true) (cs := [.int _ _, .int _ _, .int _ _, .int _ _, .int _ _, _, _, .int _ _, .int _ _]) rfl rfl rfl rfl (fun h => by cases h)) rfl ?_
    | refine s1w rfl (lop_box (t := 2) (v := .agg [.int _ _, .int _ _, .int _ _, .int _ _, .int _ _, _, _, .int _ _, .int _ _]) (f := false) (cs := [.int _ _, .int _ _, .int _ _, .int _ _, .int _ _, _, _, .int _ _, .int _ _]) rfl rfl rfl rfl (fun _ => rfl)) rfl ?_
  first
    | refine s1 rfl (lop_assign (v := .sl _ _) rfl) ?_
    | refine s1 rfl (lop_assign (v := .os _ _ _ _) rfl) ?_
    | refine s1 rfl (lop_assign (v := .z0) rfl) ?_
  refine ops_nil ?_
  refine ok_reg ?_
  first
    | refine s1 rfl (lop_assign (v := .sl _ _) rfl) ?_
    | refine s1 rfl (lop_assign (v := .os _ _ _ _) rfl) ?_
    | refine s1 rfl (lop_assign (v := .z0) rfl) ?_
  refine ops_nil ?_
  refine ok_seq ?_
  refine ok_reg ?_
  refine s1 rfl (lop_assign (v := .int _ _) rfl) ?_
  refine ops_nil ?_
  refine ok_block ?_
  refine ok_loop (ι := {i : Nat // i ≤ clampF n}) (fun i => ⟨[(1, i64 n), (2, .rf 2 0), (5, .os 100 0 1 i.1), (6, i64 i.1)], [(2, some (true, v.enc)), (100, some (true, (List.replicate i.1 true).flatMap boolEnc))], 48⟩) (fun i => clampF n - i.1) (⟨0, Nat.zero_le _⟩) ?_ ?_
  · exact le_ren [(100, none)] ⟨rfl, rfl, rfl, rfl, trivial⟩ rfl ⟨⟨_, rfl, rfl⟩, ⟨rfl, rfl⟩, trivial⟩ rfl rfl rfl
  rintro ⟨i, hi⟩
  dsimp only
  refine ok_seq ?_
  refine ok_reg ?_
  refine s1 rfl (lop_move (v := .int _ _) rfl) ?_
  refine s1 rfl (lop_move (v := .int _ _) rfl) ?_
  refine s1 rfl (lop_lss rfl rfl) ?_
  refine s1 rfl (lop_move (v := .bool _) rfl) ?_
  first
    | refine gsplitP 3 rfl rfl (fun g3_3 p3_3 => ?_) (fun g3_3 p3_3 => ?_)
    | refine gsplitB 3 rfl rfl (fun g3_3 p3_3 => ?_) (fun g3_3 p3_3 => ?_)
  · refine y1 rfl rfl g3_3 rfl (lop_move (v := .int _ _) rfl) ?_
    refine y1 rfl rfl g3_3 rfl (lop_lss rfl rfl) ?_
    first
      | refine s1 rfl (lop_pick_t (v := .bool _) rfl g3_3 rfl) ?_
      | refine s1 rfl (lop_pick_t (v := .bool _) rfl rfl rfl) ?_
      | refine s1 rfl (lop_pick_f (v := .bool _) rfl rfl rfl) ?_
      | refine s1 rfl (lop_pick rfl rfl rfl) ?_
    refine ops_nil ?_
    first
      | refine ok_if _ rfl rfl (fun h_t17 => ?_) (fun h_t17 => ?_)
      | refine ok_cond rfl rfl (fun h_t17 => ?_) (fun h_t17 => ?_)
    · refine ok_skip ?_
      refine ok_seq ?_
      refine ok_block ?_
      refine ok_region ?_
      first
        | refine s1 rfl (lop_move (v := .sl _ _) rfl) ?_
        | refine s1 rfl (lop_move (v := .os _ _ _ _) rfl) ?_
        | refine s1 rfl (lop_move (v := .z0) rfl) ?_
      first
        | refine s1w rfl (lop_buildSlice (t := 21) (cs := [.bool _]) (f := true) Try.underlying71 Try.sizeOf4 (by decide) Try.zeroValue4 rfl rfl rfl (by decide) rfl (.inr (by decide)) rfl (fun h => by cases h)) rfl ?_
        | refine s1w rfl (lop_buildSlice (t := 21) (cs := [.bool _]) (f := false) Try.underlying71 Try.sizeOf4 (by decide) Try.zeroValue4 rfl rfl rfl (by decide) rfl (.inr (by decide)) rfl (fun _ => rfl)) rfl ?_
      first
        | refine s2w rfl (lop_append_os (t' := 22) rfl rfl rfl (by rw [flat_length boolEnc_len, List.length_replicate]) (.os Try.underlying71 (List.mem_singleton.2 rfl) rfl (Nat.le_of_ble_eq_true rfl) rfl) Try.underlying71 info4 rfl (by omega) (by omega)) rfl ?_
        | refine s1w rfl (lop_append_z0 (t' := 22) rfl rfl (.os Try.underlying71 (List.mem_singleton.2 rfl) rfl (Nat.le_of_ble_eq_true rfl) rfl) Try.underlying71 info4 rfl (by omega) (by omega)) rfl ?_
        | refine s2w rfl (lop_append_os (t' := 22) (R := []) rfl rfl rfl (by rw [flat_length boolEnc_len, List.length_replicate]) (.sl Try.underlying71 rfl) Try.underlying71 info4 rfl (by omega) (by omega)) rfl ?_
        | refine s1w rfl (lop_append_z0 (t' := 22) (R := []) rfl rfl (.sl Try.underlying71 rfl) Try.underlying71 info4 rfl (by omega) (by omega)) rfl ?_
        | refine s2w rfl (lop_append_os (t' := 22) (R := []) rfl rfl rfl (by rw [flat_length boolEnc_len, List.length_replicate]) (.z0 Try.underlying71) Try.underlying71 info4 rfl (by omega) (by omega)) rfl ?_
        | refine s1w rfl (lop_append_z0 (t' := 22) (R := []) rfl rfl (.z0 Try.underlying71) Try.underlying71 info4 rfl (by omega) (by omega)) rfl ?_
      first
        | refine s1 rfl (lop_assign (v := .sl _ _) rfl) ?_
        | refine s1 rfl (lop_assign (v := .os _ _ _ _) rfl) ?_
        | refine s1 rfl (lop_assign (v := .z0) rfl) ?_
      refine ops_nil ?_
      refine ok_region ?_
      refine s1 rfl (lop_move (v := .int _ _) rfl) ?_
      refine s1 rfl (lop_bop rfl rfl rfl (bop_add (by omega) (by omega))) ?_
      refine s1 rfl (lop_assign (v := .int _ _) rfl) ?_
      refine ops_nil ?_
      have hcl : i < clampF n := by unfold clampF; omega
      exact ⟨⟨i + 1, by omega⟩, by simp only; omega, le_ren [(100, some 22)] ⟨rfl, rfl, rfl, rfl, trivial⟩ rfl ⟨⟨_, rfl, rfl⟩, ⟨_, rfl, by show _ = List.flatMap _ _; rw [List.replicate_succ', List.flatMap_append]; rfl⟩, trivial⟩ rfl rfl rfl⟩
    · refine ok_exit ?_
      refine ok_reg ?_
      have e9 : i = clampF n := by unfold clampF at *; omega
      subst e9
      refine ops_le (T := ⟨[(1, i64 n), (2, .rf 2 0), (5, rowOf boolEnc (List.replicate (clampF n) true))], [(2, some (true, v.enc))], 48⟩) (le_frz [100] ⟨.inl ⟨rfl, rfl⟩, .inl ⟨rfl, rfl⟩, .inr (by unfold rowOf; rw [List.length_replicate]; exact .osf (List.mem_singleton.2 rfl) rfl (by rw [flat_length boolEnc_len, List.length_replicate]; omega) (by rw [List.drop_zero, List.take_of_length_le (by rw [flat_length boolEnc_len, List.length_replicate]; omega)])), trivial⟩ ⟨.inr ⟨rfl, rfl, trivial⟩, trivial⟩ (fun t ht => by simp at ht; subst ht; exact Option.some_ne_none _) rfl) ?_
      first
        | refine s1 rfl (lop_fieldAddr_rf (fo := 0) rfl Try.underlying39 rfl rfl Try.sizeOf3 (by decide)) ?_
        | refine s1 rfl (lop_fieldAddr_fp (fo := 0) rfl Try.underlying39 rfl rfl Try.sizeOf3 (by decide) rfl) ?_
      first
        | refine s1 rfl (lop_load_rf rfl rfl Try.isAgg3 rfl) ?_
        | refine s1 rfl (lop_load_fp rfl Try.isAgg3 rfl) ?_
      first
        | refine s1 rfl (lop_fieldAddr_rf (fo := 1) rfl Try.underlying39 rfl rfl Try.sizeOf3 (by decide)) ?_
        | refine s1 rfl (lop_fieldAddr_fp (fo := 1) rfl Try.underlying39 rfl rfl Try.sizeOf3 (by decide) rfl) ?_
      first
        | refine s1 rfl (lop_load_rf rfl rfl Try.isAgg3 rfl) ?_
        | refine s1 rfl (lop_load_fp rfl Try.isAgg3 rfl) ?_
      refine s1 rfl (lop_move (v := .int _ _) rfl) ?_
      first
        | refine s1 rfl (lop_move (v := .sl _ _) rfl) ?_
        | refine s1 rfl (lop_move (v := .os _ _ _ _) rfl) ?_
        | refine s1 rfl (lop_move (v := .z0) rfl) ?_
      refine s1 rfl (lop_call rfl Try.call35 (FrzL.tf rfl) (.inl rfl) (ref11_Spread_ac v.id v.home 2 n (live := List.replicate (clampF n) true) (by rw [List.length_replicate]; omega))) ?_
      refine s1 rfl (lop_move (v := .tup _) rfl) ?_
      refine s1 rfl (lop_extract rfl rfl) ?_
      refine s1 rfl (lop_extract rfl rfl) ?_
      first
        | refine s1 rfl (lop_assign (v := .sl _ _) rfl) ?_
        | refine s1 rfl (lop_assign (v := .os _ _ _ _) rfl) ?_
        | refine s1 rfl (lop_assign (v := .z0) rfl) ?_
      refine s1 rfl (lop_assign (v := .int _ _) rfl) ?_
      refine ops_nil ?_
      refine ok_reg ?_
      first
        | refine s1 rfl (lop_fieldAddr_rf (fo := 0) rfl Try.underlying39 rfl rfl Try.sizeOf3 (by decide)) ?_
        | refine s1 rfl (lop_fieldAddr_fp (fo := 0) rfl Try.underlying39 rfl rfl Try.sizeOf3 (by decide) rfl) ?_
      first
        | refine s1 rfl (lop_load_rf rfl rfl Try.isAgg3 rfl) ?_
        | refine s1 rfl (lop_load_fp rfl Try.isAgg3 rfl) ?_
      first
        | refine s1 rfl (lop_fieldAddr_rf (fo := 2) rfl Try.underlying39 rfl rfl Try.sizeOf3 (by decide)) ?_
        | refine s1 rfl (lop_fieldAddr_fp (fo := 2) rfl Try.underlying39 rfl rfl Try.sizeOf3 (by decide) rfl) ?_
      first
        | refine s1 rfl (lop_load_rf rfl rfl Try.isAgg3 rfl) ?_
        | refine s1 rfl (lop_load_fp rfl Try.isAgg3 rfl) ?_
      refine s1 rfl (lop_move (v := .int _ _) rfl) ?_
      first
        | refine s1 rfl (lop_move (v := .sl _ _) rfl) ?_
        | refine s1 rfl (lop_move (v := .os _ _ _ _) rfl) ?_
        | refine s1 rfl (lop_move (v := .z0) rfl) ?_
      refine s1 rfl (lop_call rfl Try.call35 (FrzL.tf rfl) (.inl rfl) (ref11_Spread_ac v.id v.mate 2 n (live := List.replicate (clampF n) true) (by rw [List.length_replicate]; omega))) ?_
      refine s1 rfl (lop_move (v := .tup _) rfl) ?_
      refine s1 rfl (lop_extract rfl rfl) ?_
      refine s1 rfl (lop_extract rfl rfl) ?_
      first
        | refine s1 rfl (lop_assign (v := .sl _ _) rfl) ?_
        | refine s1 rfl (lop_assign (v := .os _ _ _ _) rfl) ?_
        | refine s1 rfl (lop_assign (v := .z0) rfl) ?_
      refine s1 rfl (lop_assign (v := .int _ _) rfl) ?_
      refine ops_nil ?_
      refine ok_reg ?_
      first
        | refine s1w rfl (lop_buildSlice (t := 43) (cs := []) (f := true) Try.underlying30 Try.sizeOf41 (by decide) Try.zeroValue41 rfl rfl rfl (by decide) rfl (.inl rfl) rfl (fun h => by cases h)) rfl ?_
        | refine s1w rfl (lop_buildSlice (t := 43) (cs := []) (f := false) Try.underlying30 Try.sizeOf41 (by decide) Try.zeroValue41 rfl rfl rfl (by decide) rfl (.inl rfl) rfl (fun _ => rfl)) rfl ?_
      first
        | refine s1 rfl (lop_move (v := .sl _ _) rfl) ?_
        | refine s1 rfl (lop_move (v := .os _ _ _ _) rfl) ?_
        | refine s1 rfl (lop_move (v := .z0) rfl) ?_
      first
        | refine s2w rfl (lop_append_os (t' := 45) (R := []) rfl rfl rfl rfl (.sl Try.underlying30 (flat_length PlD.len _)) Try.underlying30 info41 rfl (by omega) (by omega)) rfl ?_
        | refine s1w rfl (lop_append_z0 (t' := 45) (R := []) rfl rfl (.sl Try.underlying30 (flat_length PlD.len _)) Try.underlying30 info41 rfl (by omega) (by omega)) rfl ?_
      first
        | refine s1 rfl (lop_move (v := .sl _ _) rfl) ?_
        | refine s1 rfl (lop_move (v := .os _ _ _ _) rfl) ?_
        | refine s1 rfl (lop_move (v := .z0) rfl) ?_
      first
        | refine s2w rfl (lop_append_os (t' := 47) (R := []) rfl rfl rfl (by rw [List.nil_append, flat_length PlD.len]; omega) (.sl Try.underlying30 (flat_length PlD.len _)) Try.underlying30 info41 rfl (by omega) (by omega)) rfl ?_
        | refine s1w rfl (lop_append_z0 (t' := 47) (R := []) rfl rfl (.sl Try.underlying30 (flat_length PlD.len _)) Try.underlying30 info41 rfl (by omega) (by omega)) rfl ?_
      first
        | refine s1 rfl (lop_assign (v := .sl _ _) rfl) ?_
        | refine s1 rfl (lop_assign (v := .os _ _ _ _) rfl) ?_
        | refine s1 rfl (lop_assign (v := .z0) rfl) ?_
      refine ops_nil ?_
      refine ok_ret ?_
      rw [show rowOf PlD.enc (homesF v n 2) = .sl (0 + (spreadF v.id v.home 2 n (List.replicate (clampF n) true)).1.length + (spreadF v.id v.mate 2 n (List.replicate (clampF n) true)).1.length) ([] ++ (spreadF v.id v.home 2 n (List.replicate (clampF n) true)).1.flatMap PlD.enc ++ (spreadF v.id v.mate 2 n (List.replicate (clampF n) true)).1.flatMap PlD.enc) by unfold rowOf; show V.sl (([] ++ (spreadF v.id v.home 2 n (List.replicate (clampF n) true)).1) ++ (spreadF v.id v.mate 2 n (List.replicate (clampF n) true)).1).length (List.flatMap _ (([] ++ (spreadF v.id v.home 2 n (List.replicate (clampF n) true)).1) ++ (spreadF v.id v.mate 2 n (List.replicate (clampF n) true)).1)) = _; rw [List.flatMap_append, List.flatMap_append, List.length_append, List.length_append]; rfl]
      exact ret_gen (R := [47]) ⟨_, _, rfl, ⟨rfl, rfl⟩, rfl⟩ (.osf (List.mem_singleton.2 rfl) rfl (by rw [List.length_append, List.nil_append, flat_length PlD.len, flat_length PlD.len]; omega) (by rw [List.drop_zero, List.take_of_length_le (by rw [List.length_append, List.nil_append, flat_length PlD.len, flat_length PlD.len]; omega)])) (fun t ht => by simp at ht; subst ht; exact Option.some_ne_none _)
  · refine n1 rfl rfl g3_3 ?_
    refine n1 rfl rfl g3_3 ?_
    first
      | refine s1 rfl (lop_pick_f (v := .bool _) rfl g3_3 rfl) ?_
      | refine s1 rfl (lop_pick_t (v := .bool _) rfl rfl rfl) ?_
      | refine s1 rfl (lop_pick_f (v := .bool _) rfl rfl rfl) ?_
      | refine s1 rfl (lop_pick rfl rfl rfl) ?_
    refine ops_nil ?_
    refine ok_false rfl rfl ?_
    refine ok_exit ?_
    refine ok_reg ?_
    have e9 : i = clampF n := by unfold clampF at *; omega
    subst e9
    refine ops_le (T := ⟨[(1, i64 n), (2, .rf 2 0), (5, rowOf boolEnc (List.replicate (clampF n) true))], [(2, some (true, v.enc))], 48⟩) (le_frz [100] ⟨.inl ⟨rfl, rfl⟩, .inl ⟨rfl, rfl⟩, .inr (by unfold rowOf; rw [List.length_replicate]; exact .osf (List.mem_singleton.2 rfl) rfl (by rw [flat_length boolEnc_len, List.length_replicate]; omega) (by rw [List.drop_zero, List.take_of_length_le (by rw [flat_length boolEnc_len, List.length_replicate]; omega)])), trivial⟩ ⟨.inr ⟨rfl, rfl, trivial⟩, trivial⟩ (fun t ht => by simp at ht; subst ht; exact Option.some_ne_none _) rfl) ?_
    first
      | refine s1 rfl (lop_fieldAddr_rf (fo := 0) rfl Try.underlying39 rfl rfl Try.sizeOf3 (by decide)) ?_
      | refine s1 rfl (lop_fieldAddr_fp (fo := 0) rfl Try.underlying39 rfl rfl Try.sizeOf3 (by decide) rfl) ?_
    first
      | refine s1 rfl (lop_load_rf rfl rfl Try.isAgg3 rfl) ?_
      | refine s1 rfl (lop_load_fp rfl Try.isAgg3 rfl) ?_
    first
      | refine s1 rfl (lop_fieldAddr_rf (fo := 1) rfl Try.underlying39 rfl rfl Try.sizeOf3 (by decide)) ?_
      | refine s1 rfl (lop_fieldAddr_fp (fo := 1) rfl Try.underlying39 rfl rfl Try.sizeOf3 (by decide) rfl) ?_
    first
      | refine s1 rfl (lop_load_rf rfl rfl Try.isAgg3 rfl) ?_
      | refine s1 rfl (lop_load_fp rfl Try.isAgg3 rfl) ?_
    refine s1 rfl (lop_move (v := .int _ _) rfl) ?_
    first
      | refine s1 rfl (lop_move (v := .sl _ _) rfl) ?_
      | refine s1 rfl (lop_move (v := .os _ _ _ _) rfl) ?_
      | refine s1 rfl (lop_move (v := .z0) rfl) ?_
    refine s1 rfl (lop_call rfl Try.call35 (FrzL.tf rfl) (.inl rfl) (ref11_Spread_ac v.id v.home 2 n (live := List.replicate (clampF n) true) (by rw [List.length_replicate]; omega))) ?_
    refine s1 rfl (lop_move (v := .tup _) rfl) ?_
    refine s1 rfl (lop_extract rfl rfl) ?_
    refine s1 rfl (lop_extract rfl rfl) ?_
    first
      | refine s1 rfl (lop_assign (v := .sl _ _) rfl) ?_
      | refine s1 rfl (lop_assign (v := .os _ _ _ _) rfl) ?_
      | refine s1 rfl (lop_assign (v := .z0) rfl) ?_
    refine s1 rfl (lop_assign (v := .int _ _) rfl) ?_
    refine ops_nil ?_
    refine ok_reg ?_
    first
      | refine s1 rfl (lop_fieldAddr_rf (fo := 0) rfl Try.underlying39 rfl rfl Try.sizeOf3 (by decide)) ?_
      | refine s1 rfl (lop_fieldAddr_fp (fo := 0) rfl Try.underlying39 rfl rfl Try.sizeOf3 (by decide) rfl) ?_
    first
      | refine s1 rfl (lop_load_rf rfl rfl Try.isAgg3 rfl) ?_
      | refine s1 rfl (lop_load_fp rfl Try.isAgg3 rfl) ?_
    first
      | refine s1 rfl (lop_fieldAddr_rf (fo := 2) rfl Try.underlying39 rfl rfl Try.sizeOf3 (by decide)) ?_
      | refine s1 rfl (lop_fieldAddr_fp (fo := 2) rfl Try.underlying39 rfl rfl Try.sizeOf3 (by decide) rfl) ?_
    first
      | refine s1 rfl (lop_load_rf rfl rfl Try.isAgg3 rfl) ?_
      | refine s1 rfl (lop_load_fp rfl Try.isAgg3 rfl) ?_
    refine s1 rfl (lop_move (v := .int _ _) rfl) ?_
    first
      | refine s1 rfl (lop_move (v := .sl _ _) rfl) ?_
      | refine s1 rfl (lop_move (v := .os _ _ _ _) rfl) ?_
      | refine s1 rfl (lop_move (v := .z0) rfl) ?_
    refine s1 rfl (lop_call rfl Try.call35 (FrzL.tf rfl) (.inl rfl) (ref11_Spread_ac v.id v.mate 2 n (live := List.replicate (clampF n) true) (by rw [List.length_replicate]; omega))) ?_
    refine s1 rfl (lop_move (v := .tup _) rfl) ?_
    refine s1 rfl (lop_extract rfl rfl) ?_
    refine s1 rfl (lop_extract rfl rfl) ?_
    first
      | refine s1 rfl (lop_assign (v := .sl _ _) rfl) ?_
      | refine s1 rfl (lop_assign (v := .os _ _ _ _) rfl) ?_
      | refine s1 rfl (lop_assign (v := .z0) rfl) ?_
    refine s1 rfl (lop_assign (v := .int _ _) rfl) ?_
    refine ops_nil ?_
    refine ok_reg ?_
    first
      | refine s1w rfl (lop_buildSlice (t := 43) (cs := []) (f := true) Try.underlying30 Try.sizeOf41 (by decide) Try.zeroValue41 rfl rfl rfl (by decide) rfl (.inl rfl) rfl (fun h => by cases h)) rfl ?_
      | refine s1w rfl (lop_buildSlice (t := 43) (cs := []) (f := false) Try.underlying30 Try.sizeOf41 (by decide) Try.zeroValue41 rfl rfl rfl (by decide) rfl (.inl rfl) rfl (fun _ => rfl)) rfl ?_
    first
      | refine s1 rfl (lop_move (v := .sl _ _) rfl) ?_
      | refine s1 rfl (lop_move (v := .os _ _ _ _) rfl) ?_
      | refine s1 rfl (lop_move (v := .z0) rfl) ?_
    first
      | refine s2w rfl (lop_append_os (t' := 45) (R := []) rfl rfl rfl rfl (.sl Try.underlying30 (flat_length PlD.len _)) Try.underlying30 info41 rfl (by omega) (by omega)) rfl ?_
      | refine s1w rfl (lop_append_z0 (t' := 45) (R := []) rfl rfl (.sl Try.underlying30 (flat_length PlD.len _)) Try.underlying30 info41 rfl (by omega) (by omega)) rfl ?_
    first
      | refine s1 rfl (lop_move (v := .sl _ _) rfl) ?_
      | refine s1 rfl (lop_move (v := .os _ _ _ _) rfl) ?_
      | refine s1 rfl (lop_move (v := .z0) rfl) ?_
    first
      | refine s2w rfl (lop_append_os (t' := 47) (R := []) rfl rfl rfl (by rw [List.nil_append, flat_length PlD.len]; omega) (.sl Try.underlying30 (flat_length PlD.len _)) Try.underlying30 info41 rfl (by omega) (by omega)) rfl ?_
      | refine s1w rfl (lop_append_z0 (t' := 47) (R := []) rfl rfl (.sl Try.underlying30 (flat_length PlD.len _)) Try.underlying30 info41 rfl (by omega) (by omega)) rfl ?_
    first
      | refine s1 rfl (lop_assign (v := .sl _ _) rfl) ?_
      | refine s1 rfl (lop_assign (v := .os _ _ _ _) rfl) ?_
      | refine s1 rfl (lop_assign (v := .z0) rfl) ?_
    refine ops_nil ?_
    refine ok_ret ?_
    rw [show rowOf PlD.enc (homesF v n 2) = .sl (0 + (spreadF v.id v.home 2 n (List.replicate (clampF n) true)).1.length + (spreadF v.id v.mate 2 n (List.replicate (clampF n) true)).1.length) ([] ++ (spreadF v.id v.home 2 n (List.replicate (clampF n) true)).1.flatMap PlD.enc ++ (spreadF v.id v.mate 2 n (List.replicate (clampF n) true)).1.flatMap PlD.enc) by unfold rowOf; show V.sl (([] ++ (spreadF v.id v.home 2 n (List.replicate (clampF n) true)).1) ++ (spreadF v.id v.mate 2 n (List.replicate (clampF n) true)).1).length (List.flatMap _ (([] ++ (spreadF v.id v.home 2 n (List.replicate (clampF n) true)).1) ++ (spreadF v.id v.mate 2 n (List.replicate (clampF n) true)).1)) = _; rw [List.flatMap_append, List.flatMap_append, List.length_append, List.length_append]; rfl]
    exact ret_gen (R := [47]) ⟨_, _, rfl, ⟨rfl, rfl⟩, rfl⟩ (.osf (List.mem_singleton.2 rfl) rfl (by rw [List.length_append, List.nil_append, flat_length PlD.len, flat_length PlD.len]; omega) (by rw [List.drop_zero, List.take_of_length_le (by rw [List.length_append, List.nil_append, flat_length PlD.len, flat_length PlD.len]; omega)])) (fun t ht => by simp at ht; subst ht; exact Option.some_ne_none _)

end Go.Proofs
