/- Chapter 16: walks. Printed by gen.py. -/
import Derived.Test.YtikikdgfebbcmaaT16w
set_option linter.unusedVariables false
set_option linter.unusedSimpArgs false
set_option maxRecDepth 100000
namespace Go.Proofs
open Go.Hg

theorem ref16_inv_ac {l : List InvD} (hl : l.length ≤ 1048576) (p : PlD) : AC Try.prog 51 [rowOf InvD.enc l, .agg p.enc] (i64 (idxOf (fun x => decide (x.place = p)) l)) := by
  refine AC.intro Try.func51 rfl (Nat.le_of_ble_eq_true rfl) ?_
  refine ok_reg ?_
  first
    | refine s1w rfl (lop_box (t := 3) (v := .agg [.int _ _, .int _ _]) (f := true) (cs := [.int _ _, .int _ _]) rfl rfl rfl rfl (fun h => by cases h)) rfl ?_
    | refine s1w rfl (lop_box (t := 3) (v := .agg [.int _ _, .int _ _]) (f := false) (cs := [.int _ _, .int _ _]) rfl rfl rfl rfl (fun _ => rfl)) rfl ?_
  refine s1 rfl (lop_assign (v := .int _ _) rfl) ?_
  refine ops_nil ?_
  refine ok_seq ?_
  refine ok_reg ?_
  refine s1 rfl (lop_assign (v := .int _ _) rfl) ?_
  refine ops_nil ?_
  refine ok_block ?_
  refine ok_loop (ι := {i : Nat // i ≤ l.length ∧ ∀ j, (h : j < l.length) → j < i → (fun x => decide (x.place = p)) l[j] = false}) (fun i => ⟨[(0, rowOf InvD.enc l), (3, .rf 3 0), (5, i64 i.1)], [(3, some (true, p.enc))], 20⟩) (fun i => l.length - i.1) (⟨0, Nat.zero_le _, fun _ _ h => absurd h (Nat.not_lt_zero _)⟩) ?_ ?_
  · exact le_mk ⟨rfl, rfl, rfl, trivial⟩ ⟨.inr rfl, trivial⟩ rfl
  rintro ⟨i, hi, hn⟩
  dsimp only
  refine ok_seq ?_
  refine ok_reg ?_
  refine s1 rfl (lop_move (v := .int _ _) rfl) ?_
  first
    | refine s1 rfl (lop_move (v := .sl _ _) rfl) ?_
    | refine s1 rfl (lop_move (v := .os _ _ _ _) rfl) ?_
    | refine s1 rfl (lop_move (v := .z0) rfl) ?_
  refine s1 rfl (lop_len rfl Try.underlying27 ⟨⟨_, rfl⟩, rfl⟩) ?_
  refine s1 rfl (lop_lss rfl rfl) ?_
  refine ops_nil ?_
  first
    | refine ok_if _ rfl rfl (fun h_t9 => ?_) (fun h_t9 => ?_)
    | refine ok_cond rfl rfl (fun h_t9 => ?_) (fun h_t9 => ?_)
  · have h_t9 : i < l.length := Int.ofNat_lt.1 h_t9
    refine ok_skip ?_
    refine ok_seq ?_
    refine ok_block ?_
    refine ok_drw Try.mixed ?_
    first
      | refine d1 rfl rfl (lop_move (v := .sl _ _) rfl) ?_
      | refine d1 rfl rfl (lop_move (v := .os _ _ _ _) rfl) ?_
      | refine d1 rfl rfl (lop_move (v := .z0) rfl) ?_
    refine d1 rfl rfl (lop_move (v := .int _ _) rfl) ?_
    first
      | refine d1 rfl rfl (lop_indexAddr_os rfl rfl Try.underlying27 Try.sizeOf44 rfl h_t9) ?_
      | refine d1 rfl rfl (lop_indexAddr_sl rfl rfl Try.underlying27 Try.sizeOf44 rfl h_t9 (flat_at InvD.len h_t9) (flat_ne InvD.len (by decide) h_t9)) ?_
    first
      | refine d1 rfl rfl (lop_fieldAddr_rf (fo := 0) rfl Try.underlying44 rfl rfl Try.sizeOf41 (by decide)) ?_
      | refine d1 rfl rfl (lop_fieldAddr_fp (fo := 0) rfl Try.underlying44 rfl rfl Try.sizeOf41 (by decide) rfl) ?_
    first
      | refine d1 rfl rfl (lop_load_rf_agg (ys := [.int _ _, .int _ _]) rfl rfl Try.isAgg41 Try.sizeOf41 (Nat.le_of_ble_eq_true rfl) rfl) ?_
      | refine d1 rfl rfl (lop_load_fp_agg (ys := [.int _ _, .int _ _]) rfl Try.isAgg41 Try.sizeOf41 (Nat.le_of_ble_eq_true rfl) rfl) ?_
    first
      | refine d1 rfl rfl (lop_load_rf_agg (ys := [.int _ _, .int _ _]) rfl rfl Try.isAgg41 Try.sizeOf41 (Nat.le_of_ble_eq_true rfl) rfl) ?_
      | refine d1 rfl rfl (lop_load_fp_agg (ys := [.int _ _, .int _ _]) rfl Try.isAgg41 Try.sizeOf41 (Nat.le_of_ble_eq_true rfl) rfl) ?_
    refine d1 rfl rfl (lop_aeql rfl rfl rfl rfl eqg41 (eq41 _ _ _ _)) ?_
    refine dr_nil (by kernel_rfl) ?_
    first
      | refine ok_if _ rfl rfl (fun h_t18 => ?_) (fun h_t18 => ?_)
      | refine ok_cond rfl rfl (fun h_t18 => ?_) (fun h_t18 => ?_)
    · refine ok_reg ?_
      refine s1 rfl (lop_move (v := .int _ _) rfl) ?_
      refine s1 rfl (lop_assign (v := .int _ _) rfl) ?_
      refine ops_nil ?_
      refine ok_ret ?_
      exact ret_one rfl rfl rfl rfl (congrArg i64 (idxOf_at (p := (fun x => decide (x.place = p))) h_t9 (decide_eq_true ((PlD.eq_iff _ _).1 h_t18)) hn))
    · refine ok_skip ?_
      refine ok_region ?_
      refine s1 rfl (lop_move (v := .int _ _) rfl) ?_
      refine s1 rfl (lop_bop rfl rfl rfl (bop_add (by omega) (by omega))) ?_
      refine s1 rfl (lop_assign (v := .int _ _) rfl) ?_
      refine ops_nil ?_
      exact ⟨⟨i + 1, by omega, none_step (p := (fun x => decide (x.place = p))) hn h_t9 (decide_eq_false (fun e => h_t18 ((PlD.eq_iff _ _).2 e)))⟩, by simp only; omega, le_mk ⟨rfl, rfl, rfl, trivial⟩ ⟨.inr rfl, trivial⟩ rfl⟩
  · refine ok_exit ?_
    refine ok_reg ?_
    refine s1 rfl (lop_assign (v := .int _ _) rfl) ?_
    refine ops_nil ?_
    refine ok_ret ?_
    exact ret_one rfl rfl rfl rfl (congrArg i64 (idxOf_no (p := (fun x => decide (x.place = p))) fun j hj => hn j hj (by omega)))

theorem ref16_lives_ac {l : List InvD} (hl : InvsOk l) (p : PlD) : AC Try.prog 33 [rowOf InvD.enc l, .agg p.enc] (.bool (livesAt l p)) := by
  refine AC.intro Try.func33 rfl (Nat.le_of_ble_eq_true rfl) ?_
  refine ok_reg ?_
  first
    | refine s1w rfl (lop_box (t := 3) (v := .agg [.int _ _, .int _ _]) (f := true) (cs := [.int _ _, .int _ _]) rfl rfl rfl rfl (fun h => by cases h)) rfl ?_
    | refine s1w rfl (lop_box (t := 3) (v := .agg [.int _ _, .int _ _]) (f := false) (cs := [.int _ _, .int _ _]) rfl rfl rfl rfl (fun _ => rfl)) rfl ?_
  refine s1 rfl (lop_assign (v := .bool _) rfl) ?_
  refine ops_nil ?_
  refine ok_reg ?_
  first
    | refine s1 rfl (lop_move (v := .sl _ _) rfl) ?_
    | refine s1 rfl (lop_move (v := .os _ _ _ _) rfl) ?_
    | refine s1 rfl (lop_move (v := .z0) rfl) ?_
  first
    | refine s1 rfl (lop_load_rf_agg (ys := [.int _ _, .int _ _]) rfl rfl Try.isAgg41 Try.sizeOf41 (Nat.le_of_ble_eq_true rfl) rfl) ?_
    | refine s1 rfl (lop_load_fp_agg (ys := [.int _ _, .int _ _]) rfl Try.isAgg41 Try.sizeOf41 (Nat.le_of_ble_eq_true rfl) rfl) ?_
  refine s1 rfl (lop_call rfl Try.call51 (FrzL.tf rfl) (.inl rfl) (ref16_inv_ac hl.1 p)) ?_
  refine s1 rfl (lop_assign (v := .int _ _) rfl) ?_
  refine ops_nil ?_
  refine ok_reg ?_
  refine s1 rfl (lop_move (v := .int _ _) rfl) ?_
  refine s1 rfl (lop_geq rfl rfl) ?_
  refine s1 rfl (lop_move (v := .bool _) rfl) ?_
  first
    | refine gsplitP 2 rfl rfl (fun g2_2 p2_2 => ?_) (fun g2_2 p2_2 => ?_)
    | refine gsplitB 2 rfl rfl (fun g2_2 p2_2 => ?_) (fun g2_2 p2_2 => ?_)
  · obtain ⟨i, hi, hix, hat⟩ := invAt_at (show ¬ idxOf (fun x => decide (x.place = p)) l < 0 by omega)
    first
      | refine y1 rfl rfl g2_2 rfl (lop_move (v := .sl _ _) rfl) ?_
      | refine y1 rfl rfl g2_2 rfl (lop_move (v := .os _ _ _ _) rfl) ?_
      | refine y1 rfl rfl g2_2 rfl (lop_move (v := .z0) rfl) ?_
    refine y1 rfl rfl g2_2 rfl (lop_move (v := .int _ _) rfl) ?_
    first
      | refine y1 rfl rfl g2_2 rfl (lop_indexAddr_os rfl rfl Try.underlying27 Try.sizeOf44 hix hi) ?_
      | refine y1 rfl rfl g2_2 rfl (lop_indexAddr_sl rfl rfl Try.underlying27 Try.sizeOf44 hix hi (flat_at InvD.len hi) (flat_ne InvD.len (by decide) hi)) ?_
    first
      | refine y1 rfl rfl g2_2 rfl (lop_fieldAddr_rf (fo := 2) rfl Try.underlying44 rfl rfl Try.sizeOf4 (by decide)) ?_
      | refine y1 rfl rfl g2_2 rfl (lop_fieldAddr_fp (fo := 2) rfl Try.underlying44 rfl rfl Try.sizeOf4 (by decide) rfl) ?_
    first
      | refine y1 rfl rfl g2_2 rfl (lop_load_rf rfl rfl Try.isAgg4 rfl) ?_
      | refine y1 rfl rfl g2_2 rfl (lop_load_fp rfl Try.isAgg4 rfl) ?_
    first
      | refine s1 rfl (lop_pick_t (v := .bool _) rfl g2_2 rfl) ?_
      | refine s1 rfl (lop_pick_t (v := .bool _) rfl rfl rfl) ?_
      | refine s1 rfl (lop_pick_f (v := .bool _) rfl rfl rfl) ?_
      | refine s1 rfl (lop_pick rfl rfl rfl) ?_
    refine s1 rfl (lop_assign (v := .bool _) rfl) ?_
    refine ops_nil ?_
    refine ok_ret ?_
    exact ret_one rfl rfl rfl rfl (congrArg V.bool (by unfold livesAt; rw [hat]; rfl))
  · have hno := invAt_no (show idxOf (fun x => decide (x.place = p)) l < 0 by omega)
    refine n1 rfl rfl g2_2 ?_
    refine n1 rfl rfl g2_2 ?_
    refine n1 rfl rfl g2_2 ?_
    refine n1 rfl rfl g2_2 ?_
    refine n1 rfl rfl g2_2 ?_
    first
      | refine s1 rfl (lop_pick_f (v := .bool _) rfl g2_2 rfl) ?_
      | refine s1 rfl (lop_pick_t (v := .bool _) rfl rfl rfl) ?_
      | refine s1 rfl (lop_pick_f (v := .bool _) rfl rfl rfl) ?_
      | refine s1 rfl (lop_pick rfl rfl rfl) ?_
    refine s1 rfl (lop_assign (v := .bool _) rfl) ?_
    refine ops_nil ?_
    refine ok_ret ?_
    exact ret_one rfl rfl rfl rfl (congrArg V.bool (by unfold livesAt; rw [hno]; rfl))

theorem ref16_Has_ac {l : List InvD} (hl : InvsOk l) (p : PlD) (k : KeyD) : AC Try.prog 26 [rowOf InvD.enc l, .agg p.enc, .agg k.enc] (.bool (hasAt l p k)) := by
  refine AC.intro Try.func26 rfl (Nat.le_of_ble_eq_true rfl) ?_
  refine ok_reg ?_
  first
    | refine s1w rfl (lop_box (t := 4) (v := .agg [.int _ _, .int _ _]) (f := true) (cs := [.int _ _, .int _ _]) rfl rfl rfl rfl (fun h => by cases h)) rfl ?_
    | refine s1w rfl (lop_box (t := 4) (v := .agg [.int _ _, .int _ _]) (f := false) (cs := [.int _ _, .int _ _]) rfl rfl rfl rfl (fun _ => rfl)) rfl ?_
  first
    | refine s1w rfl (lop_box (t := 5) (v := .agg [.int _ _, .int _ _]) (f := true) (cs := [.int _ _, .int _ _]) rfl rfl rfl rfl (fun h => by cases h)) rfl ?_
    | refine s1w rfl (lop_box (t := 5) (v := .agg [.int _ _, .int _ _]) (f := false) (cs := [.int _ _, .int _ _]) rfl rfl rfl rfl (fun _ => rfl)) rfl ?_
  refine s1 rfl (lop_assign (v := .bool _) rfl) ?_
  refine ops_nil ?_
  refine ok_reg ?_
  first
    | refine s1 rfl (lop_move (v := .sl _ _) rfl) ?_
    | refine s1 rfl (lop_move (v := .os _ _ _ _) rfl) ?_
    | refine s1 rfl (lop_move (v := .z0) rfl) ?_
  first
    | refine s1 rfl (lop_load_rf_agg (ys := [.int _ _, .int _ _]) rfl rfl Try.isAgg41 Try.sizeOf41 (Nat.le_of_ble_eq_true rfl) rfl) ?_
    | refine s1 rfl (lop_load_fp_agg (ys := [.int _ _, .int _ _]) rfl Try.isAgg41 Try.sizeOf41 (Nat.le_of_ble_eq_true rfl) rfl) ?_
  refine s1 rfl (lop_call rfl Try.call51 (FrzL.tf rfl) (.inl rfl) (ref16_inv_ac hl.1 p)) ?_
  refine s1 rfl (lop_assign (v := .int _ _) rfl) ?_
  refine ops_nil ?_
  refine ok_seq ?_
  refine ok_reg ?_
  refine s1 rfl (lop_move (v := .int _ _) rfl) ?_
  refine s1 rfl (lop_lss rfl rfl) ?_
  refine s1 rfl (lop_move (v := .bool _) rfl) ?_
  first
    | refine gsplitP 2 rfl rfl (fun g2_2 p2_2 => ?_) (fun g2_2 p2_2 => ?_)
    | refine gsplitB 2 rfl rfl (fun g2_2 p2_2 => ?_) (fun g2_2 p2_2 => ?_)
  · have hno := invAt_no (show idxOf (fun x => decide (x.place = p)) l < 0 by omega)
    refine n1 rfl rfl g2_2 ?_
    refine n1 rfl rfl g2_2 ?_
    refine n1 rfl rfl g2_2 ?_
    refine n1 rfl rfl g2_2 ?_
    refine n1 rfl rfl g2_2 ?_
    refine n1 rfl rfl g2_2 ?_
    first
      | refine s1 rfl (lop_pick_t (v := .bool _) rfl g2_2 rfl) ?_
      | refine s1 rfl (lop_pick_t (v := .bool _) rfl rfl rfl) ?_
      | refine s1 rfl (lop_pick_f (v := .bool _) rfl rfl rfl) ?_
      | refine s1 rfl (lop_pick rfl rfl rfl) ?_
    refine ops_nil ?_
    refine ok_true rfl rfl ?_
    refine ok_reg ?_
    refine s1 rfl (lop_assign (v := .bool _) rfl) ?_
    refine ops_nil ?_
    refine ok_ret ?_
    exact ret_one rfl rfl rfl rfl (congrArg V.bool (by unfold hasAt; rw [hno]; rfl))
  · obtain ⟨m, hm, hix, hat⟩ := invAt_at (show ¬ idxOf (fun x => decide (x.place = p)) l < 0 by omega)
    first
      | refine y1 rfl rfl g2_2 rfl (lop_move (v := .sl _ _) rfl) ?_
      | refine y1 rfl rfl g2_2 rfl (lop_move (v := .os _ _ _ _) rfl) ?_
      | refine y1 rfl rfl g2_2 rfl (lop_move (v := .z0) rfl) ?_
    refine y1 rfl rfl g2_2 rfl (lop_move (v := .int _ _) rfl) ?_
    first
      | refine y1 rfl rfl g2_2 rfl (lop_indexAddr_os rfl rfl Try.underlying27 Try.sizeOf44 hix hm) ?_
      | refine y1 rfl rfl g2_2 rfl (lop_indexAddr_sl rfl rfl Try.underlying27 Try.sizeOf44 hix hm (flat_at InvD.len hm) (flat_ne InvD.len (by decide) hm)) ?_
    first
      | refine y1 rfl rfl g2_2 rfl (lop_fieldAddr_rf (fo := 2) rfl Try.underlying44 rfl rfl Try.sizeOf4 (by decide)) ?_
      | refine y1 rfl rfl g2_2 rfl (lop_fieldAddr_fp (fo := 2) rfl Try.underlying44 rfl rfl Try.sizeOf4 (by decide) rfl) ?_
    first
      | refine y1 rfl rfl g2_2 rfl (lop_load_rf rfl rfl Try.isAgg4 rfl) ?_
      | refine y1 rfl rfl g2_2 rfl (lop_load_fp rfl Try.isAgg4 rfl) ?_
    refine y1 rfl rfl g2_2 rfl (lop_not rfl) ?_
    first
      | refine s1 rfl (lop_pick_f (v := .bool _) rfl g2_2 rfl) ?_
      | refine s1 rfl (lop_pick_t (v := .bool _) rfl rfl rfl) ?_
      | refine s1 rfl (lop_pick_f (v := .bool _) rfl rfl rfl) ?_
      | refine s1 rfl (lop_pick rfl rfl rfl) ?_
    refine ops_nil ?_
    first
      | refine ok_if _ rfl rfl (fun h_t21 => ?_) (fun h_t21 => ?_)
      | refine ok_cond rfl rfl (fun h_t21 => ?_) (fun h_t21 => ?_)
    · refine ok_reg ?_
      refine s1 rfl (lop_assign (v := .bool _) rfl) ?_
      refine ops_nil ?_
      refine ok_ret ?_
      exact ret_one rfl rfl rfl rfl (congrArg V.bool (by unfold hasAt; rw [hat]; simp at h_t21; simp [h_t21]))
    · have hkl := hl.2 l[m] (List.getElem_mem hm)
      refine ok_skip ?_
      refine ok_seq ?_
      refine ok_reg ?_
      refine s1 rfl (lop_assign (v := .int _ _) rfl) ?_
      refine ops_nil ?_
      refine ok_block ?_
      refine ok_loop (ι := {i : Nat // i ≤ l[m].keys.length ∧ ∀ j, (h : j < l[m].keys.length) → j < i → (fun x => decide (k = x)) l[m].keys[j] = false}) (fun i => ⟨[(0, rowOf InvD.enc l), (5, .rf 5 0), (7, i64 (idxOf (fun x => decide (x.place = p)) l)), (8, i64 i.1)], [(5, some (true, k.enc))], 42⟩) (fun i => l[m].keys.length - i.1) (⟨0, Nat.zero_le _, fun _ _ h => absurd h (Nat.not_lt_zero _)⟩) ?_ ?_
      · exact le_mk ⟨rfl, rfl, rfl, rfl, trivial⟩ ⟨.inr rfl, trivial⟩ rfl
      rintro ⟨i, hi, hn⟩
      dsimp only
      refine ok_seq ?_
      refine ok_reg ?_
      refine s1 rfl (lop_move (v := .int _ _) rfl) ?_
      first
        | refine s1 rfl (lop_move (v := .sl _ _) rfl) ?_
        | refine s1 rfl (lop_move (v := .os _ _ _ _) rfl) ?_
        | refine s1 rfl (lop_move (v := .z0) rfl) ?_
      refine s1 rfl (lop_move (v := .int _ _) rfl) ?_
      first
        | refine s1 rfl (lop_indexAddr_os rfl rfl Try.underlying27 Try.sizeOf44 hix hm) ?_
        | refine s1 rfl (lop_indexAddr_sl rfl rfl Try.underlying27 Try.sizeOf44 hix hm (flat_at InvD.len hm) (flat_ne InvD.len (by decide) hm)) ?_
      first
        | refine s1 rfl (lop_fieldAddr_rf (fo := 3) rfl Try.underlying44 rfl rfl Try.sizeOf42 (by decide)) ?_
        | refine s1 rfl (lop_fieldAddr_fp (fo := 3) rfl Try.underlying44 rfl rfl Try.sizeOf42 (by decide) rfl) ?_
      first
        | refine s1 rfl (lop_load_rf rfl rfl Try.isAgg42 rfl) ?_
        | refine s1 rfl (lop_load_fp rfl Try.isAgg42 rfl) ?_
      refine s1 rfl (lop_len rfl Try.underlying42 ⟨⟨_, rfl⟩, rfl⟩) ?_
      refine s1 rfl (lop_lss rfl rfl) ?_
      refine ops_nil ?_
      first
        | refine ok_if _ rfl rfl (fun h_t29 => ?_) (fun h_t29 => ?_)
        | refine ok_cond rfl rfl (fun h_t29 => ?_) (fun h_t29 => ?_)
      · have h_t29 : i < l[m].keys.length := Int.ofNat_lt.1 h_t29
        refine ok_skip ?_
        refine ok_seq ?_
        refine ok_block ?_
        refine ok_drw Try.mixed ?_
        first
          | refine d1 rfl rfl (lop_move (v := .sl _ _) rfl) ?_
          | refine d1 rfl rfl (lop_move (v := .os _ _ _ _) rfl) ?_
          | refine d1 rfl rfl (lop_move (v := .z0) rfl) ?_
        refine d1 rfl rfl (lop_move (v := .int _ _) rfl) ?_
        first
          | refine d1 rfl rfl (lop_indexAddr_os rfl rfl Try.underlying27 Try.sizeOf44 hix hm) ?_
          | refine d1 rfl rfl (lop_indexAddr_sl rfl rfl Try.underlying27 Try.sizeOf44 hix hm (flat_at InvD.len hm) (flat_ne InvD.len (by decide) hm)) ?_
        first
          | refine d1 rfl rfl (lop_fieldAddr_rf (fo := 3) rfl Try.underlying44 rfl rfl Try.sizeOf42 (by decide)) ?_
          | refine d1 rfl rfl (lop_fieldAddr_fp (fo := 3) rfl Try.underlying44 rfl rfl Try.sizeOf42 (by decide) rfl) ?_
        first
          | refine d1 rfl rfl (lop_load_rf rfl rfl Try.isAgg42 rfl) ?_
          | refine d1 rfl rfl (lop_load_fp rfl Try.isAgg42 rfl) ?_
        refine d1 rfl rfl (lop_move (v := .int _ _) rfl) ?_
        first
          | refine d1 rfl rfl (lop_indexAddr_os rfl rfl Try.underlying42 Try.sizeOf32 rfl h_t29) ?_
          | refine d1 rfl rfl (lop_indexAddr_sl rfl rfl Try.underlying42 Try.sizeOf32 rfl h_t29 (flat_at KeyD.len h_t29) (flat_ne KeyD.len (by decide) h_t29)) ?_
        first
          | refine d1 rfl rfl (lop_load_rf_agg rfl rfl Try.isAgg32 Try.sizeOf32 (by rw [List.length_append, KeyD.len]; omega) (by rw [List.take_append_of_le_length (by rw [KeyD.len]; omega), List.take_of_length_le (by rw [KeyD.len]; omega)])) ?_
          | refine d1 rfl rfl (lop_load_fp_agg rfl Try.isAgg32 Try.sizeOf32 (by rw [List.length_append, KeyD.len]; omega) (by rw [List.take_append_of_le_length (by rw [KeyD.len]; omega), List.take_of_length_le (by rw [KeyD.len]; omega)])) ?_
        first
          | refine d1 rfl rfl (lop_load_rf_agg (ys := [.int _ _, .int _ _]) rfl rfl Try.isAgg32 Try.sizeOf32 (Nat.le_of_ble_eq_true rfl) rfl) ?_
          | refine d1 rfl rfl (lop_load_fp_agg (ys := [.int _ _, .int _ _]) rfl Try.isAgg32 Try.sizeOf32 (Nat.le_of_ble_eq_true rfl) rfl) ?_
        refine d1 rfl rfl (lop_aeql rfl rfl rfl rfl eqg32 (eq32 _ _ _ _)) ?_
        refine dr_nil (by kernel_rfl) ?_
        first
          | refine ok_if _ rfl rfl (fun h_t41 => ?_) (fun h_t41 => ?_)
          | refine ok_cond rfl rfl (fun h_t41 => ?_) (fun h_t41 => ?_)
        · refine ok_reg ?_
          refine s1 rfl (lop_assign (v := .bool _) rfl) ?_
          refine ops_nil ?_
          refine ok_ret ?_
          exact ret_one rfl rfl rfl rfl (congrArg V.bool (by unfold hasAt; rw [hat]; simp at h_t21; rw [← idxOf_at (p := fun x => decide (k = x)) h_t29 (decide_eq_true ((KeyD.eq_iff _ _).1 h_t41).symm) hn]; simp [h_t21]))
        · refine ok_skip ?_
          refine ok_region ?_
          refine s1 rfl (lop_move (v := .int _ _) rfl) ?_
          refine s1 rfl (lop_bop rfl rfl rfl (bop_add (by omega) (by omega))) ?_
          refine s1 rfl (lop_assign (v := .int _ _) rfl) ?_
          refine ops_nil ?_
          exact ⟨⟨i + 1, by omega, none_step (p := fun x => decide (k = x)) hn h_t29 (decide_eq_false (fun e => h_t41 ((KeyD.eq_iff _ _).2 e.symm)))⟩, by simp only; omega, le_mk ⟨rfl, rfl, rfl, rfl, trivial⟩ ⟨.inr rfl, trivial⟩ rfl⟩
      · refine ok_exit ?_
        refine ok_reg ?_
        refine s1 rfl (lop_assign (v := .bool _) rfl) ?_
        refine ops_nil ?_
        refine ok_ret ?_
        exact ret_one rfl rfl rfl rfl (congrArg V.bool (by unfold hasAt; rw [hat]; rw [← idxOf_no (p := fun x => decide (k = x)) fun j hj => hn j hj (by omega)]; simp))

end Go.Proofs
