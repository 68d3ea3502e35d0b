/- Chapter 16: walks. Printed by gen.py. -/
import Derived.Test.YtikikdgfebbcmaaD16
set_option linter.unusedVariables false
set_option linter.unusedSimpArgs false
set_option maxRecDepth 100000
namespace Go.Proofs
open Go.Hg

theorem site_region_ac (r : Int) : AC Try.prog 68 [i64 r] (.bool (decide (1 ≤ r ∧ r ≤ 3))) := by
  refine AC.intro Try.func68 rfl (Nat.le_of_ble_eq_true rfl) ?_
  refine ok_reg ?_
  refine s1 rfl (lop_assign (v := .bool _) rfl) ?_
  refine ops_nil ?_
  refine ok_reg ?_
  refine s1 rfl (lop_move (v := .int _ _) rfl) ?_
  refine s1 rfl (lop_geq rfl rfl) ?_
  refine s1 rfl (lop_move (v := .bool _) rfl) ?_
  first
    | refine gsplitP 2 rfl rfl (fun g1_2 p1_2 => ?_) (fun g1_2 p1_2 => ?_)
    | refine gsplitB 2 rfl rfl (fun g1_2 p1_2 => ?_) (fun g1_2 p1_2 => ?_)
  · refine y1 rfl rfl g1_2 rfl (lop_move (v := .int _ _) rfl) ?_
    refine y1 rfl rfl g1_2 rfl (lop_leq rfl rfl) ?_
    first
      | refine s1 rfl (lop_pick_t (v := .bool _) rfl g1_2 rfl) ?_
      | refine s1 rfl (lop_pick_t (v := .bool _) rfl rfl rfl) ?_
      | refine s1 rfl (lop_pick_f (v := .bool _) rfl rfl rfl) ?_
      | refine s1 rfl (lop_pick rfl rfl rfl) ?_
    refine s1 rfl (lop_assign (v := .bool _) rfl) ?_
    refine ops_nil ?_
    refine ok_ret ?_
    exact ret_one rfl rfl rfl rfl (congrArg V.bool (by first | (refine decide_eq_decide.2 ?_; omega) | (refine (decide_eq_false ?_).symm; omega)))
  · refine n1 rfl rfl g1_2 ?_
    refine n1 rfl rfl g1_2 ?_
    first
      | refine s1 rfl (lop_pick_f (v := .bool _) rfl g1_2 rfl) ?_
      | refine s1 rfl (lop_pick_t (v := .bool _) rfl rfl rfl) ?_
      | refine s1 rfl (lop_pick_f (v := .bool _) rfl rfl rfl) ?_
      | refine s1 rfl (lop_pick rfl rfl rfl) ?_
    refine s1 rfl (lop_assign (v := .bool _) rfl) ?_
    refine ops_nil ?_
    refine ok_ret ?_
    exact ret_one rfl rfl rfl rfl (congrArg V.bool (by first | (refine decide_eq_decide.2 ?_; omega) | (refine (decide_eq_false ?_).symm; omega)))

theorem site_may_ac (r : Int) : AC Try.prog 69 [i64 r] (.bool (decide (1 ≤ r ∧ r ≤ 64))) := by
  refine AC.intro Try.func69 rfl (Nat.le_of_ble_eq_true rfl) ?_
  refine ok_reg ?_
  refine s1 rfl (lop_assign (v := .bool _) rfl) ?_
  refine ops_nil ?_
  refine ok_reg ?_
  refine s1 rfl (lop_move (v := .int _ _) rfl) ?_
  refine s1 rfl (lop_geq rfl rfl) ?_
  refine s1 rfl (lop_move (v := .bool _) rfl) ?_
  first
    | refine gsplitP 2 rfl rfl (fun g1_2 p1_2 => ?_) (fun g1_2 p1_2 => ?_)
    | refine gsplitB 2 rfl rfl (fun g1_2 p1_2 => ?_) (fun g1_2 p1_2 => ?_)
  · refine y1 rfl rfl g1_2 rfl (lop_move (v := .int _ _) rfl) ?_
    refine y1 rfl rfl g1_2 rfl (lop_leq rfl rfl) ?_
    first
      | refine s1 rfl (lop_pick_t (v := .bool _) rfl g1_2 rfl) ?_
      | refine s1 rfl (lop_pick_t (v := .bool _) rfl rfl rfl) ?_
      | refine s1 rfl (lop_pick_f (v := .bool _) rfl rfl rfl) ?_
      | refine s1 rfl (lop_pick rfl rfl rfl) ?_
    refine s1 rfl (lop_assign (v := .bool _) rfl) ?_
    refine ops_nil ?_
    refine ok_ret ?_
    exact ret_one rfl rfl rfl rfl (congrArg V.bool (by first | (refine decide_eq_decide.2 ?_; omega) | (refine (decide_eq_false ?_).symm; omega)))
  · refine n1 rfl rfl g1_2 ?_
    refine n1 rfl rfl g1_2 ?_
    first
      | refine s1 rfl (lop_pick_f (v := .bool _) rfl g1_2 rfl) ?_
      | refine s1 rfl (lop_pick_t (v := .bool _) rfl rfl rfl) ?_
      | refine s1 rfl (lop_pick_f (v := .bool _) rfl rfl rfl) ?_
      | refine s1 rfl (lop_pick rfl rfl rfl) ?_
    refine s1 rfl (lop_assign (v := .bool _) rfl) ?_
    refine ops_nil ?_
    refine ok_ret ?_
    exact ret_one rfl rfl rfl rfl (congrArg V.bool (by first | (refine decide_eq_decide.2 ?_; omega) | (refine (decide_eq_false ?_).symm; omega)))

theorem indexFunc_Inv_ac {g : FuncId} {caps : List V} {p : InvD → Bool} {l : List InvD} (hl : l.length ≤ 1048576) (hc : ∀ args w, (callFunc g args).run Try.prog w = .ok (.enter g args) w) (ht : tfL caps = true)
    (hp : ∀ x ∈ l, AC Try.prog g (.agg (InvD.enc x) :: caps) (.bool (p x))) : AC Try.prog 72 [rowOf InvD.enc l, .fn g caps] (i64 (idxOf p l)) := by
  refine AC.intro Try.func72 rfl (Nat.le_of_ble_eq_true rfl) ?_
  refine ok_reg ?_
  refine s1 rfl (lop_assign (v := .int _ _) rfl) ?_
  refine ops_nil ?_
  refine ok_seq ?_
  refine ok_reg ?_
  first
    | refine s1 rfl (lop_move (v := .sl _ _) rfl) ?_
    | refine s1 rfl (lop_move (v := .os _ _ _ _) rfl) ?_
    | refine s1 rfl (lop_move (v := .z0) rfl) ?_
  refine s1 rfl (lop_len rfl Try.underlying27 ⟨⟨_, rfl⟩, rfl⟩) ?_
  refine s1 rfl (lop_move (v := .int _ _) rfl) ?_
  refine ops_nil ?_
  refine ok_block ?_
  refine ok_loop (ι := {i : Nat // i ≤ l.length ∧ ∀ j, (h : j < l.length) → j < i → p l[j] = false}) (fun i => ⟨[(0, rowOf InvD.enc l), (1, .fn g caps), (7, i64 l.length), (8, i64 i.1)], [], 19⟩) (fun i => l.length - i.1) (⟨0, Nat.zero_le _, fun _ _ h => absurd h (Nat.not_lt_zero _)⟩) ?_ ?_
  · exact le_mk ⟨rfl, rfl, rfl, rfl, trivial⟩ trivial rfl
  rintro ⟨i, hi, hn⟩
  dsimp only
  refine ok_reg ?_
  refine s1 rfl (lop_lss rfl rfl) ?_
  refine ops_nil ?_
  refine ok_seq ?_
  first
    | refine ok_if _ rfl rfl (fun h_t9 => ?_) (fun h_t9 => ?_)
    | refine ok_cond rfl rfl (fun h_t9 => ?_) (fun h_t9 => ?_)
  · have h_t9 : i < l.length := by simpa using h_t9
    refine ok_skip ?_
    refine ok_seq ?_
    refine ok_block ?_
    refine ok_reg ?_
    refine s1 rfl (lop_move (v := .int _ _) rfl) ?_
    refine s1 rfl (lop_assign (v := .int _ _) rfl) ?_
    refine ops_nil ?_
    refine ok_reg ?_
    first
      | refine s1 rfl (lop_move (v := .fn _ _) rfl) ?_
      | refine s1 rfl (lop_move (v := _) rfl) ?_
    first
      | refine s1 rfl (lop_move (v := .sl _ _) rfl) ?_
      | refine s1 rfl (lop_move (v := .os _ _ _ _) rfl) ?_
      | refine s1 rfl (lop_move (v := .z0) rfl) ?_
    refine s1 rfl (lop_move (v := .int _ _) rfl) ?_
    first
      | refine s1 rfl (lop_indexAddr_os rfl rfl Try.underlying27 Try.sizeOf44 rfl h_t9) ?_
      | refine s1 rfl (lop_indexAddr_sl rfl rfl Try.underlying27 Try.sizeOf44 rfl h_t9 (flat_at InvD.len h_t9) (flat_ne InvD.len (by decide) h_t9)) ?_
    first
      | refine s1 rfl (lop_load_rf_agg rfl rfl Try.isAgg44 Try.sizeOf44 (by rw [List.length_append, InvD.len]; omega) (by rw [List.take_append_of_le_length (by rw [InvD.len]; omega), List.take_of_length_le (by rw [InvD.len]; omega)])) ?_
      | refine s1 rfl (lop_load_fp_agg rfl Try.isAgg44 Try.sizeOf44 (by rw [List.length_append, InvD.len]; omega) (by rw [List.take_append_of_le_length (by rw [InvD.len]; omega), List.take_of_length_le (by rw [InvD.len]; omega)])) ?_
    refine s1 rfl (lop_call rfl hc (FrzL.tf (show tfL (V.agg (InvD.enc l[i]) :: caps) = true by simp only [tfL, ht, Bool.and_true]; rfl)) (.inl rfl) (hp l[i] (List.getElem_mem _))) ?_
    refine ops_nil ?_
    first
      | refine ok_if _ rfl rfl (fun h_t16 => ?_) (fun h_t16 => ?_)
      | refine ok_cond rfl rfl (fun h_t16 => ?_) (fun h_t16 => ?_)
    · refine ok_reg ?_
      refine s1 rfl (lop_move (v := .int _ _) rfl) ?_
      refine s1 rfl (lop_assign (v := .int _ _) rfl) ?_
      refine ops_nil ?_
      refine ok_ret ?_
      exact ret_one rfl rfl rfl rfl (congrArg i64 (idxOf_at h_t9 h_t16 hn))
    · refine ok_skip ?_
      refine ok_region ?_
      refine s1 rfl (lop_bop rfl rfl rfl (bop_add (by omega) (by omega))) ?_
      refine s1 rfl (lop_move (v := .int _ _) rfl) ?_
      refine ops_nil ?_
      exact ⟨⟨i + 1, by omega, none_step hn h_t9 h_t16⟩, by simp only; omega, le_mk ⟨rfl, rfl, rfl, rfl, trivial⟩ trivial rfl⟩
  · refine ok_exit ?_
    refine ok_reg ?_
    refine s1 rfl (lop_assign (v := .int _ _) rfl) ?_
    refine ops_nil ?_
    refine ok_ret ?_
    exact ret_one rfl rfl rfl rfl (congrArg i64 (idxOf_no fun j hj => hn j hj (by omega)))

theorem inv1_ac (x : InvD) (p : PlD) : AC Try.prog 73 [.agg x.enc, .fp p.enc] (.bool (decide (x.place = p))) := by
  refine AC.intro Try.func73 rfl (Nat.le_of_ble_eq_true rfl) ?_
  refine ok_reg ?_
  first
    | refine s1w rfl (lop_box (t := 2) (v := .agg [.int _ _, .int _ _, .bool _, _]) (f := true) (cs := [.int _ _, .int _ _, .bool _, _]) rfl rfl rfl rfl (fun h => by cases h)) rfl ?_
    | refine s1w rfl (lop_box (t := 2) (v := .agg [.int _ _, .int _ _, .bool _, _]) (f := false) (cs := [.int _ _, .int _ _, .bool _, _]) rfl rfl rfl rfl (fun _ => rfl)) rfl ?_
  refine s1 rfl (lop_assign (v := .bool _) rfl) ?_
  refine ops_nil ?_
  refine ok_reg ?_
  first
    | refine s1 rfl (lop_fieldAddr_rf (fo := 0) rfl Try.underlying44 rfl rfl Try.sizeOf41 (by decide)) ?_
    | refine s1 rfl (lop_fieldAddr_fp (fo := 0) rfl Try.underlying44 rfl rfl Try.sizeOf41 (by decide) rfl) ?_
  first
    | refine s1 rfl (lop_load_rf_agg (ys := [.int _ _, .int _ _]) rfl rfl Try.isAgg41 Try.sizeOf41 (Nat.le_of_ble_eq_true rfl) rfl) ?_
    | refine s1 rfl (lop_load_fp_agg (ys := [.int _ _, .int _ _]) rfl Try.isAgg41 Try.sizeOf41 (Nat.le_of_ble_eq_true rfl) rfl) ?_
  first
    | refine s1 rfl (lop_load_rf_agg (ys := [.int _ _, .int _ _]) rfl rfl Try.isAgg41 Try.sizeOf41 (Nat.le_of_ble_eq_true rfl) rfl) ?_
    | refine s1 rfl (lop_load_fp_agg (ys := [.int _ _, .int _ _]) rfl Try.isAgg41 Try.sizeOf41 (Nat.le_of_ble_eq_true rfl) rfl) ?_
  refine s1 rfl (lop_aeql rfl rfl rfl rfl eqg41 (eq41 _ _ _ _)) ?_
  refine s1 rfl (lop_assign (v := .bool _) rfl) ?_
  refine ops_nil ?_
  refine ok_ret ?_
  exact ret_one rfl rfl rfl rfl (congrArg V.bool (decide_eq_decide.2 (PlD.eq_iff _ _)))

theorem plan_inv_ac {l : List InvD} (hl : l.length ≤ 1048576) (p : PlD) : AC Try.prog 49 [rowOf InvD.enc l, .agg p.enc] (.tup [.agg (invAt l p).1.enc, .bool (invAt l p).2]) := by
  refine AC.intro Try.func49 rfl (Nat.le_of_ble_eq_true rfl) ?_
  refine ok_reg ?_
  first
    | refine s1w rfl (lop_box (t := 3) (v := .agg [.int _ _, .int _ _]) (f := true) (cs := [.int _ _, .int _ _]) rfl rfl rfl rfl (fun h => by cases h)) rfl ?_
    | refine s1w rfl (lop_box (t := 3) (v := .agg [.int _ _, .int _ _]) (f := false) (cs := [.int _ _, .int _ _]) rfl rfl rfl rfl (fun _ => rfl)) rfl ?_
  refine s1w rfl (lop_new (t := 4) (cs := [.int _ _, .int _ _, .bool _, .z0]) Try.zeroValue44 rfl rfl rfl rfl) rfl ?_
  refine s1 rfl (lop_assign (v := .bool _) rfl) ?_
  refine ops_nil ?_
  refine ok_reg ?_
  first
    | refine s1 rfl (lop_move (v := .sl _ _) rfl) ?_
    | refine s1 rfl (lop_move (v := .os _ _ _ _) rfl) ?_
    | refine s1 rfl (lop_move (v := .z0) rfl) ?_
  first
    | refine s1 rfl (lop_func (vs := [.rf _ _]) rfl) ?_
    | refine s1 rfl (lop_func (vs := [.fp _]) rfl) ?_
  refine s1 rfl (lop_call (R := [3]) rfl Try.call72 (fzL_sound _ _ _ rfl) (.inr rfl) (indexFunc_Inv_ac hl Try.call73 rfl (fun x _ => inv1_ac x p))) ?_
  refine s1 rfl (lop_assign (v := .int _ _) rfl) ?_
  refine ops_nil ?_
  refine ok_seq ?_
  refine ok_reg ?_
  refine s1 rfl (lop_move (v := .int _ _) rfl) ?_
  refine s1 rfl (lop_lss rfl rfl) ?_
  refine ops_nil ?_
  first
    | refine ok_if _ rfl rfl (fun h_t11 => ?_) (fun h_t11 => ?_)
    | refine ok_cond rfl rfl (fun h_t11 => ?_) (fun h_t11 => ?_)
  · refine ok_reg ?_
    refine s1 rfl (lop_buildK (cs := [.int _ _, .int _ _, .bool _, .z0]) Try.underlying44 Try.zeroValue44 rfl rfl places44 rfl) ?_
    first
      | refine s0w rfl (lop_storeK (v := .agg [.int _ _, .int _ _, .bool _, _]) (cs' := [.int _ _, .int _ _, .bool _, _]) (f' := true) rfl rfl rfl Try.sizeOf44 rfl rfl rfl rfl rfl) ?_
      | refine s0w rfl (lop_storeK (v := .agg [.int _ _, .int _ _, .bool _, _]) (cs' := [.int _ _, .int _ _, .bool _, _]) (f' := false) rfl rfl rfl Try.sizeOf44 rfl rfl rfl rfl rfl) ?_
    refine s1 rfl (lop_assign (v := .bool _) rfl) ?_
    refine ops_nil ?_
    refine ok_ret ?_
    exact ret_gen (R := [4]) ⟨_, _, rfl, ⟨rfl, 4, 0, _, _, rfl, rfl, .inl ⟨4, Try.isAgg44, Try.sizeOf44, Nat.le_of_ble_eq_true rfl, rfl⟩⟩, _, _, rfl, ⟨rfl, rfl⟩, rfl⟩ (by rw [invAt_no h_t11]; exact .tup (.cons (.agg (fzL_sound _ [4] _ rfl)) (.cons (.tf rfl) .nil))) (fun t ht => by simp at ht; subst ht; exact Option.some_ne_none _)
  · obtain ⟨i, hi, hix, hat⟩ := invAt_at h_t11
    refine ok_skip ?_
    refine ok_reg ?_
    first
      | refine s1 rfl (lop_move (v := .sl _ _) rfl) ?_
      | refine s1 rfl (lop_move (v := .os _ _ _ _) rfl) ?_
      | refine s1 rfl (lop_move (v := .z0) rfl) ?_
    refine s1 rfl (lop_move (v := .int _ _) rfl) ?_
    first
      | refine s1 rfl (lop_indexAddr_os rfl rfl Try.underlying27 Try.sizeOf44 hix hi) ?_
      | refine s1 rfl (lop_indexAddr_sl rfl rfl Try.underlying27 Try.sizeOf44 hix hi (flat_at InvD.len hi) (by intro e; have := congrArg List.length e; rw [flat_length InvD.len] at this; simp at this; omega)) ?_
    first
      | refine s1 rfl (lop_load_rf_agg rfl rfl Try.isAgg44 Try.sizeOf44 (by rw [List.length_append, InvD.len]; omega) (by rw [List.take_append_of_le_length (by rw [InvD.len]; omega), List.take_of_length_le (by rw [InvD.len]; omega)])) ?_
      | refine s1 rfl (lop_load_fp_agg rfl Try.isAgg44 Try.sizeOf44 (by rw [List.length_append, InvD.len]; omega) (by rw [List.take_append_of_le_length (by rw [InvD.len]; omega), List.take_of_length_le (by rw [InvD.len]; omega)])) ?_
    first
      | refine s0w rfl (lop_storeK (v := .agg [.int _ _, .int _ _, .bool _, _]) (cs' := [.int _ _, .int _ _, .bool _, _]) (f' := true) rfl rfl rfl Try.sizeOf44 rfl rfl rfl rfl rfl) ?_
      | refine s0w rfl (lop_storeK (v := .agg [.int _ _, .int _ _, .bool _, _]) (cs' := [.int _ _, .int _ _, .bool _, _]) (f' := false) rfl rfl rfl Try.sizeOf44 rfl rfl rfl rfl rfl) ?_
    refine s1 rfl (lop_assign (v := .bool _) rfl) ?_
    refine ops_nil ?_
    refine ok_ret ?_
    exact ret_gen (R := [4]) ⟨_, _, rfl, ⟨rfl, 4, 0, _, _, rfl, rfl, .inl ⟨4, Try.isAgg44, Try.sizeOf44, Nat.le_of_ble_eq_true rfl, rfl⟩⟩, _, _, rfl, ⟨rfl, rfl⟩, rfl⟩ (by rw [hat]; exact .tup (.cons (.agg (FrzL.tf rfl)) (.cons (.tf rfl) .nil))) (fun t ht => by simp at ht; subst ht; exact Option.some_ne_none _)

theorem indexFunc_Vol_ac {g : FuncId} {caps : List V} {p : VolD → Bool} {l : List VolD} (hl : l.length ≤ 1048576) (hc : ∀ args w, (callFunc g args).run Try.prog w = .ok (.enter g args) w) (ht : tfL caps = true)
    (hp : ∀ x ∈ l, AC Try.prog g (.agg (VolD.enc x) :: caps) (.bool (p x))) : AC Try.prog 55 [rowOf VolD.enc l, .fn g caps] (i64 (idxOf p l)) := by
  refine AC.intro Try.func55 rfl (Nat.le_of_ble_eq_true rfl) ?_
  refine ok_reg ?_
  refine s1 rfl (lop_assign (v := .int _ _) rfl) ?_
  refine ops_nil ?_
  refine ok_seq ?_
  refine ok_reg ?_
  first
    | refine s1 rfl (lop_move (v := .sl _ _) rfl) ?_
    | refine s1 rfl (lop_move (v := .os _ _ _ _) rfl) ?_
    | refine s1 rfl (lop_move (v := .z0) rfl) ?_
  refine s1 rfl (lop_len rfl Try.underlying22 ⟨⟨_, rfl⟩, rfl⟩) ?_
  refine s1 rfl (lop_move (v := .int _ _) rfl) ?_
  refine ops_nil ?_
  refine ok_block ?_
  refine ok_loop (ι := {i : Nat // i ≤ l.length ∧ ∀ j, (h : j < l.length) → j < i → p l[j] = false}) (fun i => ⟨[(0, rowOf VolD.enc l), (1, .fn g caps), (7, i64 l.length), (8, i64 i.1)], [], 19⟩) (fun i => l.length - i.1) (⟨0, Nat.zero_le _, fun _ _ h => absurd h (Nat.not_lt_zero _)⟩) ?_ ?_
  · exact le_mk ⟨rfl, rfl, rfl, rfl, trivial⟩ trivial rfl
  rintro ⟨i, hi, hn⟩
  dsimp only
  refine ok_reg ?_
  refine s1 rfl (lop_lss rfl rfl) ?_
  refine ops_nil ?_
  refine ok_seq ?_
  first
    | refine ok_if _ rfl rfl (fun h_t9 => ?_) (fun h_t9 => ?_)
    | refine ok_cond rfl rfl (fun h_t9 => ?_) (fun h_t9 => ?_)
  · have h_t9 : i < l.length := by simpa using h_t9
    refine ok_skip ?_
    refine ok_seq ?_
    refine ok_block ?_
    refine ok_reg ?_
    refine s1 rfl (lop_move (v := .int _ _) rfl) ?_
    refine s1 rfl (lop_assign (v := .int _ _) rfl) ?_
    refine ops_nil ?_
    refine ok_reg ?_
    first
      | refine s1 rfl (lop_move (v := .fn _ _) rfl) ?_
      | refine s1 rfl (lop_move (v := _) rfl) ?_
    first
      | refine s1 rfl (lop_move (v := .sl _ _) rfl) ?_
      | refine s1 rfl (lop_move (v := .os _ _ _ _) rfl) ?_
      | refine s1 rfl (lop_move (v := .z0) rfl) ?_
    refine s1 rfl (lop_move (v := .int _ _) rfl) ?_
    first
      | refine s1 rfl (lop_indexAddr_os rfl rfl Try.underlying22 Try.sizeOf39 rfl h_t9) ?_
      | refine s1 rfl (lop_indexAddr_sl rfl rfl Try.underlying22 Try.sizeOf39 rfl h_t9 (flat_at VolD.len h_t9) (flat_ne VolD.len (by decide) h_t9)) ?_
    first
      | refine s1 rfl (lop_load_rf_agg rfl rfl Try.isAgg39 Try.sizeOf39 (by rw [List.length_append, VolD.len]; omega) (by rw [List.take_append_of_le_length (by rw [VolD.len]; omega), List.take_of_length_le (by rw [VolD.len]; omega)])) ?_
      | refine s1 rfl (lop_load_fp_agg rfl Try.isAgg39 Try.sizeOf39 (by rw [List.length_append, VolD.len]; omega) (by rw [List.take_append_of_le_length (by rw [VolD.len]; omega), List.take_of_length_le (by rw [VolD.len]; omega)])) ?_
    refine s1 rfl (lop_call rfl hc (FrzL.tf (show tfL (V.agg (VolD.enc l[i]) :: caps) = true by simp only [tfL, ht, Bool.and_true]; rfl)) (.inl rfl) (hp l[i] (List.getElem_mem _))) ?_
    refine ops_nil ?_
    first
      | refine ok_if _ rfl rfl (fun h_t16 => ?_) (fun h_t16 => ?_)
      | refine ok_cond rfl rfl (fun h_t16 => ?_) (fun h_t16 => ?_)
    · refine ok_reg ?_
      refine s1 rfl (lop_move (v := .int _ _) rfl) ?_
      refine s1 rfl (lop_assign (v := .int _ _) rfl) ?_
      refine ops_nil ?_
      refine ok_ret ?_
      exact ret_one rfl rfl rfl rfl (congrArg i64 (idxOf_at h_t9 h_t16 hn))
    · refine ok_skip ?_
      refine ok_region ?_
      refine s1 rfl (lop_bop rfl rfl rfl (bop_add (by omega) (by omega))) ?_
      refine s1 rfl (lop_move (v := .int _ _) rfl) ?_
      refine ops_nil ?_
      exact ⟨⟨i + 1, by omega, none_step hn h_t9 h_t16⟩, by simp only; omega, le_mk ⟨rfl, rfl, rfl, rfl, trivial⟩ trivial rfl⟩
  · refine ok_exit ?_
    refine ok_reg ?_
    refine s1 rfl (lop_assign (v := .int _ _) rfl) ?_
    refine ops_nil ?_
    refine ok_ret ?_
    exact ret_one rfl rfl rfl rfl (congrArg i64 (idxOf_no fun j hj => hn j hj (by omega)))

theorem indexFunc_Place_ac {g : FuncId} {caps : List V} {p : PlD → Bool} {l : List PlD} (hl : l.length ≤ 1048576) (hc : ∀ args w, (callFunc g args).run Try.prog w = .ok (.enter g args) w) (ht : tfL caps = true)
    (hp : ∀ x ∈ l, AC Try.prog g (.agg (PlD.enc x) :: caps) (.bool (p x))) : AC Try.prog 84 [rowOf PlD.enc l, .fn g caps] (i64 (idxOf p l)) := by
  refine AC.intro Try.func84 rfl (Nat.le_of_ble_eq_true rfl) ?_
  refine ok_reg ?_
  refine s1 rfl (lop_assign (v := .int _ _) rfl) ?_
  refine ops_nil ?_
  refine ok_seq ?_
  refine ok_reg ?_
  first
    | refine s1 rfl (lop_move (v := .sl _ _) rfl) ?_
    | refine s1 rfl (lop_move (v := .os _ _ _ _) rfl) ?_
    | refine s1 rfl (lop_move (v := .z0) rfl) ?_
  refine s1 rfl (lop_len rfl Try.underlying30 ⟨⟨_, rfl⟩, rfl⟩) ?_
  refine s1 rfl (lop_move (v := .int _ _) rfl) ?_
  refine ops_nil ?_
  refine ok_block ?_
  refine ok_loop (ι := {i : Nat // i ≤ l.length ∧ ∀ j, (h : j < l.length) → j < i → p l[j] = false}) (fun i => ⟨[(0, rowOf PlD.enc l), (1, .fn g caps), (7, i64 l.length), (8, i64 i.1)], [], 19⟩) (fun i => l.length - i.1) (⟨0, Nat.zero_le _, fun _ _ h => absurd h (Nat.not_lt_zero _)⟩) ?_ ?_
  · exact le_mk ⟨rfl, rfl, rfl, rfl, trivial⟩ trivial rfl
  rintro ⟨i, hi, hn⟩
  dsimp only
  refine ok_reg ?_
  refine s1 rfl (lop_lss rfl rfl) ?_
  refine ops_nil ?_
  refine ok_seq ?_
  first
    | refine ok_if _ rfl rfl (fun h_t9 => ?_) (fun h_t9 => ?_)
    | refine ok_cond rfl rfl (fun h_t9 => ?_) (fun h_t9 => ?_)
  · have h_t9 : i < l.length := by simpa using h_t9
    refine ok_skip ?_
    refine ok_seq ?_
    refine ok_block ?_
    refine ok_reg ?_
    refine s1 rfl (lop_move (v := .int _ _) rfl) ?_
    refine s1 rfl (lop_assign (v := .int _ _) rfl) ?_
    refine ops_nil ?_
    refine ok_reg ?_
    first
      | refine s1 rfl (lop_move (v := .fn _ _) rfl) ?_
      | refine s1 rfl (lop_move (v := _) rfl) ?_
    first
      | refine s1 rfl (lop_move (v := .sl _ _) rfl) ?_
      | refine s1 rfl (lop_move (v := .os _ _ _ _) rfl) ?_
      | refine s1 rfl (lop_move (v := .z0) rfl) ?_
    refine s1 rfl (lop_move (v := .int _ _) rfl) ?_
    first
      | refine s1 rfl (lop_indexAddr_os rfl rfl Try.underlying30 Try.sizeOf41 rfl h_t9) ?_
      | refine s1 rfl (lop_indexAddr_sl rfl rfl Try.underlying30 Try.sizeOf41 rfl h_t9 (flat_at PlD.len h_t9) (flat_ne PlD.len (by decide) h_t9)) ?_
    first
      | refine s1 rfl (lop_load_rf_agg rfl rfl Try.isAgg41 Try.sizeOf41 (by rw [List.length_append, PlD.len]; omega) (by rw [List.take_append_of_le_length (by rw [PlD.len]; omega), List.take_of_length_le (by rw [PlD.len]; omega)])) ?_
      | refine s1 rfl (lop_load_fp_agg rfl Try.isAgg41 Try.sizeOf41 (by rw [List.length_append, PlD.len]; omega) (by rw [List.take_append_of_le_length (by rw [PlD.len]; omega), List.take_of_length_le (by rw [PlD.len]; omega)])) ?_
    refine s1 rfl (lop_call rfl hc (FrzL.tf (show tfL (V.agg (PlD.enc l[i]) :: caps) = true by simp only [tfL, ht, Bool.and_true]; rfl)) (.inl rfl) (hp l[i] (List.getElem_mem _))) ?_
    refine ops_nil ?_
    first
      | refine ok_if _ rfl rfl (fun h_t16 => ?_) (fun h_t16 => ?_)
      | refine ok_cond rfl rfl (fun h_t16 => ?_) (fun h_t16 => ?_)
    · refine ok_reg ?_
      refine s1 rfl (lop_move (v := .int _ _) rfl) ?_
      refine s1 rfl (lop_assign (v := .int _ _) rfl) ?_
      refine ops_nil ?_
      refine ok_ret ?_
      exact ret_one rfl rfl rfl rfl (congrArg i64 (idxOf_at h_t9 h_t16 hn))
    · refine ok_skip ?_
      refine ok_region ?_
      refine s1 rfl (lop_bop rfl rfl rfl (bop_add (by omega) (by omega))) ?_
      refine s1 rfl (lop_move (v := .int _ _) rfl) ?_
      refine ops_nil ?_
      exact ⟨⟨i + 1, by omega, none_step hn h_t9 h_t16⟩, by simp only; omega, le_mk ⟨rfl, rfl, rfl, rfl, trivial⟩ trivial rfl⟩
  · refine ok_exit ?_
    refine ok_reg ?_
    refine s1 rfl (lop_assign (v := .int _ _) rfl) ?_
    refine ops_nil ?_
    refine ok_ret ?_
    exact ret_one rfl rfl rfl rfl (congrArg i64 (idxOf_no fun j hj => hn j hj (by omega)))

theorem index_Key_ac {l : List KeyD} (hl : l.length ≤ 1048576) (k : KeyD) : AC Try.prog 74 [rowOf KeyD.enc l, .agg k.enc] (i64 (idxOf (fun x => decide (k = x)) l)) := by
  refine AC.intro Try.func74 rfl (Nat.le_of_ble_eq_true rfl) ?_
  refine ok_reg ?_
  first
    | refine s1w rfl (lop_box (t := 3) (v := .agg [.int _ _, .int _ _]) (f := true) (cs := [.int _ _, .int _ _]) rfl rfl rfl rfl (fun h => by cases h)) rfl ?_
    | refine s1w rfl (lop_box (t := 3) (v := .agg [.int _ _, .int _ _]) (f := false) (cs := [.int _ _, .int _ _]) rfl rfl rfl rfl (fun _ => rfl)) rfl ?_
  refine s1 rfl (lop_assign (v := .int _ _) rfl) ?_
  refine ops_nil ?_
  refine ok_seq ?_
  refine ok_reg ?_
  first
    | refine s1 rfl (lop_move (v := .sl _ _) rfl) ?_
    | refine s1 rfl (lop_move (v := .os _ _ _ _) rfl) ?_
    | refine s1 rfl (lop_move (v := .z0) rfl) ?_
  refine s1 rfl (lop_len rfl Try.underlying42 ⟨⟨_, rfl⟩, rfl⟩) ?_
  refine s1 rfl (lop_move (v := .int _ _) rfl) ?_
  refine ops_nil ?_
  refine ok_block ?_
  refine ok_loop (ι := {i : Nat // i ≤ l.length ∧ ∀ j, (h : j < l.length) → j < i → (fun x => decide (k = x)) l[j] = false}) (fun i => ⟨[(0, rowOf KeyD.enc l), (3, .rf 3 0), (7, i64 l.length), (8, i64 i.1)], [(3, some (true, k.enc))], 19⟩) (fun i => l.length - i.1) (⟨0, Nat.zero_le _, fun _ _ h => absurd h (Nat.not_lt_zero _)⟩) ?_ ?_
  · exact le_mk ⟨rfl, rfl, rfl, rfl, trivial⟩ ⟨.inr rfl, trivial⟩ rfl
  rintro ⟨i, hi, hn⟩
  dsimp only
  refine ok_reg ?_
  refine s1 rfl (lop_lss rfl rfl) ?_
  refine ops_nil ?_
  refine ok_seq ?_
  first
    | refine ok_if _ rfl rfl (fun h_t9 => ?_) (fun h_t9 => ?_)
    | refine ok_cond rfl rfl (fun h_t9 => ?_) (fun h_t9 => ?_)
  · have h_t9 : i < l.length := by simpa using h_t9
    refine ok_skip ?_
    refine ok_seq ?_
    refine ok_block ?_
    refine ok_reg ?_
    refine s1 rfl (lop_move (v := .int _ _) rfl) ?_
    refine s1 rfl (lop_assign (v := .int _ _) rfl) ?_
    refine ops_nil ?_
    refine ok_drw Try.mixed ?_
    first
      | refine d1 rfl rfl (lop_load_rf_agg (ys := [.int _ _, .int _ _]) rfl rfl Try.isAgg32 Try.sizeOf32 (Nat.le_of_ble_eq_true rfl) rfl) ?_
      | refine d1 rfl rfl (lop_load_fp_agg (ys := [.int _ _, .int _ _]) rfl Try.isAgg32 Try.sizeOf32 (Nat.le_of_ble_eq_true rfl) rfl) ?_
    first
      | refine d1 rfl rfl (lop_move (v := .sl _ _) rfl) ?_
      | refine d1 rfl rfl (lop_move (v := .os _ _ _ _) rfl) ?_
      | refine d1 rfl rfl (lop_move (v := .z0) rfl) ?_
    refine d1 rfl rfl (lop_move (v := .int _ _) rfl) ?_
    first
      | refine d1 rfl rfl (lop_indexAddr_os rfl rfl Try.underlying42 Try.sizeOf32 rfl h_t9) ?_
      | refine d1 rfl rfl (lop_indexAddr_sl rfl rfl Try.underlying42 Try.sizeOf32 rfl h_t9 (flat_at KeyD.len h_t9) (flat_ne KeyD.len (by decide) h_t9)) ?_
    first
      | refine d1 rfl rfl (lop_load_rf_agg rfl rfl Try.isAgg32 Try.sizeOf32 (by rw [List.length_append, KeyD.len]; omega) (by rw [List.take_append_of_le_length (by rw [KeyD.len]; omega), List.take_of_length_le (by rw [KeyD.len]; omega)])) ?_
      | refine d1 rfl rfl (lop_load_fp_agg rfl Try.isAgg32 Try.sizeOf32 (by rw [List.length_append, KeyD.len]; omega) (by rw [List.take_append_of_le_length (by rw [KeyD.len]; omega), List.take_of_length_le (by rw [KeyD.len]; omega)])) ?_
    refine d1 rfl rfl (lop_aeql rfl rfl rfl rfl eqg32 (eq32 _ _ _ _)) ?_
    refine dr_nil (by kernel_rfl) ?_
    first
      | refine ok_if _ rfl rfl (fun h_t16 => ?_) (fun h_t16 => ?_)
      | refine ok_cond rfl rfl (fun h_t16 => ?_) (fun h_t16 => ?_)
    · refine ok_reg ?_
      refine s1 rfl (lop_move (v := .int _ _) rfl) ?_
      refine s1 rfl (lop_assign (v := .int _ _) rfl) ?_
      refine ops_nil ?_
      refine ok_ret ?_
      exact ret_one rfl rfl rfl rfl (congrArg i64 (idxOf_at (p := fun x => decide (k = x)) h_t9 (decide_eq_true ((KeyD.eq_iff _ _).1 h_t16)) hn))
    · refine ok_skip ?_
      refine ok_region ?_
      refine s1 rfl (lop_bop rfl rfl rfl (bop_add (by omega) (by omega))) ?_
      refine s1 rfl (lop_move (v := .int _ _) rfl) ?_
      refine ops_nil ?_
      exact ⟨⟨i + 1, by omega, none_step (p := fun x => decide (k = x)) hn h_t9 (decide_eq_false (fun e => h_t16 ((KeyD.eq_iff _ _).2 e)))⟩, by simp only; omega, le_mk ⟨rfl, rfl, rfl, rfl, trivial⟩ ⟨.inr rfl, trivial⟩ rfl⟩
  · refine ok_exit ?_
    refine ok_reg ?_
    refine s1 rfl (lop_assign (v := .int _ _) rfl) ?_
    refine ops_nil ?_
    refine ok_ret ?_
    exact ret_one rfl rfl rfl rfl (congrArg i64 (idxOf_no (p := fun x => decide (k = x)) fun j hj => hn j hj (by omega)))

theorem contains_Key_ac {l : List KeyD} (hl : l.length ≤ 1048576) (k : KeyD) : AC Try.prog 50 [rowOf KeyD.enc l, .agg k.enc] (.bool (decide (0 ≤ idxOf (fun x => decide (k = x)) l))) := by
  refine AC.intro Try.func50 rfl (Nat.le_of_ble_eq_true rfl) ?_
  refine ok_reg ?_
  first
    | refine s1w rfl (lop_box (t := 3) (v := .agg [.int _ _, .int _ _]) (f := true) (cs := [.int _ _, .int _ _]) rfl rfl rfl rfl (fun h => by cases h)) rfl ?_
    | refine s1w rfl (lop_box (t := 3) (v := .agg [.int _ _, .int _ _]) (f := false) (cs := [.int _ _, .int _ _]) rfl rfl rfl rfl (fun _ => rfl)) rfl ?_
  refine s1 rfl (lop_assign (v := .bool _) rfl) ?_
  refine ops_nil ?_
  refine ok_reg ?_
  first
    | refine s1 rfl (lop_move (v := .sl _ _) rfl) ?_
    | refine s1 rfl (lop_move (v := .os _ _ _ _) rfl) ?_
    | refine s1 rfl (lop_move (v := .z0) rfl) ?_
  first
    | refine s1 rfl (lop_load_rf_agg (ys := [.int _ _, .int _ _]) rfl rfl Try.isAgg32 Try.sizeOf32 (Nat.le_of_ble_eq_true rfl) rfl) ?_
    | refine s1 rfl (lop_load_fp_agg (ys := [.int _ _, .int _ _]) rfl Try.isAgg32 Try.sizeOf32 (Nat.le_of_ble_eq_true rfl) rfl) ?_
  refine s1 rfl (lop_call rfl Try.call74 (FrzL.tf rfl) (.inl rfl) (index_Key_ac hl k)) ?_
  refine s1 rfl (lop_geq rfl rfl) ?_
  refine s1 rfl (lop_assign (v := .bool _) rfl) ?_
  refine ops_nil ?_
  refine ok_ret ?_
  exact ret_one rfl rfl rfl rfl rfl

theorem plan_Has_ac {l : List InvD} (hl : InvsOk l) (p : PlD) (k : KeyD) : AC Try.prog 25 [rowOf InvD.enc l, .agg p.enc, .agg k.enc] (.bool (hasAt l p k)) := by
  refine AC.intro Try.func25 rfl (Nat.le_of_ble_eq_true rfl) ?_
  refine ok_reg ?_
  first
    | refine s1w rfl (lop_box (t := 4) (v := .agg [.int _ _, .int _ _]) (f := true) (cs := [.int _ _, .int _ _]) rfl rfl rfl rfl (fun h => by cases h)) rfl ?_
    | refine s1w rfl (lop_box (t := 4) (v := .agg [.int _ _, .int _ _]) (f := false) (cs := [.int _ _, .int _ _]) rfl rfl rfl rfl (fun _ => rfl)) rfl ?_
  first
    | refine s1w rfl (lop_box (t := 5) (v := .agg [.int _ _, .int _ _]) (f := true) (cs := [.int _ _, .int _ _]) rfl rfl rfl rfl (fun h => by cases h)) rfl ?_
    | refine s1w rfl (lop_box (t := 5) (v := .agg [.int _ _, .int _ _]) (f := false) (cs := [.int _ _, .int _ _]) rfl rfl rfl rfl (fun _ => rfl)) rfl ?_
  refine s1 rfl (lop_assign (v := .bool _) rfl) ?_
  refine ops_nil ?_
  refine ok_reg ?_
  first
    | refine s1 rfl (lop_move (v := .sl _ _) rfl) ?_
    | refine s1 rfl (lop_move (v := .os _ _ _ _) rfl) ?_
    | refine s1 rfl (lop_move (v := .z0) rfl) ?_
  first
    | refine s1 rfl (lop_load_rf_agg (ys := [.int _ _, .int _ _]) rfl rfl Try.isAgg41 Try.sizeOf41 (Nat.le_of_ble_eq_true rfl) rfl) ?_
    | refine s1 rfl (lop_load_fp_agg (ys := [.int _ _, .int _ _]) rfl Try.isAgg41 Try.sizeOf41 (Nat.le_of_ble_eq_true rfl) rfl) ?_
  refine s1 rfl (lop_call rfl Try.call49 (FrzL.tf rfl) (.inl rfl) (plan_inv_ac hl.1 p)) ?_
  refine s1 rfl (lop_move (v := .tup _) rfl) ?_
  refine s1 rfl (lop_extract rfl rfl) ?_
  refine s1 rfl (lop_extract rfl rfl) ?_
  refine s1w rfl (lop_new (t := 7) (cs := [.int _ _, .int _ _, .bool _, .z0]) Try.zeroValue44 rfl rfl rfl rfl) rfl ?_
  first
    | refine s0w rfl (lop_storeK (v := .agg [.int _ _, .int _ _, .bool _, _]) (cs' := [.int _ _, .int _ _, .bool _, _]) (f' := true) rfl rfl rfl Try.sizeOf44 rfl rfl rfl rfl rfl) ?_
    | refine s0w rfl (lop_storeK (v := .agg [.int _ _, .int _ _, .bool _, _]) (cs' := [.int _ _, .int _ _, .bool _, _]) (f' := false) rfl rfl rfl Try.sizeOf44 rfl rfl rfl rfl rfl) ?_
  refine s1 rfl (lop_assign (v := .bool _) rfl) ?_
  refine ops_nil ?_
  refine ok_reg ?_
  refine s1 rfl (lop_move (v := .bool _) rfl) ?_
  refine s1 rfl (lop_move (v := .bool _) rfl) ?_
  first
    | refine gsplitP 1 rfl rfl (fun g2_1 p2_1 => ?_) (fun g2_1 p2_1 => ?_)
    | refine gsplitB 1 rfl rfl (fun g2_1 p2_1 => ?_) (fun g2_1 p2_1 => ?_)
  · first
      | refine y1 rfl rfl g2_1 rfl (lop_fieldAddr_rf (fo := 2) rfl Try.underlying44 rfl rfl Try.sizeOf4 (by decide)) ?_
      | refine y1 rfl rfl g2_1 rfl (lop_fieldAddr_fp (fo := 2) rfl Try.underlying44 rfl rfl Try.sizeOf4 (by decide) rfl) ?_
    first
      | refine y1 rfl rfl g2_1 rfl (lop_load_rf rfl rfl Try.isAgg4 rfl) ?_
      | refine y1 rfl rfl g2_1 rfl (lop_load_fp rfl Try.isAgg4 rfl) ?_
    first
      | refine s1 rfl (lop_pick_t (v := .bool _) rfl g2_1 rfl) ?_
      | refine s1 rfl (lop_pick_t (v := .bool _) rfl rfl rfl) ?_
      | refine s1 rfl (lop_pick_f (v := .bool _) rfl rfl rfl) ?_
      | refine s1 rfl (lop_pick rfl rfl rfl) ?_
    refine s1 rfl (lop_move (v := .bool _) rfl) ?_
    first
      | refine gsplitP 5 rfl rfl (fun g2_5 p2_5 => ?_) (fun g2_5 p2_5 => ?_)
      | refine gsplitB 5 rfl rfl (fun g2_5 p2_5 => ?_) (fun g2_5 p2_5 => ?_)
    · first
        | refine y1 rfl rfl g2_5 rfl (lop_fieldAddr_rf (fo := 3) rfl Try.underlying44 rfl rfl Try.sizeOf42 (by decide)) ?_
        | refine y1 rfl rfl g2_5 rfl (lop_fieldAddr_fp (fo := 3) rfl Try.underlying44 rfl rfl Try.sizeOf42 (by decide) rfl) ?_
      first
        | refine y1 rfl rfl g2_5 rfl (lop_load_rf rfl rfl Try.isAgg42 rfl) ?_
        | refine y1 rfl rfl g2_5 rfl (lop_load_fp rfl Try.isAgg42 rfl) ?_
      first
        | refine y1 rfl rfl g2_5 rfl (lop_load_rf_agg (ys := [.int _ _, .int _ _]) rfl rfl Try.isAgg32 Try.sizeOf32 (Nat.le_of_ble_eq_true rfl) rfl) ?_
        | refine y1 rfl rfl g2_5 rfl (lop_load_fp_agg (ys := [.int _ _, .int _ _]) rfl Try.isAgg32 Try.sizeOf32 (Nat.le_of_ble_eq_true rfl) rfl) ?_
      refine y1 rfl rfl g2_5 rfl (lop_call rfl Try.call50 (FrzL.tf rfl) (.inl rfl) (contains_Key_ac (hl.at_ p) k)) ?_
      first
        | refine s1 rfl (lop_pick_t (v := .bool _) rfl g2_1 rfl) ?_
        | refine s1 rfl (lop_pick_t (v := .bool _) rfl g2_5 rfl) ?_
        | refine s1 rfl (lop_pick_t (v := .bool _) rfl rfl rfl) ?_
        | refine s1 rfl (lop_pick_f (v := .bool _) rfl rfl rfl) ?_
        | refine s1 rfl (lop_pick rfl rfl rfl) ?_
      refine s1 rfl (lop_assign (v := .bool _) rfl) ?_
      refine ops_nil ?_
      refine ok_ret ?_
      exact ret_one rfl rfl rfl rfl (congrArg V.bool (by unfold hasAt; simp [*]))
    · refine n1 rfl rfl g2_5 ?_
      refine n1 rfl rfl g2_5 ?_
      refine n1 rfl rfl g2_5 ?_
      refine n1 rfl rfl g2_5 ?_
      first
        | refine s1 rfl (lop_pick_t (v := .bool _) rfl g2_1 rfl) ?_
        | refine s1 rfl (lop_pick_f (v := .bool _) rfl g2_5 rfl) ?_
        | refine s1 rfl (lop_pick_t (v := .bool _) rfl rfl rfl) ?_
        | refine s1 rfl (lop_pick_f (v := .bool _) rfl rfl rfl) ?_
        | refine s1 rfl (lop_pick rfl rfl rfl) ?_
      refine s1 rfl (lop_assign (v := .bool _) rfl) ?_
      refine ops_nil ?_
      refine ok_ret ?_
      exact ret_one rfl rfl rfl rfl (congrArg V.bool (by unfold hasAt; simp [*]))
  · refine n1 rfl rfl g2_1 ?_
    refine n1 rfl rfl g2_1 ?_
    first
      | refine s1 rfl (lop_pick_f (v := .bool _) rfl g2_1 rfl) ?_
      | refine s1 rfl (lop_pick_t (v := .bool _) rfl rfl rfl) ?_
      | refine s1 rfl (lop_pick_f (v := .bool _) rfl rfl rfl) ?_
      | refine s1 rfl (lop_pick rfl rfl rfl) ?_
    refine s1 rfl (lop_move (v := .bool _) rfl) ?_
    refine n1 rfl rfl rfl ?_
    refine n1 rfl rfl rfl ?_
    refine n1 rfl rfl rfl ?_
    refine n1 rfl rfl rfl ?_
    first
      | refine s1 rfl (lop_pick_f (v := .bool _) rfl g2_1 rfl) ?_
      | refine s1 rfl (lop_pick_f (v := .bool _) rfl rfl rfl) ?_
      | refine s1 rfl (lop_pick_t (v := .bool _) rfl rfl rfl) ?_
      | refine s1 rfl (lop_pick_f (v := .bool _) rfl rfl rfl) ?_
      | refine s1 rfl (lop_pick rfl rfl rfl) ?_
    refine s1 rfl (lop_assign (v := .bool _) rfl) ?_
    refine ops_nil ?_
    refine ok_ret ?_
    exact ret_one rfl rfl rfl rfl (congrArg V.bool (by unfold hasAt; simp [*]))

theorem plan_lives_ac {l : List InvD} (hl : InvsOk l) (p : PlD) : AC Try.prog 48 [rowOf InvD.enc l, .agg p.enc] (.bool (livesAt l p)) := by
  refine AC.intro Try.func48 rfl (Nat.le_of_ble_eq_true rfl) ?_
  refine ok_reg ?_
  first
    | refine s1w rfl (lop_box (t := 3) (v := .agg [.int _ _, .int _ _]) (f := true) (cs := [.int _ _, .int _ _]) rfl rfl rfl rfl (fun h => by cases h)) rfl ?_
    | refine s1w rfl (lop_box (t := 3) (v := .agg [.int _ _, .int _ _]) (f := false) (cs := [.int _ _, .int _ _]) rfl rfl rfl rfl (fun _ => rfl)) rfl ?_
  refine s1 rfl (lop_assign (v := .bool _) rfl) ?_
  refine ops_nil ?_
  refine ok_reg ?_
  first
    | refine s1 rfl (lop_move (v := .sl _ _) rfl) ?_
    | refine s1 rfl (lop_move (v := .os _ _ _ _) rfl) ?_
    | refine s1 rfl (lop_move (v := .z0) rfl) ?_
  first
    | refine s1 rfl (lop_load_rf_agg (ys := [.int _ _, .int _ _]) rfl rfl Try.isAgg41 Try.sizeOf41 (Nat.le_of_ble_eq_true rfl) rfl) ?_
    | refine s1 rfl (lop_load_fp_agg (ys := [.int _ _, .int _ _]) rfl Try.isAgg41 Try.sizeOf41 (Nat.le_of_ble_eq_true rfl) rfl) ?_
  refine s1 rfl (lop_call rfl Try.call49 (FrzL.tf rfl) (.inl rfl) (plan_inv_ac hl.1 p)) ?_
  refine s1 rfl (lop_move (v := .tup _) rfl) ?_
  refine s1 rfl (lop_extract rfl rfl) ?_
  refine s1 rfl (lop_extract rfl rfl) ?_
  refine s1w rfl (lop_new (t := 5) (cs := [.int _ _, .int _ _, .bool _, .z0]) Try.zeroValue44 rfl rfl rfl rfl) rfl ?_
  first
    | refine s0w rfl (lop_storeK (v := .agg [.int _ _, .int _ _, .bool _, _]) (cs' := [.int _ _, .int _ _, .bool _, _]) (f' := true) rfl rfl rfl Try.sizeOf44 rfl rfl rfl rfl rfl) ?_
    | refine s0w rfl (lop_storeK (v := .agg [.int _ _, .int _ _, .bool _, _]) (cs' := [.int _ _, .int _ _, .bool _, _]) (f' := false) rfl rfl rfl Try.sizeOf44 rfl rfl rfl rfl rfl) ?_
  refine s1 rfl (lop_assign (v := .bool _) rfl) ?_
  refine ops_nil ?_
  refine ok_reg ?_
  refine s1 rfl (lop_move (v := .bool _) rfl) ?_
  refine s1 rfl (lop_move (v := .bool _) rfl) ?_
  first
    | refine gsplitP 1 rfl rfl (fun g2_1 p2_1 => ?_) (fun g2_1 p2_1 => ?_)
    | refine gsplitB 1 rfl rfl (fun g2_1 p2_1 => ?_) (fun g2_1 p2_1 => ?_)
  · first
      | refine y1 rfl rfl g2_1 rfl (lop_fieldAddr_rf (fo := 2) rfl Try.underlying44 rfl rfl Try.sizeOf4 (by decide)) ?_
      | refine y1 rfl rfl g2_1 rfl (lop_fieldAddr_fp (fo := 2) rfl Try.underlying44 rfl rfl Try.sizeOf4 (by decide) rfl) ?_
    first
      | refine y1 rfl rfl g2_1 rfl (lop_load_rf rfl rfl Try.isAgg4 rfl) ?_
      | refine y1 rfl rfl g2_1 rfl (lop_load_fp rfl Try.isAgg4 rfl) ?_
    first
      | refine s1 rfl (lop_pick_t (v := .bool _) rfl g2_1 rfl) ?_
      | refine s1 rfl (lop_pick_t (v := .bool _) rfl rfl rfl) ?_
      | refine s1 rfl (lop_pick_f (v := .bool _) rfl rfl rfl) ?_
      | refine s1 rfl (lop_pick rfl rfl rfl) ?_
    refine s1 rfl (lop_assign (v := .bool _) rfl) ?_
    refine ops_nil ?_
    refine ok_ret ?_
    exact ret_one rfl rfl rfl rfl (congrArg V.bool (by unfold livesAt; simp [*]))
  · refine n1 rfl rfl g2_1 ?_
    refine n1 rfl rfl g2_1 ?_
    first
      | refine s1 rfl (lop_pick_f (v := .bool _) rfl g2_1 rfl) ?_
      | refine s1 rfl (lop_pick_t (v := .bool _) rfl rfl rfl) ?_
      | refine s1 rfl (lop_pick_f (v := .bool _) rfl rfl rfl) ?_
      | refine s1 rfl (lop_pick rfl rfl rfl) ?_
    refine s1 rfl (lop_assign (v := .bool _) rfl) ?_
    refine ops_nil ?_
    refine ok_ret ?_
    exact ret_one rfl rfl rfl rfl (congrArg V.bool (by unfold livesAt; simp [*]))

end Go.Proofs
