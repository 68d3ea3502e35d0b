/- Chapter 16: walks. Printed by gen.py. -/
import Derived.Test.YtikikdgfebbcmaaT16g
set_option linter.unusedVariables false
set_option linter.unusedSimpArgs false
set_option maxRecDepth 100000
namespace Go.Proofs
open Go.Hg

theorem site_ring_ac (vol nodes : Int) (live : List Bool) : AC Try.prog 77 [i64 vol, i64 nodes, rowOf boolEnc live] (.fn 85 [.fp [i64 vol], .fp [i64 nodes], .fp [rowOf boolEnc live]]) := by
  refine AC.intro Try.func77 rfl (Nat.le_of_ble_eq_true rfl) ?_
  refine ok_reg ?_
  first
    | refine s1w rfl (lop_box (t := 3) (v := .int _ _) (f := true) (cs := [.int _ _]) rfl rfl rfl rfl (fun h => by cases h)) rfl ?_
    | refine s1w rfl (lop_box (t := 3) (v := .int _ _) (f := false) (cs := [.int _ _]) rfl rfl rfl rfl (fun _ => rfl)) rfl ?_
  first
    | refine s1w rfl (lop_box (t := 4) (v := .int _ _) (f := true) (cs := [.int _ _]) rfl rfl rfl rfl (fun h => by cases h)) rfl ?_
    | refine s1w rfl (lop_box (t := 4) (v := .int _ _) (f := false) (cs := [.int _ _]) rfl rfl rfl rfl (fun _ => rfl)) rfl ?_
  first
    | refine s1w rfl (lop_box (t := 5) (v := .sl _ _) (f := true) (cs := [.sl _ _]) rfl rfl rfl rfl (fun h => by cases h)) rfl ?_
    | refine s1w rfl (lop_box (t := 5) (v := .os _ _ _ _) (f := true) (cs := [.os _ _ _ _]) rfl rfl rfl rfl (fun h => by cases h)) rfl ?_
    | refine s1w rfl (lop_box (t := 5) (v := .z0) (f := true) (cs := [.z0]) rfl rfl rfl rfl (fun h => by cases h)) rfl ?_
    | refine s1w rfl (lop_box (t := 5) (v := .sl _ _) (f := false) (cs := [.sl _ _]) rfl rfl rfl rfl (fun _ => rfl)) rfl ?_
    | refine s1w rfl (lop_box (t := 5) (v := .os _ _ _ _) (f := false) (cs := [.os _ _ _ _]) rfl rfl rfl rfl (fun _ => rfl)) rfl ?_
    | refine s1w rfl (lop_box (t := 5) (v := .z0) (f := false) (cs := [.z0]) rfl rfl rfl rfl (fun _ => rfl)) rfl ?_
  first
    | refine s1 rfl (lop_assign (v := .fn _ _) rfl) ?_
    | refine s1 rfl (lop_assign (v := _) rfl) ?_
  refine ops_nil ?_
  refine ok_reg ?_
  first
    | refine s1 rfl (lop_func (vs := [.rf _ _, .rf _ _, .rf _ _]) rfl) ?_
    | refine s1 rfl (lop_func (vs := [.fp _, .fp _, .fp _]) rfl) ?_
  first
    | refine s1 rfl (lop_assign (v := .fn _ _) rfl) ?_
    | refine s1 rfl (lop_assign (v := _) rfl) ?_
  refine ops_nil ?_
  refine ok_ret ?_
  exact ret_gen (R := [3, 4, 5]) ⟨_, _, rfl, ⟨rfl, rfl⟩, rfl⟩ (fz_sound _ [3, 4, 5] _ rfl) (fun t ht => by simp at ht; rcases ht with rfl | rfl | rfl <;> exact Option.some_ne_none _)

theorem site_lives_ac (n : Int) {live : List Bool} (hl : live.length ≤ 1048576) : AC Try.prog 86 [i64 n, rowOf boolEnc live] (.bool (livesB n live)) := by
  refine AC.intro Try.func86 rfl (Nat.le_of_ble_eq_true rfl) ?_
  refine ok_reg ?_
  refine s1 rfl (lop_assign (v := .bool _) rfl) ?_
  refine ops_nil ?_
  refine ok_reg ?_
  refine s1 rfl (lop_move (v := .int _ _) rfl) ?_
  refine s1 rfl (lop_geq rfl rfl) ?_
  refine s1 rfl (lop_move (v := .bool _) rfl) ?_
  first
    | refine gsplitP 2 rfl rfl (fun g1_2 p1_2 => ?_) (fun g1_2 p1_2 => ?_)
    | refine gsplitB 2 rfl rfl (fun g1_2 p1_2 => ?_) (fun g1_2 p1_2 => ?_)
  · refine y1 rfl rfl g1_2 rfl (lop_move (v := .int _ _) rfl) ?_
    first
      | refine y1 rfl rfl g1_2 rfl (lop_move (v := .sl _ _) rfl) ?_
      | refine y1 rfl rfl g1_2 rfl (lop_move (v := .os _ _ _ _) rfl) ?_
      | refine y1 rfl rfl g1_2 rfl (lop_move (v := .z0) rfl) ?_
    refine y1 rfl rfl g1_2 rfl (lop_len rfl Try.underlying71 ⟨⟨_, rfl⟩, rfl⟩) ?_
    refine y1 rfl rfl g1_2 rfl (lop_lss rfl rfl) ?_
    first
      | refine s1 rfl (lop_pick_t (v := .bool _) rfl g1_2 rfl) ?_
      | refine s1 rfl (lop_pick_t (v := .bool _) rfl rfl rfl) ?_
      | refine s1 rfl (lop_pick_f (v := .bool _) rfl rfl rfl) ?_
      | refine s1 rfl (lop_pick rfl rfl rfl) ?_
    refine s1 rfl (lop_move (v := .bool _) rfl) ?_
    first
      | refine gsplitP 8 rfl rfl (fun g1_8 p1_8 => ?_) (fun g1_8 p1_8 => ?_)
      | refine gsplitB 8 rfl rfl (fun g1_8 p1_8 => ?_) (fun g1_8 p1_8 => ?_)
    · have hn0 : 0 ≤ n := by first | exact p1_2 | simp_all
      have hnl : n.toNat < live.length := by first | omega | (simp at *; omega)
      first
        | refine y1 rfl rfl g1_8 rfl (lop_move (v := .sl _ _) rfl) ?_
        | refine y1 rfl rfl g1_8 rfl (lop_move (v := .os _ _ _ _) rfl) ?_
        | refine y1 rfl rfl g1_8 rfl (lop_move (v := .z0) rfl) ?_
      refine y1 rfl rfl g1_8 rfl (lop_move (v := .int _ _) rfl) ?_
      refine y1 rfl rfl g1_8 rfl (lop_indexAddr_sl (i := n.toNat) rfl rfl Try.underlying71 Try.sizeOf4 (show n = ((n.toNat : Nat) : Int) by omega) hnl (flat_at boolEnc_len hnl) (flat_ne boolEnc_len (by decide) hnl)) ?_
      refine y1 rfl rfl g1_8 rfl (lop_load_fp (v := .bool live[n.toNat]) rfl Try.isAgg4 rfl) ?_
      first
        | refine s1 rfl (lop_pick_t (v := .bool _) rfl g1_2 rfl) ?_
        | refine s1 rfl (lop_pick_t (v := .bool _) rfl g1_8 rfl) ?_
        | refine s1 rfl (lop_pick_t (v := .bool _) rfl rfl rfl) ?_
        | refine s1 rfl (lop_pick_f (v := .bool _) rfl rfl rfl) ?_
        | refine s1 rfl (lop_pick rfl rfl rfl) ?_
      refine s1 rfl (lop_assign (v := .bool _) rfl) ?_
      refine ops_nil ?_
      refine ok_ret ?_
      exact ret_one rfl rfl rfl rfl (congrArg V.bool (by unfold livesB; first | (rw [getD_at _ hnl]; simp; omega) | (simp at *; omega) | simp_all))
    · refine n1 rfl rfl g1_8 ?_
      refine n1 rfl rfl g1_8 ?_
      refine n1 rfl rfl g1_8 ?_
      refine n1 rfl rfl g1_8 ?_
      first
        | refine s1 rfl (lop_pick_t (v := .bool _) rfl g1_2 rfl) ?_
        | refine s1 rfl (lop_pick_f (v := .bool _) rfl g1_8 rfl) ?_
        | refine s1 rfl (lop_pick_t (v := .bool _) rfl rfl rfl) ?_
        | refine s1 rfl (lop_pick_f (v := .bool _) rfl rfl rfl) ?_
        | refine s1 rfl (lop_pick rfl rfl rfl) ?_
      refine s1 rfl (lop_assign (v := .bool _) rfl) ?_
      refine ops_nil ?_
      refine ok_ret ?_
      exact ret_one rfl rfl rfl rfl (congrArg V.bool (by unfold livesB; first | (rw [getD_at _ hnl]; simp; omega) | (simp at *; omega) | simp_all))
  · refine n1 rfl rfl g1_2 ?_
    refine n1 rfl rfl g1_2 ?_
    refine n1 rfl rfl g1_2 ?_
    refine n1 rfl rfl g1_2 ?_
    first
      | refine s1 rfl (lop_pick_f (v := .bool _) rfl g1_2 rfl) ?_
      | refine s1 rfl (lop_pick_t (v := .bool _) rfl rfl rfl) ?_
      | refine s1 rfl (lop_pick_f (v := .bool _) rfl rfl rfl) ?_
      | refine s1 rfl (lop_pick rfl rfl rfl) ?_
    refine s1 rfl (lop_move (v := .bool _) rfl) ?_
    refine n1 rfl rfl rfl ?_
    refine n1 rfl rfl rfl ?_
    refine n1 rfl rfl rfl ?_
    refine n1 rfl rfl rfl ?_
    first
      | refine s1 rfl (lop_pick_f (v := .bool _) rfl g1_2 rfl) ?_
      | refine s1 rfl (lop_pick_f (v := .bool _) rfl rfl rfl) ?_
      | refine s1 rfl (lop_pick_t (v := .bool _) rfl rfl rfl) ?_
      | refine s1 rfl (lop_pick_f (v := .bool _) rfl rfl rfl) ?_
      | refine s1 rfl (lop_pick rfl rfl rfl) ?_
    refine s1 rfl (lop_assign (v := .bool _) rfl) ?_
    refine ops_nil ?_
    refine ok_ret ?_
    exact ret_one rfl rfl rfl rfl (congrArg V.bool (by unfold livesB; first | (rw [getD_at _ hnl]; simp; omega) | (simp at *; omega) | simp_all))

theorem next1_ac (p : PlD) (r : Int) : AC Try.prog 76 [.agg p.enc, .fp [i64 r]] (.bool (decide (p.r ≠ r))) := by
  refine AC.intro Try.func76 rfl (Nat.le_of_ble_eq_true rfl) ?_
  refine ok_reg ?_
  first
    | refine s1w rfl (lop_box (t := 2) (v := .agg [.int _ _, .int _ _]) (f := true) (cs := [.int _ _, .int _ _]) rfl rfl rfl rfl (fun h => by cases h)) rfl ?_
    | refine s1w rfl (lop_box (t := 2) (v := .agg [.int _ _, .int _ _]) (f := false) (cs := [.int _ _, .int _ _]) rfl rfl rfl rfl (fun _ => rfl)) rfl ?_
  refine s1 rfl (lop_assign (v := .bool _) rfl) ?_
  refine ops_nil ?_
  refine ok_reg ?_
  first
    | refine s1 rfl (lop_fieldAddr_rf (fo := 0) rfl Try.underlying41 rfl rfl Try.sizeOf3 (by decide)) ?_
    | refine s1 rfl (lop_fieldAddr_fp (fo := 0) rfl Try.underlying41 rfl rfl Try.sizeOf3 (by decide) rfl) ?_
  first
    | refine s1 rfl (lop_load_rf rfl rfl Try.isAgg3 rfl) ?_
    | refine s1 rfl (lop_load_fp rfl Try.isAgg3 rfl) ?_
  first
    | refine s1 rfl (lop_load_rf rfl rfl Try.isAgg3 rfl) ?_
    | refine s1 rfl (lop_load_fp rfl Try.isAgg3 rfl) ?_
  refine s1 rfl (lop_neq rfl rfl) ?_
  refine s1 rfl (lop_assign (v := .bool _) rfl) ?_
  refine ops_nil ?_
  refine ok_ret ?_
  exact ret_one rfl rfl rfl rfl rfl

theorem indexFunc_Place2_ac {g : FuncId} {caps : List V} {p : PlD → Bool} {l : List PlD} (hl : l.length ≤ 2097152) (hc : ∀ args w, (callFunc g args).run Try.prog w = .ok (.enter g args) w) (ht : tfL caps = true)
    (hp : ∀ x ∈ l, AC Try.prog g (.agg (PlD.enc x) :: caps) (.bool (p x))) : AC Try.prog 84 [rowOf PlD.enc l, .fn g caps] (i64 (idxOf p l)) := by
  refine AC.intro Try.func84 rfl (Nat.le_of_ble_eq_true rfl) ?_
  refine ok_reg ?_
  refine s1 rfl (lop_assign (v := .int _ _) rfl) ?_
  refine ops_nil ?_
  refine ok_seq ?_
  refine ok_reg ?_
  first
    | refine s1 rfl (lop_move (v := .sl _ _) rfl) ?_
    | refine s1 rfl (lop_move (v := .os _ _ _ _) rfl) ?_
    | refine s1 rfl (lop_move (v := .z0) rfl) ?_
  refine s1 rfl (lop_len rfl Try.underlying30 ⟨⟨_, rfl⟩, rfl⟩) ?_
  refine s1 rfl (lop_move (v := .int _ _) rfl) ?_
  refine ops_nil ?_
  refine ok_block ?_
  refine ok_loop (ι := {i : Nat // i ≤ l.length ∧ ∀ j, (h : j < l.length) → j < i → p l[j] = false}) (fun i => ⟨[(0, rowOf PlD.enc l), (1, .fn g caps), (7, i64 l.length), (8, i64 i.1)], [], 19⟩) (fun i => l.length - i.1) (⟨0, Nat.zero_le _, fun _ _ h => absurd h (Nat.not_lt_zero _)⟩) ?_ ?_
  · exact le_mk ⟨rfl, rfl, rfl, rfl, trivial⟩ trivial rfl
  rintro ⟨i, hi, hn⟩
  dsimp only
  refine ok_reg ?_
  refine s1 rfl (lop_lss rfl rfl) ?_
  refine ops_nil ?_
  refine ok_seq ?_
  first
    | refine ok_if _ rfl rfl (fun h_t9 => ?_) (fun h_t9 => ?_)
    | refine ok_cond rfl rfl (fun h_t9 => ?_) (fun h_t9 => ?_)
  · have h_t9 : i < l.length := by simpa using h_t9
    refine ok_skip ?_
    refine ok_seq ?_
    refine ok_block ?_
    refine ok_reg ?_
    refine s1 rfl (lop_move (v := .int _ _) rfl) ?_
    refine s1 rfl (lop_assign (v := .int _ _) rfl) ?_
    refine ops_nil ?_
    refine ok_reg ?_
    first
      | refine s1 rfl (lop_move (v := .fn _ _) rfl) ?_
      | refine s1 rfl (lop_move (v := _) rfl) ?_
    first
      | refine s1 rfl (lop_move (v := .sl _ _) rfl) ?_
      | refine s1 rfl (lop_move (v := .os _ _ _ _) rfl) ?_
      | refine s1 rfl (lop_move (v := .z0) rfl) ?_
    refine s1 rfl (lop_move (v := .int _ _) rfl) ?_
    first
      | refine s1 rfl (lop_indexAddr_os rfl rfl Try.underlying30 Try.sizeOf41 rfl h_t9) ?_
      | refine s1 rfl (lop_indexAddr_sl rfl rfl Try.underlying30 Try.sizeOf41 rfl h_t9 (flat_at PlD.len h_t9) (flat_ne PlD.len (by decide) h_t9)) ?_
    first
      | refine s1 rfl (lop_load_rf_agg rfl rfl Try.isAgg41 Try.sizeOf41 (by rw [List.length_append, PlD.len]; omega) (by rw [List.take_append_of_le_length (by rw [PlD.len]; omega), List.take_of_length_le (by rw [PlD.len]; omega)])) ?_
      | refine s1 rfl (lop_load_fp_agg rfl Try.isAgg41 Try.sizeOf41 (by rw [List.length_append, PlD.len]; omega) (by rw [List.take_append_of_le_length (by rw [PlD.len]; omega), List.take_of_length_le (by rw [PlD.len]; omega)])) ?_
    refine s1 rfl (lop_call rfl hc (FrzL.tf (show tfL (V.agg (PlD.enc l[i]) :: caps) = true by simp only [tfL, ht, Bool.and_true]; rfl)) (.inl rfl) (hp l[i] (List.getElem_mem _))) ?_
    refine ops_nil ?_
    first
      | refine ok_if _ rfl rfl (fun h_t16 => ?_) (fun h_t16 => ?_)
      | refine ok_cond rfl rfl (fun h_t16 => ?_) (fun h_t16 => ?_)
    · refine ok_reg ?_
      refine s1 rfl (lop_move (v := .int _ _) rfl) ?_
      refine s1 rfl (lop_assign (v := .int _ _) rfl) ?_
      refine ops_nil ?_
      refine ok_ret ?_
      exact ret_one rfl rfl rfl rfl (congrArg i64 (idxOf_at h_t9 h_t16 hn))
    · refine ok_skip ?_
      refine ok_region ?_
      refine s1 rfl (lop_bop rfl rfl rfl (bop_add (by omega) (by omega))) ?_
      refine s1 rfl (lop_move (v := .int _ _) rfl) ?_
      refine ops_nil ?_
      exact ⟨⟨i + 1, by omega, none_step hn h_t9 h_t16⟩, by simp only; omega, le_mk ⟨rfl, rfl, rfl, rfl, trivial⟩ trivial rfl⟩
  · refine ok_exit ?_
    refine ok_reg ?_
    refine s1 rfl (lop_assign (v := .int _ _) rfl) ?_
    refine ops_nil ?_
    refine ok_ret ?_
    exact ret_one rfl rfl rfl rfl (congrArg i64 (idxOf_no fun j hj => hn j hj (by omega)))

theorem containsFunc_Place_ac {l : List PlD} (hl : l.length ≤ 2097152) (r : Int) : AC Try.prog 75 [rowOf PlD.enc l, .fn 76 [.fp [i64 r]]] (.bool (decide (0 ≤ idxOf (fun p : PlD => decide (p.r ≠ r)) l))) := by
  refine AC.intro Try.func75 rfl (Nat.le_of_ble_eq_true rfl) ?_
  refine ok_reg ?_
  refine s1 rfl (lop_assign (v := .bool _) rfl) ?_
  refine ops_nil ?_
  refine ok_reg ?_
  first
    | refine s1 rfl (lop_move (v := .sl _ _) rfl) ?_
    | refine s1 rfl (lop_move (v := .os _ _ _ _) rfl) ?_
    | refine s1 rfl (lop_move (v := .z0) rfl) ?_
  first
    | refine s1 rfl (lop_move (v := .fn _ _) rfl) ?_
    | refine s1 rfl (lop_move (v := _) rfl) ?_
  refine s1 rfl (lop_call rfl Try.call84 (FrzL.tf rfl) (.inl rfl) (indexFunc_Place2_ac hl Try.call76 rfl (fun p _ => next1_ac p r))) ?_
  refine s1 rfl (lop_geq rfl rfl) ?_
  refine s1 rfl (lop_assign (v := .bool _) rfl) ?_
  refine ops_nil ?_
  refine ok_ret ?_
  exact ret_one rfl rfl rfl rfl rfl

theorem index_Place_ac {l : List PlD} (hl : l.length ≤ 2097152) (k : PlD) : AC Try.prog 87 [rowOf PlD.enc l, .agg k.enc] (i64 (idxOf (fun x => decide (k = x)) l)) := by
  refine AC.intro Try.func87 rfl (Nat.le_of_ble_eq_true rfl) ?_
  refine ok_reg ?_
  first
    | refine s1w rfl (lop_box (t := 3) (v := .agg [.int _ _, .int _ _]) (f := true) (cs := [.int _ _, .int _ _]) rfl rfl rfl rfl (fun h => by cases h)) rfl ?_
    | refine s1w rfl (lop_box (t := 3) (v := .agg [.int _ _, .int _ _]) (f := false) (cs := [.int _ _, .int _ _]) rfl rfl rfl rfl (fun _ => rfl)) rfl ?_
  refine s1 rfl (lop_assign (v := .int _ _) rfl) ?_
  refine ops_nil ?_
  refine ok_seq ?_
  refine ok_reg ?_
  first
    | refine s1 rfl (lop_move (v := .sl _ _) rfl) ?_
    | refine s1 rfl (lop_move (v := .os _ _ _ _) rfl) ?_
    | refine s1 rfl (lop_move (v := .z0) rfl) ?_
  refine s1 rfl (lop_len rfl Try.underlying30 ⟨⟨_, rfl⟩, rfl⟩) ?_
  refine s1 rfl (lop_move (v := .int _ _) rfl) ?_
  refine ops_nil ?_
  refine ok_block ?_
  refine ok_loop (ι := {i : Nat // i ≤ l.length ∧ ∀ j, (h : j < l.length) → j < i → (fun x => decide (k = x)) l[j] = false}) (fun i => ⟨[(0, rowOf PlD.enc l), (3, .rf 3 0), (7, i64 l.length), (8, i64 i.1)], [(3, some (true, k.enc))], 19⟩) (fun i => l.length - i.1) (⟨0, Nat.zero_le _, fun _ _ h => absurd h (Nat.not_lt_zero _)⟩) ?_ ?_
  · exact le_mk ⟨rfl, rfl, rfl, rfl, trivial⟩ ⟨.inr rfl, trivial⟩ rfl
  rintro ⟨i, hi, hn⟩
  dsimp only
  refine ok_reg ?_
  refine s1 rfl (lop_lss rfl rfl) ?_
  refine ops_nil ?_
  refine ok_seq ?_
  first
    | refine ok_if _ rfl rfl (fun h_t9 => ?_) (fun h_t9 => ?_)
    | refine ok_cond rfl rfl (fun h_t9 => ?_) (fun h_t9 => ?_)
  · have h_t9 : i < l.length := by simpa using h_t9
    refine ok_skip ?_
    refine ok_seq ?_
    refine ok_block ?_
    refine ok_reg ?_
    refine s1 rfl (lop_move (v := .int _ _) rfl) ?_
    refine s1 rfl (lop_assign (v := .int _ _) rfl) ?_
    refine ops_nil ?_
    refine ok_drw Try.mixed ?_
    first
      | refine d1 rfl rfl (lop_load_rf_agg (ys := [.int _ _, .int _ _]) rfl rfl Try.isAgg41 Try.sizeOf41 (Nat.le_of_ble_eq_true rfl) rfl) ?_
      | refine d1 rfl rfl (lop_load_fp_agg (ys := [.int _ _, .int _ _]) rfl Try.isAgg41 Try.sizeOf41 (Nat.le_of_ble_eq_true rfl) rfl) ?_
    first
      | refine d1 rfl rfl (lop_move (v := .sl _ _) rfl) ?_
      | refine d1 rfl rfl (lop_move (v := .os _ _ _ _) rfl) ?_
      | refine d1 rfl rfl (lop_move (v := .z0) rfl) ?_
    refine d1 rfl rfl (lop_move (v := .int _ _) rfl) ?_
    first
      | refine d1 rfl rfl (lop_indexAddr_os rfl rfl Try.underlying30 Try.sizeOf41 rfl h_t9) ?_
      | refine d1 rfl rfl (lop_indexAddr_sl rfl rfl Try.underlying30 Try.sizeOf41 rfl h_t9 (flat_at PlD.len h_t9) (flat_ne PlD.len (by decide) h_t9)) ?_
    first
      | refine d1 rfl rfl (lop_load_rf_agg rfl rfl Try.isAgg41 Try.sizeOf41 (by rw [List.length_append, PlD.len]; omega) (by rw [List.take_append_of_le_length (by rw [PlD.len]; omega), List.take_of_length_le (by rw [PlD.len]; omega)])) ?_
      | refine d1 rfl rfl (lop_load_fp_agg rfl Try.isAgg41 Try.sizeOf41 (by rw [List.length_append, PlD.len]; omega) (by rw [List.take_append_of_le_length (by rw [PlD.len]; omega), List.take_of_length_le (by rw [PlD.len]; omega)])) ?_
    refine d1 rfl rfl (lop_aeql rfl rfl rfl rfl eqg41 (eq41 _ _ _ _)) ?_
    refine dr_nil (by kernel_rfl) ?_
    first
      | refine ok_if _ rfl rfl (fun h_t16 => ?_) (fun h_t16 => ?_)
      | refine ok_cond rfl rfl (fun h_t16 => ?_) (fun h_t16 => ?_)
    · refine ok_reg ?_
      refine s1 rfl (lop_move (v := .int _ _) rfl) ?_
      refine s1 rfl (lop_assign (v := .int _ _) rfl) ?_
      refine ops_nil ?_
      refine ok_ret ?_
      exact ret_one rfl rfl rfl rfl (congrArg i64 (idxOf_at (p := fun x => decide (k = x)) h_t9 (decide_eq_true ((PlD.eq_iff _ _).1 h_t16)) hn))
    · refine ok_skip ?_
      refine ok_region ?_
      refine s1 rfl (lop_bop rfl rfl rfl (bop_add (by omega) (by omega))) ?_
      refine s1 rfl (lop_move (v := .int _ _) rfl) ?_
      refine ops_nil ?_
      exact ⟨⟨i + 1, by omega, none_step (p := fun x => decide (k = x)) hn h_t9 (decide_eq_false (fun e => h_t16 ((PlD.eq_iff _ _).2 e)))⟩, by simp only; omega, le_mk ⟨rfl, rfl, rfl, rfl, trivial⟩ ⟨.inr rfl, trivial⟩ rfl⟩
  · refine ok_exit ?_
    refine ok_reg ?_
    refine s1 rfl (lop_assign (v := .int _ _) rfl) ?_
    refine ops_nil ?_
    refine ok_ret ?_
    exact ret_one rfl rfl rfl rfl (congrArg i64 (idxOf_no (p := fun x => decide (k = x)) fun j hj => hn j hj (by omega)))

theorem contains_Place_ac {l : List PlD} (hl : l.length ≤ 2097152) (k : PlD) : AC Try.prog 78 [rowOf PlD.enc l, .agg k.enc] (.bool (decide (0 ≤ idxOf (fun x => decide (k = x)) l))) := by
  refine AC.intro Try.func78 rfl (Nat.le_of_ble_eq_true rfl) ?_
  refine ok_reg ?_
  first
    | refine s1w rfl (lop_box (t := 3) (v := .agg [.int _ _, .int _ _]) (f := true) (cs := [.int _ _, .int _ _]) rfl rfl rfl rfl (fun h => by cases h)) rfl ?_
    | refine s1w rfl (lop_box (t := 3) (v := .agg [.int _ _, .int _ _]) (f := false) (cs := [.int _ _, .int _ _]) rfl rfl rfl rfl (fun _ => rfl)) rfl ?_
  refine s1 rfl (lop_assign (v := .bool _) rfl) ?_
  refine ops_nil ?_
  refine ok_reg ?_
  first
    | refine s1 rfl (lop_move (v := .sl _ _) rfl) ?_
    | refine s1 rfl (lop_move (v := .os _ _ _ _) rfl) ?_
    | refine s1 rfl (lop_move (v := .z0) rfl) ?_
  first
    | refine s1 rfl (lop_load_rf_agg (ys := [.int _ _, .int _ _]) rfl rfl Try.isAgg41 Try.sizeOf41 (Nat.le_of_ble_eq_true rfl) rfl) ?_
    | refine s1 rfl (lop_load_fp_agg (ys := [.int _ _, .int _ _]) rfl Try.isAgg41 Try.sizeOf41 (Nat.le_of_ble_eq_true rfl) rfl) ?_
  refine s1 rfl (lop_call rfl Try.call87 (FrzL.tf rfl) (.inl rfl) (index_Place_ac hl k)) ?_
  refine s1 rfl (lop_geq rfl rfl) ?_
  refine s1 rfl (lop_assign (v := .bool _) rfl) ?_
  refine ops_nil ?_
  refine ok_ret ?_
  exact ret_one rfl rfl rfl rfl rfl

end Go.Proofs
