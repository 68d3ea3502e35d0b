/- Chapter 15: walks. Printed by gen.py. -/
import Derived.Test.YtajlkpogccbboaaT15a
set_option linter.unusedVariables false
set_option linter.unusedSimpArgs false
set_option maxRecDepth 100000
namespace Go.Proofs
open Go.Hg

theorem flat_fit {α : Type} {enc : α → List V} {sz : Nat} (hs : ∀ x, (enc x).length = sz) {l : List α} {i : Nat} (h : i < l.length) : 0 + i * sz + sz ≤ (l.flatMap enc).length := by
  rw [flat_length hs]
  have := Nat.mul_le_mul_right sz (show i + 1 ≤ l.length from h)
  rw [Nat.add_mul] at this
  omega
theorem flat_set {α : Type} {enc : α → List V} {sz : Nat} (hs : ∀ x, (enc x).length = sz) {l : List α} {i : Nat} (h : i < l.length) {x : α} : vsplice (l.flatMap enc) (0 + i * sz) (enc x) = (l.set i x).flatMap enc := by
  unfold vsplice
  rw [Nat.zero_add, hs, flat_take hs, show i * sz + sz = (i + 1) * sz by rw [Nat.add_mul]; omega, flat_drop hs, List.set_eq_take_append_cons_drop, if_pos h, List.flatMap_append, List.flatMap_cons, List.append_assoc]
theorem eqg57 : Try.prog.eqGuardType Try.prog.depth 57 = false := by kernel_rfl
theorem held57 : Try.prog.stoodInHeld 57 = false := by kernel_rfl
theorem eq57 (a b c d : Int) (w : World) : (binOp .eql 57 (.agg #[.int .i64 a, .int .i64 b]) (.agg #[.int .i64 c, .int .i64 d])).run Try.prog w = .ok (.bool (decide (a = c ∧ b = d))) w :=
  run_eq2 Try.underlying57 held57 (by decide) (by decide) rfl rfl Try.underlying3 Try.underlying3 Try.isAgg3 Try.isAgg3 a b c d w

theorem set_Sess_ac {l : List SessD} (hl : l.length < 549755813888) {i : Int} (hi : i < l.length) (x : SessD) : AC Try.prog 27 [rowOf SessD.enc l, i64 i, .agg x.enc] (rowOf SessD.enc (setL l i x)) := by
  refine AC.intro Try.func27 rfl (Nat.le_of_ble_eq_true rfl) ?_
  refine ok_reg ?_
  first
    | refine s1w rfl (lop_box (t := 5) (v := .agg [.int _ _, .int _ _, .int _ _, .int _ _, .int _ _, .int _ _, .int _ _, .bool _]) (f := true) (cs := [.int _ _, .int _ _, .int _ _, .int _ _, .int _ _, .int _ _, .int _ _, .bool _]) rfl rfl rfl rfl (fun h => by cases h)) rfl ?_
    | refine s1w rfl (lop_box (t := 5) (v := .agg [.int _ _, .int _ _, .int _ _, .int _ _, .int _ _, .int _ _, .int _ _, .bool _]) (f := false) (cs := [.int _ _, .int _ _, .int _ _, .int _ _, .int _ _, .int _ _, .int _ _, .bool _]) rfl rfl rfl rfl (fun _ => rfl)) rfl ?_
  first
    | refine s1 rfl (lop_assign (v := .sl _ _) rfl) ?_
    | refine s1 rfl (lop_assign (v := .os _ _ _ _) rfl) ?_
    | refine s1 rfl (lop_assign (v := .z0) rfl) ?_
  refine ops_nil ?_
  refine ok_reg ?_
  first
    | refine s1 rfl (lop_move (v := .sl _ _) rfl) ?_
    | refine s1 rfl (lop_move (v := .os _ _ _ _) rfl) ?_
    | refine s1 rfl (lop_move (v := .z0) rfl) ?_
  refine s1w rfl (lop_callH (R := []) (nw := [500]) (W := [(500, some (true, l.flatMap SessD.enc))]) rfl Try.call51 rfl (clone_Sess_ac (by omega)) trivial rfl rfl rfl rfl rfl rfl) rfl ?_
  first
    | refine s1 rfl (lop_assign (v := .sl _ _) rfl) ?_
    | refine s1 rfl (lop_assign (v := .os _ _ _ _) rfl) ?_
    | refine s1 rfl (lop_assign (v := .z0) rfl) ?_
  refine ops_nil ?_
  refine ok_seq ?_
  refine ok_reg ?_
  refine s1 rfl (lop_move (v := .int _ _) rfl) ?_
  refine s1 rfl (lop_lss rfl rfl) ?_
  refine ops_nil ?_
  first
    | refine ok_if _ rfl rfl (fun h_t10 => ?_) (fun h_t10 => ?_)
    | refine ok_cond rfl rfl (fun h_t10 => ?_) (fun h_t10 => ?_)
  · refine ok_reg ?_
    first
      | refine s1 rfl (lop_move (v := .sl _ _) rfl) ?_
      | refine s1 rfl (lop_move (v := .os _ _ _ _) rfl) ?_
      | refine s1 rfl (lop_move (v := .z0) rfl) ?_
    first
      | refine s1 rfl (lop_load_rf_agg (ys := [.int _ _, .int _ _, .int _ _, .int _ _, .int _ _, .int _ _, .int _ _, .bool _]) rfl rfl Try.isAgg39 Try.sizeOf39 (Nat.le_of_ble_eq_true rfl) rfl) ?_
      | refine s1 rfl (lop_load_fp_agg (ys := [.int _ _, .int _ _, .int _ _, .int _ _, .int _ _, .int _ _, .int _ _, .bool _]) rfl Try.isAgg39 Try.sizeOf39 (Nat.le_of_ble_eq_true rfl) rfl) ?_
    first
      | refine s1w rfl (lop_buildSlice (t := 13) (cs := [.int _ _, .int _ _, .int _ _, .int _ _, .int _ _, .int _ _, .int _ _, .bool _]) (f := true) Try.underlying24 Try.sizeOf39 (by decide) Try.zeroValue39 rfl rfl rfl (by decide) rfl (.inr (by decide)) rfl (fun h => by cases h)) rfl ?_
      | refine s1w rfl (lop_buildSlice (t := 13) (cs := [.int _ _, .int _ _, .int _ _, .int _ _, .int _ _, .int _ _, .int _ _, .bool _]) (f := false) Try.underlying24 Try.sizeOf39 (by decide) Try.zeroValue39 rfl rfl rfl (by decide) rfl (.inr (by decide)) rfl (fun _ => rfl)) rfl ?_
    first
      | refine s2w rfl (lop_append_os (t' := 14) rfl rfl rfl (flat_length SessD.len _) (.os Try.underlying24 (List.mem_singleton.2 rfl) rfl (Nat.le_of_ble_eq_true rfl) rfl) Try.underlying24 info39 rfl (by omega) (by omega)) rfl ?_
      | refine s1w rfl (lop_append_z0 (t' := 14) rfl rfl (.os Try.underlying24 (List.mem_singleton.2 rfl) rfl (Nat.le_of_ble_eq_true rfl) rfl) Try.underlying24 info39 rfl (by omega) (by omega)) rfl ?_
      | refine s2w rfl (lop_append_os (t' := 14) (R := []) rfl rfl rfl (flat_length SessD.len _) (.sl Try.underlying24 rfl) Try.underlying24 info39 rfl (by omega) (by omega)) rfl ?_
      | refine s1w rfl (lop_append_z0 (t' := 14) (R := []) rfl rfl (.sl Try.underlying24 rfl) Try.underlying24 info39 rfl (by omega) (by omega)) rfl ?_
      | refine s2w rfl (lop_append_os (t' := 14) (R := []) rfl rfl rfl (flat_length SessD.len _) (.z0 Try.underlying24) Try.underlying24 info39 rfl (by omega) (by omega)) rfl ?_
      | refine s1w rfl (lop_append_z0 (t' := 14) (R := []) rfl rfl (.z0 Try.underlying24) Try.underlying24 info39 rfl (by omega) (by omega)) rfl ?_
    first
      | refine s1 rfl (lop_assign (v := .sl _ _) rfl) ?_
      | refine s1 rfl (lop_assign (v := .os _ _ _ _) rfl) ?_
      | refine s1 rfl (lop_assign (v := .z0) rfl) ?_
    refine ops_nil ?_
    refine ok_ret ?_
    rw [show rowOf SessD.enc (setL l i x) = .sl (l.length + 1) (l.flatMap SessD.enc ++ x.enc) by unfold rowOf setL; rw [if_pos h_t10, List.length_append, List.flatMap_append]; simp]
    exact ret_gen (R := [14]) ⟨_, _, rfl, ⟨rfl, rfl⟩, rfl⟩ (.osf (List.mem_singleton.2 rfl) rfl (by rw [List.length_append, flat_length SessD.len]; simp only [List.take, List.drop, List.length_cons, List.length_nil]; omega) (by rw [List.drop_zero, List.take_of_length_le (by rw [List.length_append, flat_length SessD.len]; simp only [List.take, List.drop, List.length_cons, List.length_nil]; omega)]; rfl)) (fun t ht => by simp at ht; subst ht; exact Option.some_ne_none _)
  · refine ok_skip ?_
    refine ok_reg ?_
    first
      | refine s1 rfl (lop_move (v := .sl _ _) rfl) ?_
      | refine s1 rfl (lop_move (v := .os _ _ _ _) rfl) ?_
      | refine s1 rfl (lop_move (v := .z0) rfl) ?_
    refine s1 rfl (lop_move (v := .int _ _) rfl) ?_
    first
      | refine s1 rfl (lop_load_rf_agg (ys := [.int _ _, .int _ _, .int _ _, .int _ _, .int _ _, .int _ _, .int _ _, .bool _]) rfl rfl Try.isAgg39 Try.sizeOf39 (Nat.le_of_ble_eq_true rfl) rfl) ?_
      | refine s1 rfl (lop_load_fp_agg (ys := [.int _ _, .int _ _, .int _ _, .int _ _, .int _ _, .int _ _, .int _ _, .bool _]) rfl Try.isAgg39 Try.sizeOf39 (Nat.le_of_ble_eq_true rfl) rfl) ?_
    first
      | refine s1 rfl (lop_indexAddr_os rfl rfl Try.underlying24 Try.sizeOf39 (show _ = ((i.toNat : Nat) : Int) by omega) (by omega)) ?_
      | refine s1 rfl (lop_indexAddr_sl rfl rfl Try.underlying24 Try.sizeOf39 (show _ = ((i.toNat : Nat) : Int) by omega) (by omega) rfl (by omega)) ?_
    refine s0w rfl (lop_store (v := .agg [.int _ _, .int _ _, .int _ _, .int _ _, .int _ _, .int _ _, .int _ _, .bool _]) rfl rfl rfl Try.sizeOf39 rfl rfl (flat_fit SessD.len (by omega))) ?_
    refine ops_le (T := ⟨[(0, .os 500 0 8 l.length)], [(500, some (true, (l.set i.toNat x).flatMap SessD.enc))], 20⟩) (le_mk ⟨rfl, trivial⟩ ⟨.inr (by rw [← flat_set SessD.len (by omega)]; rfl), trivial⟩ rfl) ?_
    refine ops_nil ?_
    refine ok_reg ?_
    first
      | refine s1 rfl (lop_move (v := .sl _ _) rfl) ?_
      | refine s1 rfl (lop_move (v := .os _ _ _ _) rfl) ?_
      | refine s1 rfl (lop_move (v := .z0) rfl) ?_
    first
      | refine s1 rfl (lop_assign (v := .sl _ _) rfl) ?_
      | refine s1 rfl (lop_assign (v := .os _ _ _ _) rfl) ?_
      | refine s1 rfl (lop_assign (v := .z0) rfl) ?_
    refine ops_nil ?_
    refine ok_ret ?_
    rw [show rowOf SessD.enc (setL l i x) = .sl l.length ((l.set i.toNat x).flatMap SessD.enc) by unfold rowOf setL; rw [if_neg h_t10, List.length_set]]
    exact ret_gen (R := [500]) ⟨_, _, rfl, ⟨rfl, rfl⟩, rfl⟩ (.osf (List.mem_singleton.2 rfl) rfl (by rw [flat_length SessD.len, List.length_set]; omega) (by rw [List.drop_zero, List.take_of_length_le (by rw [flat_length SessD.len, List.length_set]; omega)])) (fun t ht => by simp at ht; subst ht; exact Option.some_ne_none _)

theorem set_Vol_ac {l : List VolD} (hl : l.length < 549755813888) {i : Int} (hi : i < l.length) (x : VolD) : AC Try.prog 62 [rowOf VolD.enc l, i64 i, .agg x.enc] (rowOf VolD.enc (setL l i x)) := by
  refine AC.intro Try.func62 rfl (Nat.le_of_ble_eq_true rfl) ?_
  refine ok_reg ?_
  first
    | refine s1w rfl (lop_box (t := 5) (v := .agg [.int _ _, .int _ _, .int _ _, .int _ _, .int _ _, _, _, .int _ _, .int _ _]) (f := true) (cs := [.int _ _, .int _ _, .int _ _, .int _ _, .int _ _, _, _, .int _ _, .int _ _]) rfl rfl rfl rfl (fun h => by cases h)) rfl ?_
    | refine s1w rfl (lop_box (t := 5) (v := .agg [.int _ _, .int _ _, .int _ _, .int _ _, .int _ _, _, _, .int _ _, .int _ _]) (f := false) (cs := [.int _ _, .int _ _, .int _ _, .int _ _, .int _ _, _, _, .int _ _, .int _ _]) rfl rfl rfl rfl (fun _ => rfl)) rfl ?_
  first
    | refine s1 rfl (lop_assign (v := .sl _ _) rfl) ?_
    | refine s1 rfl (lop_assign (v := .os _ _ _ _) rfl) ?_
    | refine s1 rfl (lop_assign (v := .z0) rfl) ?_
  refine ops_nil ?_
  refine ok_reg ?_
  first
    | refine s1 rfl (lop_move (v := .sl _ _) rfl) ?_
    | refine s1 rfl (lop_move (v := .os _ _ _ _) rfl) ?_
    | refine s1 rfl (lop_move (v := .z0) rfl) ?_
  refine s1w rfl (lop_callH (R := []) (nw := [500]) (W := [(500, some (true, l.flatMap VolD.enc))]) rfl Try.call75 rfl (clone_Vol_ac (by omega)) trivial rfl rfl rfl rfl rfl rfl) rfl ?_
  first
    | refine s1 rfl (lop_assign (v := .sl _ _) rfl) ?_
    | refine s1 rfl (lop_assign (v := .os _ _ _ _) rfl) ?_
    | refine s1 rfl (lop_assign (v := .z0) rfl) ?_
  refine ops_nil ?_
  refine ok_seq ?_
  refine ok_reg ?_
  refine s1 rfl (lop_move (v := .int _ _) rfl) ?_
  refine s1 rfl (lop_lss rfl rfl) ?_
  refine ops_nil ?_
  first
    | refine ok_if _ rfl rfl (fun h_t10 => ?_) (fun h_t10 => ?_)
    | refine ok_cond rfl rfl (fun h_t10 => ?_) (fun h_t10 => ?_)
  · refine ok_reg ?_
    first
      | refine s1 rfl (lop_move (v := .sl _ _) rfl) ?_
      | refine s1 rfl (lop_move (v := .os _ _ _ _) rfl) ?_
      | refine s1 rfl (lop_move (v := .z0) rfl) ?_
    first
      | refine s1 rfl (lop_load_rf_agg (ys := [.int _ _, .int _ _, .int _ _, .int _ _, .int _ _, _, _, .int _ _, .int _ _]) rfl rfl Try.isAgg50 Try.sizeOf50 (Nat.le_of_ble_eq_true rfl) rfl) ?_
      | refine s1 rfl (lop_load_fp_agg (ys := [.int _ _, .int _ _, .int _ _, .int _ _, .int _ _, _, _, .int _ _, .int _ _]) rfl Try.isAgg50 Try.sizeOf50 (Nat.le_of_ble_eq_true rfl) rfl) ?_
    first
      | refine s1w rfl (lop_buildSlice (t := 13) (cs := [.int _ _, .int _ _, .int _ _, .int _ _, .int _ _, _, _, .int _ _, .int _ _]) (f := true) Try.underlying22 Try.sizeOf50 (by decide) Try.zeroValue50 rfl rfl rfl (by decide) rfl (.inr (by decide)) rfl (fun h => by cases h)) rfl ?_
      | refine s1w rfl (lop_buildSlice (t := 13) (cs := [.int _ _, .int _ _, .int _ _, .int _ _, .int _ _, _, _, .int _ _, .int _ _]) (f := false) Try.underlying22 Try.sizeOf50 (by decide) Try.zeroValue50 rfl rfl rfl (by decide) rfl (.inr (by decide)) rfl (fun _ => rfl)) rfl ?_
    first
      | refine s2w rfl (lop_append_os (t' := 14) rfl rfl rfl (flat_length VolD.len _) (.os Try.underlying22 (List.mem_singleton.2 rfl) rfl (Nat.le_of_ble_eq_true rfl) rfl) Try.underlying22 info50 rfl (by omega) (by omega)) rfl ?_
      | refine s1w rfl (lop_append_z0 (t' := 14) rfl rfl (.os Try.underlying22 (List.mem_singleton.2 rfl) rfl (Nat.le_of_ble_eq_true rfl) rfl) Try.underlying22 info50 rfl (by omega) (by omega)) rfl ?_
      | refine s2w rfl (lop_append_os (t' := 14) (R := []) rfl rfl rfl (flat_length VolD.len _) (.sl Try.underlying22 rfl) Try.underlying22 info50 rfl (by omega) (by omega)) rfl ?_
      | refine s1w rfl (lop_append_z0 (t' := 14) (R := []) rfl rfl (.sl Try.underlying22 rfl) Try.underlying22 info50 rfl (by omega) (by omega)) rfl ?_
      | refine s2w rfl (lop_append_os (t' := 14) (R := []) rfl rfl rfl (flat_length VolD.len _) (.z0 Try.underlying22) Try.underlying22 info50 rfl (by omega) (by omega)) rfl ?_
      | refine s1w rfl (lop_append_z0 (t' := 14) (R := []) rfl rfl (.z0 Try.underlying22) Try.underlying22 info50 rfl (by omega) (by omega)) rfl ?_
    first
      | refine s1 rfl (lop_assign (v := .sl _ _) rfl) ?_
      | refine s1 rfl (lop_assign (v := .os _ _ _ _) rfl) ?_
      | refine s1 rfl (lop_assign (v := .z0) rfl) ?_
    refine ops_nil ?_
    refine ok_ret ?_
    rw [show rowOf VolD.enc (setL l i x) = .sl (l.length + 1) (l.flatMap VolD.enc ++ x.enc) by unfold rowOf setL; rw [if_pos h_t10, List.length_append, List.flatMap_append]; simp]
    exact ret_gen (R := [14]) ⟨_, _, rfl, ⟨rfl, rfl⟩, rfl⟩ (.osf (List.mem_singleton.2 rfl) rfl (by rw [List.length_append, flat_length VolD.len]; simp only [List.take, List.drop, List.length_cons, List.length_nil]; omega) (by rw [List.drop_zero, List.take_of_length_le (by rw [List.length_append, flat_length VolD.len]; simp only [List.take, List.drop, List.length_cons, List.length_nil]; omega)]; rfl)) (fun t ht => by simp at ht; subst ht; exact Option.some_ne_none _)
  · refine ok_skip ?_
    refine ok_reg ?_
    first
      | refine s1 rfl (lop_move (v := .sl _ _) rfl) ?_
      | refine s1 rfl (lop_move (v := .os _ _ _ _) rfl) ?_
      | refine s1 rfl (lop_move (v := .z0) rfl) ?_
    refine s1 rfl (lop_move (v := .int _ _) rfl) ?_
    first
      | refine s1 rfl (lop_load_rf_agg (ys := [.int _ _, .int _ _, .int _ _, .int _ _, .int _ _, _, _, .int _ _, .int _ _]) rfl rfl Try.isAgg50 Try.sizeOf50 (Nat.le_of_ble_eq_true rfl) rfl) ?_
      | refine s1 rfl (lop_load_fp_agg (ys := [.int _ _, .int _ _, .int _ _, .int _ _, .int _ _, _, _, .int _ _, .int _ _]) rfl Try.isAgg50 Try.sizeOf50 (Nat.le_of_ble_eq_true rfl) rfl) ?_
    first
      | refine s1 rfl (lop_indexAddr_os rfl rfl Try.underlying22 Try.sizeOf50 (show _ = ((i.toNat : Nat) : Int) by omega) (by omega)) ?_
      | refine s1 rfl (lop_indexAddr_sl rfl rfl Try.underlying22 Try.sizeOf50 (show _ = ((i.toNat : Nat) : Int) by omega) (by omega) rfl (by omega)) ?_
    refine s0w rfl (lop_store (v := .agg [.int _ _, .int _ _, .int _ _, .int _ _, .int _ _, _, _, .int _ _, .int _ _]) rfl rfl rfl Try.sizeOf50 rfl rfl (flat_fit VolD.len (by omega))) ?_
    refine ops_le (T := ⟨[(0, .os 500 0 9 l.length)], [(500, some (true, (l.set i.toNat x).flatMap VolD.enc))], 20⟩) (le_mk ⟨rfl, trivial⟩ ⟨.inr (by rw [← flat_set VolD.len (by omega)]; rfl), trivial⟩ rfl) ?_
    refine ops_nil ?_
    refine ok_reg ?_
    first
      | refine s1 rfl (lop_move (v := .sl _ _) rfl) ?_
      | refine s1 rfl (lop_move (v := .os _ _ _ _) rfl) ?_
      | refine s1 rfl (lop_move (v := .z0) rfl) ?_
    first
      | refine s1 rfl (lop_assign (v := .sl _ _) rfl) ?_
      | refine s1 rfl (lop_assign (v := .os _ _ _ _) rfl) ?_
      | refine s1 rfl (lop_assign (v := .z0) rfl) ?_
    refine ops_nil ?_
    refine ok_ret ?_
    rw [show rowOf VolD.enc (setL l i x) = .sl l.length ((l.set i.toNat x).flatMap VolD.enc) by unfold rowOf setL; rw [if_neg h_t10, List.length_set]]
    exact ret_gen (R := [500]) ⟨_, _, rfl, ⟨rfl, rfl⟩, rfl⟩ (.osf (List.mem_singleton.2 rfl) rfl (by rw [flat_length VolD.len, List.length_set]; omega) (by rw [List.drop_zero, List.take_of_length_le (by rw [flat_length VolD.len, List.length_set]; omega)])) (fun t ht => by simp at ht; subst ht; exact Option.some_ne_none _)

theorem set_Span_ac {l : List SpanD} (hl : l.length < 549755813888) {i : Int} (hi : i < l.length) (x : SpanD) : AC Try.prog 63 [rowOf SpanD.enc l, i64 i, .agg x.enc] (rowOf SpanD.enc (setL l i x)) := by
  refine AC.intro Try.func63 rfl (Nat.le_of_ble_eq_true rfl) ?_
  refine ok_reg ?_
  first
    | refine s1w rfl (lop_box (t := 5) (v := .agg [.int _ _, .int _ _]) (f := true) (cs := [.int _ _, .int _ _]) rfl rfl rfl rfl (fun h => by cases h)) rfl ?_
    | refine s1w rfl (lop_box (t := 5) (v := .agg [.int _ _, .int _ _]) (f := false) (cs := [.int _ _, .int _ _]) rfl rfl rfl rfl (fun _ => rfl)) rfl ?_
  first
    | refine s1 rfl (lop_assign (v := .sl _ _) rfl) ?_
    | refine s1 rfl (lop_assign (v := .os _ _ _ _) rfl) ?_
    | refine s1 rfl (lop_assign (v := .z0) rfl) ?_
  refine ops_nil ?_
  refine ok_reg ?_
  first
    | refine s1 rfl (lop_move (v := .sl _ _) rfl) ?_
    | refine s1 rfl (lop_move (v := .os _ _ _ _) rfl) ?_
    | refine s1 rfl (lop_move (v := .z0) rfl) ?_
  refine s1w rfl (lop_callH (R := []) (nw := [500]) (W := [(500, some (true, l.flatMap SpanD.enc))]) rfl Try.call76 rfl (clone_Span_ac (by omega)) trivial rfl rfl rfl rfl rfl rfl) rfl ?_
  first
    | refine s1 rfl (lop_assign (v := .sl _ _) rfl) ?_
    | refine s1 rfl (lop_assign (v := .os _ _ _ _) rfl) ?_
    | refine s1 rfl (lop_assign (v := .z0) rfl) ?_
  refine ops_nil ?_
  refine ok_seq ?_
  refine ok_reg ?_
  refine s1 rfl (lop_move (v := .int _ _) rfl) ?_
  refine s1 rfl (lop_lss rfl rfl) ?_
  refine ops_nil ?_
  first
    | refine ok_if _ rfl rfl (fun h_t10 => ?_) (fun h_t10 => ?_)
    | refine ok_cond rfl rfl (fun h_t10 => ?_) (fun h_t10 => ?_)
  · refine ok_reg ?_
    first
      | refine s1 rfl (lop_move (v := .sl _ _) rfl) ?_
      | refine s1 rfl (lop_move (v := .os _ _ _ _) rfl) ?_
      | refine s1 rfl (lop_move (v := .z0) rfl) ?_
    first
      | refine s1 rfl (lop_load_rf_agg (ys := [.int _ _, .int _ _]) rfl rfl Try.isAgg54 Try.sizeOf54 (Nat.le_of_ble_eq_true rfl) rfl) ?_
      | refine s1 rfl (lop_load_fp_agg (ys := [.int _ _, .int _ _]) rfl Try.isAgg54 Try.sizeOf54 (Nat.le_of_ble_eq_true rfl) rfl) ?_
    first
      | refine s1w rfl (lop_buildSlice (t := 13) (cs := [.int _ _, .int _ _]) (f := true) Try.underlying48 Try.sizeOf54 (by decide) Try.zeroValue54 rfl rfl rfl (by decide) rfl (.inr (by decide)) rfl (fun h => by cases h)) rfl ?_
      | refine s1w rfl (lop_buildSlice (t := 13) (cs := [.int _ _, .int _ _]) (f := false) Try.underlying48 Try.sizeOf54 (by decide) Try.zeroValue54 rfl rfl rfl (by decide) rfl (.inr (by decide)) rfl (fun _ => rfl)) rfl ?_
    first
      | refine s2w rfl (lop_append_os (t' := 14) rfl rfl rfl (flat_length SpanD.len _) (.os Try.underlying48 (List.mem_singleton.2 rfl) rfl (Nat.le_of_ble_eq_true rfl) rfl) Try.underlying48 info54 rfl (by omega) (by omega)) rfl ?_
      | refine s1w rfl (lop_append_z0 (t' := 14) rfl rfl (.os Try.underlying48 (List.mem_singleton.2 rfl) rfl (Nat.le_of_ble_eq_true rfl) rfl) Try.underlying48 info54 rfl (by omega) (by omega)) rfl ?_
      | refine s2w rfl (lop_append_os (t' := 14) (R := []) rfl rfl rfl (flat_length SpanD.len _) (.sl Try.underlying48 rfl) Try.underlying48 info54 rfl (by omega) (by omega)) rfl ?_
      | refine s1w rfl (lop_append_z0 (t' := 14) (R := []) rfl rfl (.sl Try.underlying48 rfl) Try.underlying48 info54 rfl (by omega) (by omega)) rfl ?_
      | refine s2w rfl (lop_append_os (t' := 14) (R := []) rfl rfl rfl (flat_length SpanD.len _) (.z0 Try.underlying48) Try.underlying48 info54 rfl (by omega) (by omega)) rfl ?_
      | refine s1w rfl (lop_append_z0 (t' := 14) (R := []) rfl rfl (.z0 Try.underlying48) Try.underlying48 info54 rfl (by omega) (by omega)) rfl ?_
    first
      | refine s1 rfl (lop_assign (v := .sl _ _) rfl) ?_
      | refine s1 rfl (lop_assign (v := .os _ _ _ _) rfl) ?_
      | refine s1 rfl (lop_assign (v := .z0) rfl) ?_
    refine ops_nil ?_
    refine ok_ret ?_
    rw [show rowOf SpanD.enc (setL l i x) = .sl (l.length + 1) (l.flatMap SpanD.enc ++ x.enc) by unfold rowOf setL; rw [if_pos h_t10, List.length_append, List.flatMap_append]; simp]
    exact ret_gen (R := [14]) ⟨_, _, rfl, ⟨rfl, rfl⟩, rfl⟩ (.osf (List.mem_singleton.2 rfl) rfl (by rw [List.length_append, flat_length SpanD.len]; simp only [List.take, List.drop, List.length_cons, List.length_nil]; omega) (by rw [List.drop_zero, List.take_of_length_le (by rw [List.length_append, flat_length SpanD.len]; simp only [List.take, List.drop, List.length_cons, List.length_nil]; omega)]; rfl)) (fun t ht => by simp at ht; subst ht; exact Option.some_ne_none _)
  · refine ok_skip ?_
    refine ok_reg ?_
    first
      | refine s1 rfl (lop_move (v := .sl _ _) rfl) ?_
      | refine s1 rfl (lop_move (v := .os _ _ _ _) rfl) ?_
      | refine s1 rfl (lop_move (v := .z0) rfl) ?_
    refine s1 rfl (lop_move (v := .int _ _) rfl) ?_
    first
      | refine s1 rfl (lop_load_rf_agg (ys := [.int _ _, .int _ _]) rfl rfl Try.isAgg54 Try.sizeOf54 (Nat.le_of_ble_eq_true rfl) rfl) ?_
      | refine s1 rfl (lop_load_fp_agg (ys := [.int _ _, .int _ _]) rfl Try.isAgg54 Try.sizeOf54 (Nat.le_of_ble_eq_true rfl) rfl) ?_
    first
      | refine s1 rfl (lop_indexAddr_os rfl rfl Try.underlying48 Try.sizeOf54 (show _ = ((i.toNat : Nat) : Int) by omega) (by omega)) ?_
      | refine s1 rfl (lop_indexAddr_sl rfl rfl Try.underlying48 Try.sizeOf54 (show _ = ((i.toNat : Nat) : Int) by omega) (by omega) rfl (by omega)) ?_
    refine s0w rfl (lop_store (v := .agg [.int _ _, .int _ _]) rfl rfl rfl Try.sizeOf54 rfl rfl (flat_fit SpanD.len (by omega))) ?_
    refine ops_le (T := ⟨[(0, .os 500 0 2 l.length)], [(500, some (true, (l.set i.toNat x).flatMap SpanD.enc))], 20⟩) (le_mk ⟨rfl, trivial⟩ ⟨.inr (by rw [← flat_set SpanD.len (by omega)]; rfl), trivial⟩ rfl) ?_
    refine ops_nil ?_
    refine ok_reg ?_
    first
      | refine s1 rfl (lop_move (v := .sl _ _) rfl) ?_
      | refine s1 rfl (lop_move (v := .os _ _ _ _) rfl) ?_
      | refine s1 rfl (lop_move (v := .z0) rfl) ?_
    first
      | refine s1 rfl (lop_assign (v := .sl _ _) rfl) ?_
      | refine s1 rfl (lop_assign (v := .os _ _ _ _) rfl) ?_
      | refine s1 rfl (lop_assign (v := .z0) rfl) ?_
    refine ops_nil ?_
    refine ok_ret ?_
    rw [show rowOf SpanD.enc (setL l i x) = .sl l.length ((l.set i.toNat x).flatMap SpanD.enc) by unfold rowOf setL; rw [if_neg h_t10, List.length_set]]
    exact ret_gen (R := [500]) ⟨_, _, rfl, ⟨rfl, rfl⟩, rfl⟩ (.osf (List.mem_singleton.2 rfl) rfl (by rw [flat_length SpanD.len, List.length_set]; omega) (by rw [List.drop_zero, List.take_of_length_le (by rw [flat_length SpanD.len, List.length_set]; omega)])) (fun t ht => by simp at ht; subst ht; exact Option.some_ne_none _)

theorem set_Name_ac {l : List NameD} (hl : l.length < 549755813888) {i : Int} (hi : i < l.length) (x : NameD) : AC Try.prog 64 [rowOf NameD.enc l, i64 i, .agg x.enc] (rowOf NameD.enc (setL l i x)) := by
  refine AC.intro Try.func64 rfl (Nat.le_of_ble_eq_true rfl) ?_
  refine ok_reg ?_
  first
    | refine s1w rfl (lop_box (t := 5) (v := .agg [.str _, .int _ _, .int _ _, .int _ _, .int _ _]) (f := true) (cs := [.str _, .int _ _, .int _ _, .int _ _, .int _ _]) rfl rfl rfl rfl (fun h => by cases h)) rfl ?_
    | refine s1w rfl (lop_box (t := 5) (v := .agg [.str _, .int _ _, .int _ _, .int _ _, .int _ _]) (f := false) (cs := [.str _, .int _ _, .int _ _, .int _ _, .int _ _]) rfl rfl rfl rfl (fun _ => rfl)) rfl ?_
  first
    | refine s1 rfl (lop_assign (v := .sl _ _) rfl) ?_
    | refine s1 rfl (lop_assign (v := .os _ _ _ _) rfl) ?_
    | refine s1 rfl (lop_assign (v := .z0) rfl) ?_
  refine ops_nil ?_
  refine ok_reg ?_
  first
    | refine s1 rfl (lop_move (v := .sl _ _) rfl) ?_
    | refine s1 rfl (lop_move (v := .os _ _ _ _) rfl) ?_
    | refine s1 rfl (lop_move (v := .z0) rfl) ?_
  refine s1w rfl (lop_callH (R := []) (nw := [500]) (W := [(500, some (true, l.flatMap NameD.enc))]) rfl Try.call67 rfl (clone_Name_ac (by omega)) trivial rfl rfl rfl rfl rfl rfl) rfl ?_
  first
    | refine s1 rfl (lop_assign (v := .sl _ _) rfl) ?_
    | refine s1 rfl (lop_assign (v := .os _ _ _ _) rfl) ?_
    | refine s1 rfl (lop_assign (v := .z0) rfl) ?_
  refine ops_nil ?_
  refine ok_seq ?_
  refine ok_reg ?_
  refine s1 rfl (lop_move (v := .int _ _) rfl) ?_
  refine s1 rfl (lop_lss rfl rfl) ?_
  refine ops_nil ?_
  first
    | refine ok_if _ rfl rfl (fun h_t10 => ?_) (fun h_t10 => ?_)
    | refine ok_cond rfl rfl (fun h_t10 => ?_) (fun h_t10 => ?_)
  · refine ok_reg ?_
    first
      | refine s1 rfl (lop_move (v := .sl _ _) rfl) ?_
      | refine s1 rfl (lop_move (v := .os _ _ _ _) rfl) ?_
      | refine s1 rfl (lop_move (v := .z0) rfl) ?_
    first
      | refine s1 rfl (lop_load_rf_agg (ys := [.str _, .int _ _, .int _ _, .int _ _, .int _ _]) rfl rfl Try.isAgg47 Try.sizeOf47 (Nat.le_of_ble_eq_true rfl) rfl) ?_
      | refine s1 rfl (lop_load_fp_agg (ys := [.str _, .int _ _, .int _ _, .int _ _, .int _ _]) rfl Try.isAgg47 Try.sizeOf47 (Nat.le_of_ble_eq_true rfl) rfl) ?_
    first
      | refine s1w rfl (lop_buildSlice (t := 13) (cs := [.str _, .int _ _, .int _ _, .int _ _, .int _ _]) (f := true) Try.underlying23 Try.sizeOf47 (by decide) Try.zeroValue47 rfl rfl rfl (by decide) rfl (.inr (by decide)) rfl (fun h => by cases h)) rfl ?_
      | refine s1w rfl (lop_buildSlice (t := 13) (cs := [.str _, .int _ _, .int _ _, .int _ _, .int _ _]) (f := false) Try.underlying23 Try.sizeOf47 (by decide) Try.zeroValue47 rfl rfl rfl (by decide) rfl (.inr (by decide)) rfl (fun _ => rfl)) rfl ?_
    first
      | refine s2w rfl (lop_append_os (t' := 14) rfl rfl rfl (flat_length NameD.len _) (.os Try.underlying23 (List.mem_singleton.2 rfl) rfl (Nat.le_of_ble_eq_true rfl) rfl) Try.underlying23 info47 rfl (by omega) (by omega)) rfl ?_
      | refine s1w rfl (lop_append_z0 (t' := 14) rfl rfl (.os Try.underlying23 (List.mem_singleton.2 rfl) rfl (Nat.le_of_ble_eq_true rfl) rfl) Try.underlying23 info47 rfl (by omega) (by omega)) rfl ?_
      | refine s2w rfl (lop_append_os (t' := 14) (R := []) rfl rfl rfl (flat_length NameD.len _) (.sl Try.underlying23 rfl) Try.underlying23 info47 rfl (by omega) (by omega)) rfl ?_
      | refine s1w rfl (lop_append_z0 (t' := 14) (R := []) rfl rfl (.sl Try.underlying23 rfl) Try.underlying23 info47 rfl (by omega) (by omega)) rfl ?_
      | refine s2w rfl (lop_append_os (t' := 14) (R := []) rfl rfl rfl (flat_length NameD.len _) (.z0 Try.underlying23) Try.underlying23 info47 rfl (by omega) (by omega)) rfl ?_
      | refine s1w rfl (lop_append_z0 (t' := 14) (R := []) rfl rfl (.z0 Try.underlying23) Try.underlying23 info47 rfl (by omega) (by omega)) rfl ?_
    first
      | refine s1 rfl (lop_assign (v := .sl _ _) rfl) ?_
      | refine s1 rfl (lop_assign (v := .os _ _ _ _) rfl) ?_
      | refine s1 rfl (lop_assign (v := .z0) rfl) ?_
    refine ops_nil ?_
    refine ok_ret ?_
    rw [show rowOf NameD.enc (setL l i x) = .sl (l.length + 1) (l.flatMap NameD.enc ++ x.enc) by unfold rowOf setL; rw [if_pos h_t10, List.length_append, List.flatMap_append]; simp]
    exact ret_gen (R := [14]) ⟨_, _, rfl, ⟨rfl, rfl⟩, rfl⟩ (.osf (List.mem_singleton.2 rfl) rfl (by rw [List.length_append, flat_length NameD.len]; simp only [List.take, List.drop, List.length_cons, List.length_nil]; omega) (by rw [List.drop_zero, List.take_of_length_le (by rw [List.length_append, flat_length NameD.len]; simp only [List.take, List.drop, List.length_cons, List.length_nil]; omega)]; rfl)) (fun t ht => by simp at ht; subst ht; exact Option.some_ne_none _)
  · refine ok_skip ?_
    refine ok_reg ?_
    first
      | refine s1 rfl (lop_move (v := .sl _ _) rfl) ?_
      | refine s1 rfl (lop_move (v := .os _ _ _ _) rfl) ?_
      | refine s1 rfl (lop_move (v := .z0) rfl) ?_
    refine s1 rfl (lop_move (v := .int _ _) rfl) ?_
    first
      | refine s1 rfl (lop_load_rf_agg (ys := [.str _, .int _ _, .int _ _, .int _ _, .int _ _]) rfl rfl Try.isAgg47 Try.sizeOf47 (Nat.le_of_ble_eq_true rfl) rfl) ?_
      | refine s1 rfl (lop_load_fp_agg (ys := [.str _, .int _ _, .int _ _, .int _ _, .int _ _]) rfl Try.isAgg47 Try.sizeOf47 (Nat.le_of_ble_eq_true rfl) rfl) ?_
    first
      | refine s1 rfl (lop_indexAddr_os rfl rfl Try.underlying23 Try.sizeOf47 (show _ = ((i.toNat : Nat) : Int) by omega) (by omega)) ?_
      | refine s1 rfl (lop_indexAddr_sl rfl rfl Try.underlying23 Try.sizeOf47 (show _ = ((i.toNat : Nat) : Int) by omega) (by omega) rfl (by omega)) ?_
    refine s0w rfl (lop_store (v := .agg [.str _, .int _ _, .int _ _, .int _ _, .int _ _]) rfl rfl rfl Try.sizeOf47 rfl rfl (flat_fit NameD.len (by omega))) ?_
    refine ops_le (T := ⟨[(0, .os 500 0 5 l.length)], [(500, some (true, (l.set i.toNat x).flatMap NameD.enc))], 20⟩) (le_mk ⟨rfl, trivial⟩ ⟨.inr (by rw [← flat_set NameD.len (by omega)]; rfl), trivial⟩ rfl) ?_
    refine ops_nil ?_
    refine ok_reg ?_
    first
      | refine s1 rfl (lop_move (v := .sl _ _) rfl) ?_
      | refine s1 rfl (lop_move (v := .os _ _ _ _) rfl) ?_
      | refine s1 rfl (lop_move (v := .z0) rfl) ?_
    first
      | refine s1 rfl (lop_assign (v := .sl _ _) rfl) ?_
      | refine s1 rfl (lop_assign (v := .os _ _ _ _) rfl) ?_
      | refine s1 rfl (lop_assign (v := .z0) rfl) ?_
    refine ops_nil ?_
    refine ok_ret ?_
    rw [show rowOf NameD.enc (setL l i x) = .sl l.length ((l.set i.toNat x).flatMap NameD.enc) by unfold rowOf setL; rw [if_neg h_t10, List.length_set]]
    exact ret_gen (R := [500]) ⟨_, _, rfl, ⟨rfl, rfl⟩, rfl⟩ (.osf (List.mem_singleton.2 rfl) rfl (by rw [flat_length NameD.len, List.length_set]; omega) (by rw [List.drop_zero, List.take_of_length_le (by rw [flat_length NameD.len, List.length_set]; omega)])) (fun t ht => by simp at ht; subst ht; exact Option.some_ne_none _)

theorem set_Place_ac {l : List PlD} (hl : l.length < 549755813888) {i : Int} (hi : i < l.length) (x : PlD) : AC Try.prog 71 [rowOf PlD.enc l, i64 i, .agg x.enc] (rowOf PlD.enc (setL l i x)) := by
  refine AC.intro Try.func71 rfl (Nat.le_of_ble_eq_true rfl) ?_
  refine ok_reg ?_
  first
    | refine s1w rfl (lop_box (t := 5) (v := .agg [.int _ _, .int _ _]) (f := true) (cs := [.int _ _, .int _ _]) rfl rfl rfl rfl (fun h => by cases h)) rfl ?_
    | refine s1w rfl (lop_box (t := 5) (v := .agg [.int _ _, .int _ _]) (f := false) (cs := [.int _ _, .int _ _]) rfl rfl rfl rfl (fun _ => rfl)) rfl ?_
  first
    | refine s1 rfl (lop_assign (v := .sl _ _) rfl) ?_
    | refine s1 rfl (lop_assign (v := .os _ _ _ _) rfl) ?_
    | refine s1 rfl (lop_assign (v := .z0) rfl) ?_
  refine ops_nil ?_
  refine ok_reg ?_
  first
    | refine s1 rfl (lop_move (v := .sl _ _) rfl) ?_
    | refine s1 rfl (lop_move (v := .os _ _ _ _) rfl) ?_
    | refine s1 rfl (lop_move (v := .z0) rfl) ?_
  refine s1w rfl (lop_callH (R := []) (nw := [500]) (W := [(500, some (true, l.flatMap PlD.enc))]) rfl Try.call80 rfl (clone_Place_ac (by omega)) trivial rfl rfl rfl rfl rfl rfl) rfl ?_
  first
    | refine s1 rfl (lop_assign (v := .sl _ _) rfl) ?_
    | refine s1 rfl (lop_assign (v := .os _ _ _ _) rfl) ?_
    | refine s1 rfl (lop_assign (v := .z0) rfl) ?_
  refine ops_nil ?_
  refine ok_seq ?_
  refine ok_reg ?_
  refine s1 rfl (lop_move (v := .int _ _) rfl) ?_
  refine s1 rfl (lop_lss rfl rfl) ?_
  refine ops_nil ?_
  first
    | refine ok_if _ rfl rfl (fun h_t10 => ?_) (fun h_t10 => ?_)
    | refine ok_cond rfl rfl (fun h_t10 => ?_) (fun h_t10 => ?_)
  · refine ok_reg ?_
    first
      | refine s1 rfl (lop_move (v := .sl _ _) rfl) ?_
      | refine s1 rfl (lop_move (v := .os _ _ _ _) rfl) ?_
      | refine s1 rfl (lop_move (v := .z0) rfl) ?_
    first
      | refine s1 rfl (lop_load_rf_agg (ys := [.int _ _, .int _ _]) rfl rfl Try.isAgg57 Try.sizeOf57 (Nat.le_of_ble_eq_true rfl) rfl) ?_
      | refine s1 rfl (lop_load_fp_agg (ys := [.int _ _, .int _ _]) rfl Try.isAgg57 Try.sizeOf57 (Nat.le_of_ble_eq_true rfl) rfl) ?_
    first
      | refine s1w rfl (lop_buildSlice (t := 13) (cs := [.int _ _, .int _ _]) (f := true) Try.underlying28 Try.sizeOf57 (by decide) Try.zeroValue57 rfl rfl rfl (by decide) rfl (.inr (by decide)) rfl (fun h => by cases h)) rfl ?_
      | refine s1w rfl (lop_buildSlice (t := 13) (cs := [.int _ _, .int _ _]) (f := false) Try.underlying28 Try.sizeOf57 (by decide) Try.zeroValue57 rfl rfl rfl (by decide) rfl (.inr (by decide)) rfl (fun _ => rfl)) rfl ?_
    first
      | refine s2w rfl (lop_append_os (t' := 14) rfl rfl rfl (flat_length PlD.len _) (.os Try.underlying28 (List.mem_singleton.2 rfl) rfl (Nat.le_of_ble_eq_true rfl) rfl) Try.underlying28 info57 rfl (by omega) (by omega)) rfl ?_
      | refine s1w rfl (lop_append_z0 (t' := 14) rfl rfl (.os Try.underlying28 (List.mem_singleton.2 rfl) rfl (Nat.le_of_ble_eq_true rfl) rfl) Try.underlying28 info57 rfl (by omega) (by omega)) rfl ?_
      | refine s2w rfl (lop_append_os (t' := 14) (R := []) rfl rfl rfl (flat_length PlD.len _) (.sl Try.underlying28 rfl) Try.underlying28 info57 rfl (by omega) (by omega)) rfl ?_
      | refine s1w rfl (lop_append_z0 (t' := 14) (R := []) rfl rfl (.sl Try.underlying28 rfl) Try.underlying28 info57 rfl (by omega) (by omega)) rfl ?_
      | refine s2w rfl (lop_append_os (t' := 14) (R := []) rfl rfl rfl (flat_length PlD.len _) (.z0 Try.underlying28) Try.underlying28 info57 rfl (by omega) (by omega)) rfl ?_
      | refine s1w rfl (lop_append_z0 (t' := 14) (R := []) rfl rfl (.z0 Try.underlying28) Try.underlying28 info57 rfl (by omega) (by omega)) rfl ?_
    first
      | refine s1 rfl (lop_assign (v := .sl _ _) rfl) ?_
      | refine s1 rfl (lop_assign (v := .os _ _ _ _) rfl) ?_
      | refine s1 rfl (lop_assign (v := .z0) rfl) ?_
    refine ops_nil ?_
    refine ok_ret ?_
    rw [show rowOf PlD.enc (setL l i x) = .sl (l.length + 1) (l.flatMap PlD.enc ++ x.enc) by unfold rowOf setL; rw [if_pos h_t10, List.length_append, List.flatMap_append]; simp]
    exact ret_gen (R := [14]) ⟨_, _, rfl, ⟨rfl, rfl⟩, rfl⟩ (.osf (List.mem_singleton.2 rfl) rfl (by rw [List.length_append, flat_length PlD.len]; simp only [List.take, List.drop, List.length_cons, List.length_nil]; omega) (by rw [List.drop_zero, List.take_of_length_le (by rw [List.length_append, flat_length PlD.len]; simp only [List.take, List.drop, List.length_cons, List.length_nil]; omega)]; rfl)) (fun t ht => by simp at ht; subst ht; exact Option.some_ne_none _)
  · refine ok_skip ?_
    refine ok_reg ?_
    first
      | refine s1 rfl (lop_move (v := .sl _ _) rfl) ?_
      | refine s1 rfl (lop_move (v := .os _ _ _ _) rfl) ?_
      | refine s1 rfl (lop_move (v := .z0) rfl) ?_
    refine s1 rfl (lop_move (v := .int _ _) rfl) ?_
    first
      | refine s1 rfl (lop_load_rf_agg (ys := [.int _ _, .int _ _]) rfl rfl Try.isAgg57 Try.sizeOf57 (Nat.le_of_ble_eq_true rfl) rfl) ?_
      | refine s1 rfl (lop_load_fp_agg (ys := [.int _ _, .int _ _]) rfl Try.isAgg57 Try.sizeOf57 (Nat.le_of_ble_eq_true rfl) rfl) ?_
    first
      | refine s1 rfl (lop_indexAddr_os rfl rfl Try.underlying28 Try.sizeOf57 (show _ = ((i.toNat : Nat) : Int) by omega) (by omega)) ?_
      | refine s1 rfl (lop_indexAddr_sl rfl rfl Try.underlying28 Try.sizeOf57 (show _ = ((i.toNat : Nat) : Int) by omega) (by omega) rfl (by omega)) ?_
    refine s0w rfl (lop_store (v := .agg [.int _ _, .int _ _]) rfl rfl rfl Try.sizeOf57 rfl rfl (flat_fit PlD.len (by omega))) ?_
    refine ops_le (T := ⟨[(0, .os 500 0 2 l.length)], [(500, some (true, (l.set i.toNat x).flatMap PlD.enc))], 20⟩) (le_mk ⟨rfl, trivial⟩ ⟨.inr (by rw [← flat_set PlD.len (by omega)]; rfl), trivial⟩ rfl) ?_
    refine ops_nil ?_
    refine ok_reg ?_
    first
      | refine s1 rfl (lop_move (v := .sl _ _) rfl) ?_
      | refine s1 rfl (lop_move (v := .os _ _ _ _) rfl) ?_
      | refine s1 rfl (lop_move (v := .z0) rfl) ?_
    first
      | refine s1 rfl (lop_assign (v := .sl _ _) rfl) ?_
      | refine s1 rfl (lop_assign (v := .os _ _ _ _) rfl) ?_
      | refine s1 rfl (lop_assign (v := .z0) rfl) ?_
    refine ops_nil ?_
    refine ok_ret ?_
    rw [show rowOf PlD.enc (setL l i x) = .sl l.length ((l.set i.toNat x).flatMap PlD.enc) by unfold rowOf setL; rw [if_neg h_t10, List.length_set]]
    exact ret_gen (R := [500]) ⟨_, _, rfl, ⟨rfl, rfl⟩, rfl⟩ (.osf (List.mem_singleton.2 rfl) rfl (by rw [flat_length PlD.len, List.length_set]; omega) (by rw [List.drop_zero, List.take_of_length_le (by rw [flat_length PlD.len, List.length_set]; omega)])) (fun t ht => by simp at ht; subst ht; exact Option.some_ne_none _)

theorem site_Third_ac (a b : Int) : AC Try.prog 61 [i64 a, i64 b] (.tup [i64 (thirdF a b).1, i64 (thirdF a b).2]) := by
  refine AC.intro Try.func61 rfl (Nat.le_of_ble_eq_true rfl) ?_
  refine ok_reg ?_
  refine s1 rfl (lop_assign (v := .int _ _) rfl) ?_
  refine s1 rfl (lop_assign (v := .int _ _) rfl) ?_
  refine ops_nil ?_
  refine ok_seq ?_
  refine ok_reg ?_
  refine s1 rfl (lop_move (v := .int _ _) rfl) ?_
  refine s1 rfl (lop_call rfl Try.call74 (FrzL.tf rfl) (.inl rfl) (site_region_ac a)) ?_
  refine s1 rfl (lop_not rfl) ?_
  refine s1 rfl (lop_move (v := .bool _) rfl) ?_
  first
    | refine gsplitP 3 rfl rfl (fun g1_3 p1_3 => ?_) (fun g1_3 p1_3 => ?_)
    | refine gsplitB 3 rfl rfl (fun g1_3 p1_3 => ?_) (fun g1_3 p1_3 => ?_)
  · refine n1 rfl rfl g1_3 ?_
    refine n1 rfl rfl g1_3 ?_
    refine n1 rfl rfl g1_3 ?_
    first
      | refine s1 rfl (lop_pick_t (v := .bool _) rfl g1_3 rfl) ?_
      | refine s1 rfl (lop_pick_t (v := .bool _) rfl rfl rfl) ?_
      | refine s1 rfl (lop_pick_f (v := .bool _) rfl rfl rfl) ?_
      | refine s1 rfl (lop_pick rfl rfl rfl) ?_
    refine s1 rfl (lop_move (v := .bool _) rfl) ?_
    refine n1 rfl rfl rfl ?_
    refine n1 rfl rfl rfl ?_
    refine n1 rfl rfl rfl ?_
    first
      | refine s1 rfl (lop_pick_t (v := .bool _) rfl g1_3 rfl) ?_
      | refine s1 rfl (lop_pick_t (v := .bool _) rfl rfl rfl) ?_
      | refine s1 rfl (lop_pick_t (v := .bool _) rfl rfl rfl) ?_
      | refine s1 rfl (lop_pick_f (v := .bool _) rfl rfl rfl) ?_
      | refine s1 rfl (lop_pick rfl rfl rfl) ?_
    refine ops_nil ?_
    refine ok_true rfl rfl ?_
    refine ok_reg ?_
    refine s1 rfl (lop_assign (v := .int _ _) rfl) ?_
    refine s1 rfl (lop_assign (v := .int _ _) rfl) ?_
    refine ops_nil ?_
    refine ok_ret ?_
    exact ret_gen (R := []) ⟨_, _, rfl, ⟨rfl, rfl⟩, _, _, rfl, ⟨rfl, rfl⟩, rfl⟩ (by rw [show thirdF a b = (0, 1) by unfold thirdF; rw [if_neg (by first | omega | (simp at *; omega))]]; exact .tup (.cons (.tf rfl) (.cons (.tf rfl) .nil))) (fun t h => by cases h)
  · refine y1 rfl rfl g1_3 rfl (lop_move (v := .int _ _) rfl) ?_
    refine y1 rfl rfl g1_3 rfl (lop_call rfl Try.call74 (FrzL.tf rfl) (.inl rfl) (site_region_ac b)) ?_
    refine y1 rfl rfl g1_3 rfl (lop_not rfl) ?_
    first
      | refine s1 rfl (lop_pick_f (v := .bool _) rfl g1_3 rfl) ?_
      | refine s1 rfl (lop_pick_t (v := .bool _) rfl rfl rfl) ?_
      | refine s1 rfl (lop_pick_f (v := .bool _) rfl rfl rfl) ?_
      | refine s1 rfl (lop_pick rfl rfl rfl) ?_
    refine s1 rfl (lop_move (v := .bool _) rfl) ?_
    first
      | refine gsplitP 8 rfl rfl (fun g1_8 p1_8 => ?_) (fun g1_8 p1_8 => ?_)
      | refine gsplitB 8 rfl rfl (fun g1_8 p1_8 => ?_) (fun g1_8 p1_8 => ?_)
    · refine n1 rfl rfl g1_8 ?_
      refine n1 rfl rfl g1_8 ?_
      refine n1 rfl rfl g1_8 ?_
      first
        | refine s1 rfl (lop_pick_f (v := .bool _) rfl g1_3 rfl) ?_
        | refine s1 rfl (lop_pick_t (v := .bool _) rfl g1_8 rfl) ?_
        | refine s1 rfl (lop_pick_t (v := .bool _) rfl rfl rfl) ?_
        | refine s1 rfl (lop_pick_f (v := .bool _) rfl rfl rfl) ?_
        | refine s1 rfl (lop_pick rfl rfl rfl) ?_
      refine ops_nil ?_
      refine ok_true rfl rfl ?_
      refine ok_reg ?_
      refine s1 rfl (lop_assign (v := .int _ _) rfl) ?_
      refine s1 rfl (lop_assign (v := .int _ _) rfl) ?_
      refine ops_nil ?_
      refine ok_ret ?_
      exact ret_gen (R := []) ⟨_, _, rfl, ⟨rfl, rfl⟩, _, _, rfl, ⟨rfl, rfl⟩, rfl⟩ (by rw [show thirdF a b = (0, 1) by unfold thirdF; rw [if_neg (by first | omega | (simp at *; omega))]]; exact .tup (.cons (.tf rfl) (.cons (.tf rfl) .nil))) (fun t h => by cases h)
    · refine y1 rfl rfl g1_8 rfl (lop_move (v := .int _ _) rfl) ?_
      refine y1 rfl rfl g1_8 rfl (lop_move (v := .int _ _) rfl) ?_
      refine y1 rfl rfl g1_8 rfl (lop_eql rfl rfl) ?_
      first
        | refine s1 rfl (lop_pick_f (v := .bool _) rfl g1_3 rfl) ?_
        | refine s1 rfl (lop_pick_f (v := .bool _) rfl g1_8 rfl) ?_
        | refine s1 rfl (lop_pick_t (v := .bool _) rfl rfl rfl) ?_
        | refine s1 rfl (lop_pick_f (v := .bool _) rfl rfl rfl) ?_
        | refine s1 rfl (lop_pick rfl rfl rfl) ?_
      refine ops_nil ?_
      first
        | refine ok_if _ rfl rfl (fun h_t18 => ?_) (fun h_t18 => ?_)
        | refine ok_cond rfl rfl (fun h_t18 => ?_) (fun h_t18 => ?_)
      · refine ok_reg ?_
        refine s1 rfl (lop_assign (v := .int _ _) rfl) ?_
        refine s1 rfl (lop_assign (v := .int _ _) rfl) ?_
        refine ops_nil ?_
        refine ok_ret ?_
        exact ret_gen (R := []) ⟨_, _, rfl, ⟨rfl, rfl⟩, _, _, rfl, ⟨rfl, rfl⟩, rfl⟩ (by rw [show thirdF a b = (0, 1) by unfold thirdF; rw [if_neg (by first | omega | (simp at *; omega))]]; exact .tup (.cons (.tf rfl) (.cons (.tf rfl) .nil))) (fun t h => by cases h)
      · refine ok_skip ?_
        refine ok_reg ?_
        refine s1 rfl (lop_move (v := .int _ _) rfl) ?_
        have h3 : 1 ≤ a ∧ a ≤ 3 := by simpa using p1_3
        have h4 : 1 ≤ b ∧ b ≤ 3 := by simpa using p1_8
        refine s1 rfl (lop_bop rfl rfl rfl (bop_sub (by omega) (by omega))) ?_
        refine s1 rfl (lop_move (v := .int _ _) rfl) ?_
        refine s1 rfl (lop_bop rfl rfl rfl (bop_sub (by omega) (by omega))) ?_
        refine s1 rfl (lop_assign (v := .int _ _) rfl) ?_
        refine s1 rfl (lop_assign (v := .int _ _) rfl) ?_
        refine ops_nil ?_
        refine ok_ret ?_
        exact ret_gen (R := []) ⟨_, _, rfl, ⟨rfl, rfl⟩, _, _, rfl, ⟨rfl, rfl⟩, rfl⟩ (by rw [show thirdF a b = (6 - a - b, 0) by unfold thirdF; rw [if_pos (by first | omega | (simp at *; omega))]]; exact .tup (.cons (.tf rfl) (.cons (.tf rfl) .nil))) (fun t h => by cases h)

theorem index_Place_ac {l : List PlD} (hl : l.length ≤ 549755813888) (k : PlD) : AC Try.prog 79 [rowOf PlD.enc l, .agg k.enc] (i64 (idxOf (fun x => decide (k = x)) l)) := by
  refine AC.intro Try.func79 rfl (Nat.le_of_ble_eq_true rfl) ?_
  refine ok_reg ?_
  first
    | refine s1w rfl (lop_box (t := 3) (v := .agg [.int _ _, .int _ _]) (f := true) (cs := [.int _ _, .int _ _]) rfl rfl rfl rfl (fun h => by cases h)) rfl ?_
    | refine s1w rfl (lop_box (t := 3) (v := .agg [.int _ _, .int _ _]) (f := false) (cs := [.int _ _, .int _ _]) rfl rfl rfl rfl (fun _ => rfl)) rfl ?_
  refine s1 rfl (lop_assign (v := .int _ _) rfl) ?_
  refine ops_nil ?_
  refine ok_seq ?_
  refine ok_reg ?_
  first
    | refine s1 rfl (lop_move (v := .sl _ _) rfl) ?_
    | refine s1 rfl (lop_move (v := .os _ _ _ _) rfl) ?_
    | refine s1 rfl (lop_move (v := .z0) rfl) ?_
  refine s1 rfl (lop_len rfl Try.underlying28 ⟨⟨_, rfl⟩, rfl⟩) ?_
  refine s1 rfl (lop_move (v := .int _ _) rfl) ?_
  refine ops_nil ?_
  refine ok_block ?_
  refine ok_loop (ι := {i : Nat // i ≤ l.length ∧ ∀ j, (h : j < l.length) → j < i → (fun x => decide (k = x)) l[j] = false}) (fun i => ⟨[(0, rowOf PlD.enc l), (3, .rf 3 0), (7, i64 l.length), (8, i64 i.1)], [(3, some (true, k.enc))], 19⟩) (fun i => l.length - i.1) (⟨0, Nat.zero_le _, fun _ _ h => absurd h (Nat.not_lt_zero _)⟩) ?_ ?_
  · exact le_mk ⟨rfl, rfl, rfl, rfl, trivial⟩ ⟨.inr rfl, trivial⟩ rfl
  rintro ⟨i, hi, hn⟩
  dsimp only
  refine ok_reg ?_
  refine s1 rfl (lop_lss rfl rfl) ?_
  refine ops_nil ?_
  refine ok_seq ?_
  first
    | refine ok_if _ rfl rfl (fun h_t9 => ?_) (fun h_t9 => ?_)
    | refine ok_cond rfl rfl (fun h_t9 => ?_) (fun h_t9 => ?_)
  · have h_t9 : i < l.length := by simpa using h_t9
    refine ok_skip ?_
    refine ok_seq ?_
    refine ok_block ?_
    refine ok_reg ?_
    refine s1 rfl (lop_move (v := .int _ _) rfl) ?_
    refine s1 rfl (lop_assign (v := .int _ _) rfl) ?_
    refine ops_nil ?_
    refine ok_drw Try.mixed ?_
    first
      | refine d1 rfl rfl (lop_load_rf_agg (ys := [.int _ _, .int _ _]) rfl rfl Try.isAgg57 Try.sizeOf57 (Nat.le_of_ble_eq_true rfl) rfl) ?_
      | refine d1 rfl rfl (lop_load_fp_agg (ys := [.int _ _, .int _ _]) rfl Try.isAgg57 Try.sizeOf57 (Nat.le_of_ble_eq_true rfl) rfl) ?_
    first
      | refine d1 rfl rfl (lop_move (v := .sl _ _) rfl) ?_
      | refine d1 rfl rfl (lop_move (v := .os _ _ _ _) rfl) ?_
      | refine d1 rfl rfl (lop_move (v := .z0) rfl) ?_
    refine d1 rfl rfl (lop_move (v := .int _ _) rfl) ?_
    first
      | refine d1 rfl rfl (lop_indexAddr_os rfl rfl Try.underlying28 Try.sizeOf57 rfl h_t9) ?_
      | refine d1 rfl rfl (lop_indexAddr_sl rfl rfl Try.underlying28 Try.sizeOf57 rfl h_t9 (flat_at PlD.len h_t9) (flat_ne PlD.len (by decide) h_t9)) ?_
    first
      | refine d1 rfl rfl (lop_load_rf_agg rfl rfl Try.isAgg57 Try.sizeOf57 (by rw [List.length_append, PlD.len]; omega) (by rw [List.take_append_of_le_length (by rw [PlD.len]; omega), List.take_of_length_le (by rw [PlD.len]; omega)])) ?_
      | refine d1 rfl rfl (lop_load_fp_agg rfl Try.isAgg57 Try.sizeOf57 (by rw [List.length_append, PlD.len]; omega) (by rw [List.take_append_of_le_length (by rw [PlD.len]; omega), List.take_of_length_le (by rw [PlD.len]; omega)])) ?_
    refine d1 rfl rfl (lop_aeql rfl rfl rfl rfl eqg57 (eq57 _ _ _ _)) ?_
    refine dr_nil (by kernel_rfl) ?_
    first
      | refine ok_if _ rfl rfl (fun h_t16 => ?_) (fun h_t16 => ?_)
      | refine ok_cond rfl rfl (fun h_t16 => ?_) (fun h_t16 => ?_)
    · refine ok_reg ?_
      refine s1 rfl (lop_move (v := .int _ _) rfl) ?_
      refine s1 rfl (lop_assign (v := .int _ _) rfl) ?_
      refine ops_nil ?_
      refine ok_ret ?_
      exact ret_one rfl rfl rfl rfl (congrArg i64 (idxOf_at (p := fun x => decide (k = x)) h_t9 (decide_eq_true ((PlD.eq_iff _ _).1 h_t16)) hn))
    · refine ok_skip ?_
      refine ok_region ?_
      refine s1 rfl (lop_bop rfl rfl rfl (bop_add (by omega) (by omega))) ?_
      refine s1 rfl (lop_move (v := .int _ _) rfl) ?_
      refine ops_nil ?_
      exact ⟨⟨i + 1, by omega, none_step (p := fun x => decide (k = x)) hn h_t9 (decide_eq_false (fun e => h_t16 ((PlD.eq_iff _ _).2 e)))⟩, by simp only; omega, le_mk ⟨rfl, rfl, rfl, rfl, trivial⟩ ⟨.inr rfl, trivial⟩ rfl⟩
  · refine ok_exit ?_
    refine ok_reg ?_
    refine s1 rfl (lop_assign (v := .int _ _) rfl) ?_
    refine ops_nil ?_
    refine ok_ret ?_
    exact ret_one rfl rfl rfl rfl (congrArg i64 (idxOf_no (p := fun x => decide (k = x)) fun j hj => hn j hj (by omega)))

theorem contains_Place_ac {l : List PlD} (hl : l.length ≤ 549755813888) (k : PlD) : AC Try.prog 70 [rowOf PlD.enc l, .agg k.enc] (.bool (l.any (fun x => decide (k = x)))) := by
  refine AC.intro Try.func70 rfl (Nat.le_of_ble_eq_true rfl) ?_
  refine ok_reg ?_
  first
    | refine s1w rfl (lop_box (t := 3) (v := .agg [.int _ _, .int _ _]) (f := true) (cs := [.int _ _, .int _ _]) rfl rfl rfl rfl (fun h => by cases h)) rfl ?_
    | refine s1w rfl (lop_box (t := 3) (v := .agg [.int _ _, .int _ _]) (f := false) (cs := [.int _ _, .int _ _]) rfl rfl rfl rfl (fun _ => rfl)) rfl ?_
  refine s1 rfl (lop_assign (v := .bool _) rfl) ?_
  refine ops_nil ?_
  refine ok_reg ?_
  first
    | refine s1 rfl (lop_move (v := .sl _ _) rfl) ?_
    | refine s1 rfl (lop_move (v := .os _ _ _ _) rfl) ?_
    | refine s1 rfl (lop_move (v := .z0) rfl) ?_
  first
    | refine s1 rfl (lop_load_rf_agg (ys := [.int _ _, .int _ _]) rfl rfl Try.isAgg57 Try.sizeOf57 (Nat.le_of_ble_eq_true rfl) rfl) ?_
    | refine s1 rfl (lop_load_fp_agg (ys := [.int _ _, .int _ _]) rfl Try.isAgg57 Try.sizeOf57 (Nat.le_of_ble_eq_true rfl) rfl) ?_
  refine s1 rfl (lop_call rfl Try.call79 (FrzL.tf rfl) (.inl rfl) (index_Place_ac hl k)) ?_
  refine s1 rfl (lop_geq rfl rfl) ?_
  refine s1 rfl (lop_assign (v := .bool _) rfl) ?_
  refine ops_nil ?_
  refine ok_ret ?_
  exact ret_one rfl rfl rfl rfl (congrArg V.bool (idxOf_any (fun x => decide (k = x)) l))

end Go.Proofs
