/- Chapter 15: walks. Printed by gen.py. -/
import Derived.Test.YtajlkpogccbboaaD15
set_option linter.unusedVariables false
set_option linter.unusedSimpArgs false
set_option maxRecDepth 100000
namespace Go.Proofs
open Go.Hg

theorem site_region_ac (r : Int) : AC Try.prog 74 [i64 r] (.bool (decide (1 ≤ r ∧ r ≤ 3))) := by
  refine AC.intro Try.func74 rfl (Nat.le_of_ble_eq_true rfl) ?_
  refine ok_reg ?_
  refine s1 rfl (lop_assign (v := .bool _) rfl) ?_
  refine ops_nil ?_
  refine ok_reg ?_
  refine s1 rfl (lop_move (v := .int _ _) rfl) ?_
  refine s1 rfl (lop_geq rfl rfl) ?_
  refine s1 rfl (lop_move (v := .bool _) rfl) ?_
  first
    | refine gsplitP 2 rfl rfl (fun g1_2 p1_2 => ?_) (fun g1_2 p1_2 => ?_)
    | refine gsplitB 2 rfl rfl (fun g1_2 p1_2 => ?_) (fun g1_2 p1_2 => ?_)
  · refine y1 rfl rfl g1_2 rfl (lop_move (v := .int _ _) rfl) ?_
    refine y1 rfl rfl g1_2 rfl (lop_leq rfl rfl) ?_
    first
      | refine s1 rfl (lop_pick_t (v := .bool _) rfl g1_2 rfl) ?_
      | refine s1 rfl (lop_pick_t (v := .bool _) rfl rfl rfl) ?_
      | refine s1 rfl (lop_pick_f (v := .bool _) rfl rfl rfl) ?_
      | refine s1 rfl (lop_pick rfl rfl rfl) ?_
    refine s1 rfl (lop_assign (v := .bool _) rfl) ?_
    refine ops_nil ?_
    refine ok_ret ?_
    exact ret_one rfl rfl rfl rfl (congrArg V.bool (by first | (refine decide_eq_decide.2 ?_; omega) | (refine (decide_eq_false ?_).symm; omega)))
  · refine n1 rfl rfl g1_2 ?_
    refine n1 rfl rfl g1_2 ?_
    first
      | refine s1 rfl (lop_pick_f (v := .bool _) rfl g1_2 rfl) ?_
      | refine s1 rfl (lop_pick_t (v := .bool _) rfl rfl rfl) ?_
      | refine s1 rfl (lop_pick_f (v := .bool _) rfl rfl rfl) ?_
      | refine s1 rfl (lop_pick rfl rfl rfl) ?_
    refine s1 rfl (lop_assign (v := .bool _) rfl) ?_
    refine ops_nil ?_
    refine ok_ret ?_
    exact ret_one rfl rfl rfl rfl (congrArg V.bool (by first | (refine decide_eq_decide.2 ?_; omega) | (refine (decide_eq_false ?_).symm; omega)))

theorem small_ac (n : Int) : AC Try.prog 38 [i64 n] (.bool (small n)) := by
  refine AC.intro Try.func38 rfl (Nat.le_of_ble_eq_true rfl) ?_
  refine ok_reg ?_
  refine s1 rfl (lop_assign (v := .bool _) rfl) ?_
  refine ops_nil ?_
  refine ok_reg ?_
  refine s1 rfl (lop_move (v := .int _ _) rfl) ?_
  refine s1 rfl (lop_geq rfl rfl) ?_
  refine s1 rfl (lop_move (v := .bool _) rfl) ?_
  first
    | refine gsplitP 2 rfl rfl (fun g1_2 p1_2 => ?_) (fun g1_2 p1_2 => ?_)
    | refine gsplitB 2 rfl rfl (fun g1_2 p1_2 => ?_) (fun g1_2 p1_2 => ?_)
  · refine y1 rfl rfl g1_2 rfl (lop_move (v := .int _ _) rfl) ?_
    refine y1 rfl rfl g1_2 rfl (lop_leq rfl rfl) ?_
    first
      | refine s1 rfl (lop_pick_t (v := .bool _) rfl g1_2 rfl) ?_
      | refine s1 rfl (lop_pick_t (v := .bool _) rfl rfl rfl) ?_
      | refine s1 rfl (lop_pick_f (v := .bool _) rfl rfl rfl) ?_
      | refine s1 rfl (lop_pick rfl rfl rfl) ?_
    refine s1 rfl (lop_assign (v := .bool _) rfl) ?_
    refine ops_nil ?_
    refine ok_ret ?_
    exact ret_one rfl rfl rfl rfl (congrArg V.bool (by unfold small; first | (refine decide_eq_decide.2 ?_; omega) | (refine (decide_eq_false ?_).symm; omega)))
  · refine n1 rfl rfl g1_2 ?_
    refine n1 rfl rfl g1_2 ?_
    first
      | refine s1 rfl (lop_pick_f (v := .bool _) rfl g1_2 rfl) ?_
      | refine s1 rfl (lop_pick_t (v := .bool _) rfl rfl rfl) ?_
      | refine s1 rfl (lop_pick_f (v := .bool _) rfl rfl rfl) ?_
      | refine s1 rfl (lop_pick rfl rfl rfl) ?_
    refine s1 rfl (lop_assign (v := .bool _) rfl) ?_
    refine ops_nil ?_
    refine ok_ret ?_
    exact ret_one rfl rfl rfl rfl (congrArg V.bool (by unfold small; first | (refine decide_eq_decide.2 ?_; omega) | (refine (decide_eq_false ?_).symm; omega)))

theorem big_ac (n : Int) : AC Try.prog 37 [i64 n] (.bool (!small n)) := by
  refine AC.intro Try.func37 rfl (Nat.le_of_ble_eq_true rfl) ?_
  refine ok_reg ?_
  refine s1 rfl (lop_assign (v := .bool _) rfl) ?_
  refine ops_nil ?_
  refine ok_reg ?_
  refine s1 rfl (lop_move (v := .int _ _) rfl) ?_
  refine s1 rfl (lop_call rfl Try.call38 (FrzL.tf rfl) (.inl rfl) (small_ac n)) ?_
  refine s1 rfl (lop_not rfl) ?_
  refine s1 rfl (lop_assign (v := .bool _) rfl) ?_
  refine ops_nil ?_
  refine ok_ret ?_
  exact ret_one rfl rfl rfl rfl rfl

theorem odd_ac (p : PlD) : AC Try.prog 36 [.agg p.enc] (.bool (oddP p)) := by
  refine AC.intro Try.func36 rfl (Nat.le_of_ble_eq_true rfl) ?_
  refine ok_reg ?_
  first
    | refine s1w rfl (lop_box (t := 1) (v := .agg [.int _ _, .int _ _]) (f := true) (cs := [.int _ _, .int _ _]) rfl rfl rfl rfl (fun h => by cases h)) rfl ?_
    | refine s1w rfl (lop_box (t := 1) (v := .agg [.int _ _, .int _ _]) (f := false) (cs := [.int _ _, .int _ _]) rfl rfl rfl rfl (fun _ => rfl)) rfl ?_
  refine s1 rfl (lop_assign (v := .bool _) rfl) ?_
  refine ops_nil ?_
  refine ok_reg ?_
  first
    | refine s1 rfl (lop_fieldAddr_rf (fo := 0) rfl Try.underlying57 rfl rfl Try.sizeOf3 (by decide)) ?_
    | refine s1 rfl (lop_fieldAddr_fp (fo := 0) rfl Try.underlying57 rfl rfl Try.sizeOf3 (by decide) rfl) ?_
  first
    | refine s1 rfl (lop_load_rf rfl rfl Try.isAgg3 rfl) ?_
    | refine s1 rfl (lop_load_fp rfl Try.isAgg3 rfl) ?_
  refine s1 rfl (lop_lss rfl rfl) ?_
  refine s1 rfl (lop_move (v := .bool _) rfl) ?_
  first
    | refine gsplitP 3 rfl rfl (fun g1_3 p1_3 => ?_) (fun g1_3 p1_3 => ?_)
    | refine gsplitB 3 rfl rfl (fun g1_3 p1_3 => ?_) (fun g1_3 p1_3 => ?_)
  · refine n1 rfl rfl g1_3 ?_
    refine n1 rfl rfl g1_3 ?_
    refine n1 rfl rfl g1_3 ?_
    first
      | refine s1 rfl (lop_pick_t (v := .bool _) rfl g1_3 rfl) ?_
      | refine s1 rfl (lop_pick_t (v := .bool _) rfl rfl rfl) ?_
      | refine s1 rfl (lop_pick_f (v := .bool _) rfl rfl rfl) ?_
      | refine s1 rfl (lop_pick rfl rfl rfl) ?_
    refine s1 rfl (lop_move (v := .bool _) rfl) ?_
    refine n1 rfl rfl rfl ?_
    refine n1 rfl rfl rfl ?_
    refine n1 rfl rfl rfl ?_
    first
      | refine s1 rfl (lop_pick_t (v := .bool _) rfl g1_3 rfl) ?_
      | refine s1 rfl (lop_pick_t (v := .bool _) rfl rfl rfl) ?_
      | refine s1 rfl (lop_pick_t (v := .bool _) rfl rfl rfl) ?_
      | refine s1 rfl (lop_pick_f (v := .bool _) rfl rfl rfl) ?_
      | refine s1 rfl (lop_pick rfl rfl rfl) ?_
    refine s1 rfl (lop_move (v := .bool _) rfl) ?_
    refine n1 rfl rfl rfl ?_
    refine n1 rfl rfl rfl ?_
    refine n1 rfl rfl rfl ?_
    first
      | refine s1 rfl (lop_pick_t (v := .bool _) rfl g1_3 rfl) ?_
      | refine s1 rfl (lop_pick_t (v := .bool _) rfl rfl rfl) ?_
      | refine s1 rfl (lop_pick_t (v := .bool _) rfl rfl rfl) ?_
      | refine s1 rfl (lop_pick_t (v := .bool _) rfl rfl rfl) ?_
      | refine s1 rfl (lop_pick_f (v := .bool _) rfl rfl rfl) ?_
      | refine s1 rfl (lop_pick rfl rfl rfl) ?_
    refine s1 rfl (lop_assign (v := .bool _) rfl) ?_
    refine ops_nil ?_
    refine ok_ret ?_
    exact ret_one rfl rfl rfl rfl (congrArg V.bool (by unfold oddP; first | (refine decide_eq_decide.2 ?_; omega) | (refine (decide_eq_true ?_).symm; omega)))
  · first
      | refine y1 rfl rfl g1_3 rfl (lop_fieldAddr_rf (fo := 0) rfl Try.underlying57 rfl rfl Try.sizeOf3 (by decide)) ?_
      | refine y1 rfl rfl g1_3 rfl (lop_fieldAddr_fp (fo := 0) rfl Try.underlying57 rfl rfl Try.sizeOf3 (by decide) rfl) ?_
    first
      | refine y1 rfl rfl g1_3 rfl (lop_load_rf rfl rfl Try.isAgg3 rfl) ?_
      | refine y1 rfl rfl g1_3 rfl (lop_load_fp rfl Try.isAgg3 rfl) ?_
    refine y1 rfl rfl g1_3 rfl (lop_gtr rfl rfl) ?_
    first
      | refine s1 rfl (lop_pick_f (v := .bool _) rfl g1_3 rfl) ?_
      | refine s1 rfl (lop_pick_t (v := .bool _) rfl rfl rfl) ?_
      | refine s1 rfl (lop_pick_f (v := .bool _) rfl rfl rfl) ?_
      | refine s1 rfl (lop_pick rfl rfl rfl) ?_
    refine s1 rfl (lop_move (v := .bool _) rfl) ?_
    first
      | refine gsplitP 8 rfl rfl (fun g1_8 p1_8 => ?_) (fun g1_8 p1_8 => ?_)
      | refine gsplitB 8 rfl rfl (fun g1_8 p1_8 => ?_) (fun g1_8 p1_8 => ?_)
    · refine n1 rfl rfl g1_8 ?_
      refine n1 rfl rfl g1_8 ?_
      refine n1 rfl rfl g1_8 ?_
      first
        | refine s1 rfl (lop_pick_f (v := .bool _) rfl g1_3 rfl) ?_
        | refine s1 rfl (lop_pick_t (v := .bool _) rfl g1_8 rfl) ?_
        | refine s1 rfl (lop_pick_t (v := .bool _) rfl rfl rfl) ?_
        | refine s1 rfl (lop_pick_f (v := .bool _) rfl rfl rfl) ?_
        | refine s1 rfl (lop_pick rfl rfl rfl) ?_
      refine s1 rfl (lop_move (v := .bool _) rfl) ?_
      refine n1 rfl rfl rfl ?_
      refine n1 rfl rfl rfl ?_
      refine n1 rfl rfl rfl ?_
      first
        | refine s1 rfl (lop_pick_f (v := .bool _) rfl g1_3 rfl) ?_
        | refine s1 rfl (lop_pick_t (v := .bool _) rfl g1_8 rfl) ?_
        | refine s1 rfl (lop_pick_t (v := .bool _) rfl rfl rfl) ?_
        | refine s1 rfl (lop_pick_t (v := .bool _) rfl rfl rfl) ?_
        | refine s1 rfl (lop_pick_f (v := .bool _) rfl rfl rfl) ?_
        | refine s1 rfl (lop_pick rfl rfl rfl) ?_
      refine s1 rfl (lop_assign (v := .bool _) rfl) ?_
      refine ops_nil ?_
      refine ok_ret ?_
      exact ret_one rfl rfl rfl rfl (congrArg V.bool (by unfold oddP; first | (refine decide_eq_decide.2 ?_; omega) | (refine (decide_eq_true ?_).symm; omega)))
    · first
        | refine y1 rfl rfl g1_8 rfl (lop_fieldAddr_rf (fo := 1) rfl Try.underlying57 rfl rfl Try.sizeOf3 (by decide)) ?_
        | refine y1 rfl rfl g1_8 rfl (lop_fieldAddr_fp (fo := 1) rfl Try.underlying57 rfl rfl Try.sizeOf3 (by decide) rfl) ?_
      first
        | refine y1 rfl rfl g1_8 rfl (lop_load_rf rfl rfl Try.isAgg3 rfl) ?_
        | refine y1 rfl rfl g1_8 rfl (lop_load_fp rfl Try.isAgg3 rfl) ?_
      refine y1 rfl rfl g1_8 rfl (lop_lss rfl rfl) ?_
      first
        | refine s1 rfl (lop_pick_f (v := .bool _) rfl g1_3 rfl) ?_
        | refine s1 rfl (lop_pick_f (v := .bool _) rfl g1_8 rfl) ?_
        | refine s1 rfl (lop_pick_t (v := .bool _) rfl rfl rfl) ?_
        | refine s1 rfl (lop_pick_f (v := .bool _) rfl rfl rfl) ?_
        | refine s1 rfl (lop_pick rfl rfl rfl) ?_
      refine s1 rfl (lop_move (v := .bool _) rfl) ?_
      first
        | refine gsplitP 13 rfl rfl (fun g1_13 p1_13 => ?_) (fun g1_13 p1_13 => ?_)
        | refine gsplitB 13 rfl rfl (fun g1_13 p1_13 => ?_) (fun g1_13 p1_13 => ?_)
      · refine n1 rfl rfl g1_13 ?_
        refine n1 rfl rfl g1_13 ?_
        refine n1 rfl rfl g1_13 ?_
        first
          | refine s1 rfl (lop_pick_f (v := .bool _) rfl g1_3 rfl) ?_
          | refine s1 rfl (lop_pick_f (v := .bool _) rfl g1_8 rfl) ?_
          | refine s1 rfl (lop_pick_t (v := .bool _) rfl g1_13 rfl) ?_
          | refine s1 rfl (lop_pick_t (v := .bool _) rfl rfl rfl) ?_
          | refine s1 rfl (lop_pick_f (v := .bool _) rfl rfl rfl) ?_
          | refine s1 rfl (lop_pick rfl rfl rfl) ?_
        refine s1 rfl (lop_assign (v := .bool _) rfl) ?_
        refine ops_nil ?_
        refine ok_ret ?_
        exact ret_one rfl rfl rfl rfl (congrArg V.bool (by unfold oddP; first | (refine decide_eq_decide.2 ?_; omega) | (refine (decide_eq_true ?_).symm; omega)))
      · first
          | refine y1 rfl rfl g1_13 rfl (lop_fieldAddr_rf (fo := 1) rfl Try.underlying57 rfl rfl Try.sizeOf3 (by decide)) ?_
          | refine y1 rfl rfl g1_13 rfl (lop_fieldAddr_fp (fo := 1) rfl Try.underlying57 rfl rfl Try.sizeOf3 (by decide) rfl) ?_
        first
          | refine y1 rfl rfl g1_13 rfl (lop_load_rf rfl rfl Try.isAgg3 rfl) ?_
          | refine y1 rfl rfl g1_13 rfl (lop_load_fp rfl Try.isAgg3 rfl) ?_
        refine y1 rfl rfl g1_13 rfl (lop_geq rfl rfl) ?_
        first
          | refine s1 rfl (lop_pick_f (v := .bool _) rfl g1_3 rfl) ?_
          | refine s1 rfl (lop_pick_f (v := .bool _) rfl g1_8 rfl) ?_
          | refine s1 rfl (lop_pick_f (v := .bool _) rfl g1_13 rfl) ?_
          | refine s1 rfl (lop_pick_t (v := .bool _) rfl rfl rfl) ?_
          | refine s1 rfl (lop_pick_f (v := .bool _) rfl rfl rfl) ?_
          | refine s1 rfl (lop_pick rfl rfl rfl) ?_
        refine s1 rfl (lop_assign (v := .bool _) rfl) ?_
        refine ops_nil ?_
        refine ok_ret ?_
        exact ret_one rfl rfl rfl rfl (congrArg V.bool (by unfold oddP; first | (refine decide_eq_decide.2 ?_; omega) | (refine (decide_eq_true ?_).symm; omega)))

theorem no_ac (e : Int) : AC Try.prog 23 [i64 e] (.agg (noR e).enc) := by
  refine AC.intro Try.func23 rfl (Nat.le_of_ble_eq_true rfl) ?_
  refine ok_reg ?_
  refine s1w rfl (lop_new (t := 2) (cs := [.int _ _, .int _ _, .int _ _, .int _ _, .int _ _, .bool _]) Try.zeroValue35 rfl rfl rfl rfl) rfl ?_
  refine ops_nil ?_
  refine ok_reg ?_
  refine s1 rfl (lop_move (v := .int _ _) rfl) ?_
  refine s1 rfl (lop_buildK (cs := [.int _ _, .int _ _, .int _ _, .int _ _, .int _ _, .bool _]) Try.underlying35 Try.zeroValue35 rfl rfl places35 rfl) ?_
  first
    | refine s0w rfl (lop_storeK (v := .agg [.int _ _, .int _ _, .int _ _, .int _ _, .int _ _, .bool _]) (cs' := [.int _ _, .int _ _, .int _ _, .int _ _, .int _ _, .bool _]) (f' := true) rfl rfl rfl Try.sizeOf35 rfl rfl rfl rfl rfl) ?_
    | refine s0w rfl (lop_storeK (v := .agg [.int _ _, .int _ _, .int _ _, .int _ _, .int _ _, .bool _]) (cs' := [.int _ _, .int _ _, .int _ _, .int _ _, .int _ _, .bool _]) (f' := false) rfl rfl rfl Try.sizeOf35 rfl rfl rfl rfl rfl) ?_
  refine ops_nil ?_
  refine ok_ret ?_
  exact ret_gen (R := [2]) ⟨_, _, rfl, ⟨rfl, 2, 0, _, _, rfl, rfl, .inl ⟨6, Try.isAgg35, Try.sizeOf35, Nat.le_of_ble_eq_true rfl, rfl⟩⟩, rfl⟩ (.agg (FrzL.tf rfl)) (fun t ht => by simp at ht; subst ht; exact Option.some_ne_none _)

theorem indexFunc_Sess_ac {g : FuncId} {caps : List V} {p : SessD → Bool} {l : List SessD} (hl : l.length ≤ 549755813888) (hc : ∀ args w, (callFunc g args).run Try.prog w = .ok (.enter g args) w) (ht : tfL caps = true)
    (hp : ∀ x ∈ l, AC Try.prog g (.agg (SessD.enc x) :: caps) (.bool (p x))) : AC Try.prog 50 [rowOf SessD.enc l, .fn g caps] (i64 (idxOf p l)) := by
  refine AC.intro Try.func50 rfl (Nat.le_of_ble_eq_true rfl) ?_
  refine ok_reg ?_
  refine s1 rfl (lop_assign (v := .int _ _) rfl) ?_
  refine ops_nil ?_
  refine ok_seq ?_
  refine ok_reg ?_
  first
    | refine s1 rfl (lop_move (v := .sl _ _) rfl) ?_
    | refine s1 rfl (lop_move (v := .os _ _ _ _) rfl) ?_
    | refine s1 rfl (lop_move (v := .z0) rfl) ?_
  refine s1 rfl (lop_len rfl Try.underlying24 ⟨⟨_, rfl⟩, rfl⟩) ?_
  refine s1 rfl (lop_move (v := .int _ _) rfl) ?_
  refine ops_nil ?_
  refine ok_block ?_
  refine ok_loop (ι := {i : Nat // i ≤ l.length ∧ ∀ j, (h : j < l.length) → j < i → p l[j] = false}) (fun i => ⟨[(0, rowOf SessD.enc l), (1, .fn g caps), (7, i64 l.length), (8, i64 i.1)], [], 19⟩) (fun i => l.length - i.1) (⟨0, Nat.zero_le _, fun _ _ h => absurd h (Nat.not_lt_zero _)⟩) ?_ ?_
  · exact le_mk ⟨rfl, rfl, rfl, rfl, trivial⟩ trivial rfl
  rintro ⟨i, hi, hn⟩
  dsimp only
  refine ok_reg ?_
  refine s1 rfl (lop_lss rfl rfl) ?_
  refine ops_nil ?_
  refine ok_seq ?_
  first
    | refine ok_if _ rfl rfl (fun h_t9 => ?_) (fun h_t9 => ?_)
    | refine ok_cond rfl rfl (fun h_t9 => ?_) (fun h_t9 => ?_)
  · have h_t9 : i < l.length := by simpa using h_t9
    refine ok_skip ?_
    refine ok_seq ?_
    refine ok_block ?_
    refine ok_reg ?_
    refine s1 rfl (lop_move (v := .int _ _) rfl) ?_
    refine s1 rfl (lop_assign (v := .int _ _) rfl) ?_
    refine ops_nil ?_
    refine ok_reg ?_
    first
      | refine s1 rfl (lop_move (v := .fn _ _) rfl) ?_
      | refine s1 rfl (lop_move (v := _) rfl) ?_
    first
      | refine s1 rfl (lop_move (v := .sl _ _) rfl) ?_
      | refine s1 rfl (lop_move (v := .os _ _ _ _) rfl) ?_
      | refine s1 rfl (lop_move (v := .z0) rfl) ?_
    refine s1 rfl (lop_move (v := .int _ _) rfl) ?_
    first
      | refine s1 rfl (lop_indexAddr_os rfl rfl Try.underlying24 Try.sizeOf39 rfl h_t9) ?_
      | refine s1 rfl (lop_indexAddr_sl rfl rfl Try.underlying24 Try.sizeOf39 rfl h_t9 (flat_at SessD.len h_t9) (flat_ne SessD.len (by decide) h_t9)) ?_
    first
      | refine s1 rfl (lop_load_rf_agg rfl rfl Try.isAgg39 Try.sizeOf39 (by rw [List.length_append, SessD.len]; omega) (by rw [List.take_append_of_le_length (by rw [SessD.len]; omega), List.take_of_length_le (by rw [SessD.len]; omega)])) ?_
      | refine s1 rfl (lop_load_fp_agg rfl Try.isAgg39 Try.sizeOf39 (by rw [List.length_append, SessD.len]; omega) (by rw [List.take_append_of_le_length (by rw [SessD.len]; omega), List.take_of_length_le (by rw [SessD.len]; omega)])) ?_
    refine s1 rfl (lop_call rfl hc (FrzL.tf (show tfL (V.agg (SessD.enc l[i]) :: caps) = true by simp only [tfL, ht, Bool.and_true]; rfl)) (.inl rfl) (hp l[i] (List.getElem_mem _))) ?_
    refine ops_nil ?_
    first
      | refine ok_if _ rfl rfl (fun h_t16 => ?_) (fun h_t16 => ?_)
      | refine ok_cond rfl rfl (fun h_t16 => ?_) (fun h_t16 => ?_)
    · refine ok_reg ?_
      refine s1 rfl (lop_move (v := .int _ _) rfl) ?_
      refine s1 rfl (lop_assign (v := .int _ _) rfl) ?_
      refine ops_nil ?_
      refine ok_ret ?_
      exact ret_one rfl rfl rfl rfl (congrArg i64 (idxOf_at h_t9 h_t16 hn))
    · refine ok_skip ?_
      refine ok_region ?_
      refine s1 rfl (lop_bop rfl rfl rfl (bop_add (by omega) (by omega))) ?_
      refine s1 rfl (lop_move (v := .int _ _) rfl) ?_
      refine ops_nil ?_
      exact ⟨⟨i + 1, by omega, none_step hn h_t9 h_t16⟩, by simp only; omega, le_mk ⟨rfl, rfl, rfl, rfl, trivial⟩ trivial rfl⟩
  · refine ok_exit ?_
    refine ok_reg ?_
    refine s1 rfl (lop_assign (v := .int _ _) rfl) ?_
    refine ops_nil ?_
    refine ok_ret ?_
    exact ret_one rfl rfl rfl rfl (congrArg i64 (idxOf_no fun j hj => hn j hj (by omega)))

theorem indexFunc_Place_ac {g : FuncId} {caps : List V} {p : PlD → Bool} {l : List PlD} (hl : l.length ≤ 549755813888) (hc : ∀ args w, (callFunc g args).run Try.prog w = .ok (.enter g args) w) (ht : tfL caps = true)
    (hp : ∀ x ∈ l, AC Try.prog g (.agg (PlD.enc x) :: caps) (.bool (p x))) : AC Try.prog 59 [rowOf PlD.enc l, .fn g caps] (i64 (idxOf p l)) := by
  refine AC.intro Try.func59 rfl (Nat.le_of_ble_eq_true rfl) ?_
  refine ok_reg ?_
  refine s1 rfl (lop_assign (v := .int _ _) rfl) ?_
  refine ops_nil ?_
  refine ok_seq ?_
  refine ok_reg ?_
  first
    | refine s1 rfl (lop_move (v := .sl _ _) rfl) ?_
    | refine s1 rfl (lop_move (v := .os _ _ _ _) rfl) ?_
    | refine s1 rfl (lop_move (v := .z0) rfl) ?_
  refine s1 rfl (lop_len rfl Try.underlying28 ⟨⟨_, rfl⟩, rfl⟩) ?_
  refine s1 rfl (lop_move (v := .int _ _) rfl) ?_
  refine ops_nil ?_
  refine ok_block ?_
  refine ok_loop (ι := {i : Nat // i ≤ l.length ∧ ∀ j, (h : j < l.length) → j < i → p l[j] = false}) (fun i => ⟨[(0, rowOf PlD.enc l), (1, .fn g caps), (7, i64 l.length), (8, i64 i.1)], [], 19⟩) (fun i => l.length - i.1) (⟨0, Nat.zero_le _, fun _ _ h => absurd h (Nat.not_lt_zero _)⟩) ?_ ?_
  · exact le_mk ⟨rfl, rfl, rfl, rfl, trivial⟩ trivial rfl
  rintro ⟨i, hi, hn⟩
  dsimp only
  refine ok_reg ?_
  refine s1 rfl (lop_lss rfl rfl) ?_
  refine ops_nil ?_
  refine ok_seq ?_
  first
    | refine ok_if _ rfl rfl (fun h_t9 => ?_) (fun h_t9 => ?_)
    | refine ok_cond rfl rfl (fun h_t9 => ?_) (fun h_t9 => ?_)
  · have h_t9 : i < l.length := by simpa using h_t9
    refine ok_skip ?_
    refine ok_seq ?_
    refine ok_block ?_
    refine ok_reg ?_
    refine s1 rfl (lop_move (v := .int _ _) rfl) ?_
    refine s1 rfl (lop_assign (v := .int _ _) rfl) ?_
    refine ops_nil ?_
    refine ok_reg ?_
    first
      | refine s1 rfl (lop_move (v := .fn _ _) rfl) ?_
      | refine s1 rfl (lop_move (v := _) rfl) ?_
    first
      | refine s1 rfl (lop_move (v := .sl _ _) rfl) ?_
      | refine s1 rfl (lop_move (v := .os _ _ _ _) rfl) ?_
      | refine s1 rfl (lop_move (v := .z0) rfl) ?_
    refine s1 rfl (lop_move (v := .int _ _) rfl) ?_
    first
      | refine s1 rfl (lop_indexAddr_os rfl rfl Try.underlying28 Try.sizeOf57 rfl h_t9) ?_
      | refine s1 rfl (lop_indexAddr_sl rfl rfl Try.underlying28 Try.sizeOf57 rfl h_t9 (flat_at PlD.len h_t9) (flat_ne PlD.len (by decide) h_t9)) ?_
    first
      | refine s1 rfl (lop_load_rf_agg rfl rfl Try.isAgg57 Try.sizeOf57 (by rw [List.length_append, PlD.len]; omega) (by rw [List.take_append_of_le_length (by rw [PlD.len]; omega), List.take_of_length_le (by rw [PlD.len]; omega)])) ?_
      | refine s1 rfl (lop_load_fp_agg rfl Try.isAgg57 Try.sizeOf57 (by rw [List.length_append, PlD.len]; omega) (by rw [List.take_append_of_le_length (by rw [PlD.len]; omega), List.take_of_length_le (by rw [PlD.len]; omega)])) ?_
    refine s1 rfl (lop_call rfl hc (FrzL.tf (show tfL (V.agg (PlD.enc l[i]) :: caps) = true by simp only [tfL, ht, Bool.and_true]; rfl)) (.inl rfl) (hp l[i] (List.getElem_mem _))) ?_
    refine ops_nil ?_
    first
      | refine ok_if _ rfl rfl (fun h_t16 => ?_) (fun h_t16 => ?_)
      | refine ok_cond rfl rfl (fun h_t16 => ?_) (fun h_t16 => ?_)
    · refine ok_reg ?_
      refine s1 rfl (lop_move (v := .int _ _) rfl) ?_
      refine s1 rfl (lop_assign (v := .int _ _) rfl) ?_
      refine ops_nil ?_
      refine ok_ret ?_
      exact ret_one rfl rfl rfl rfl (congrArg i64 (idxOf_at h_t9 h_t16 hn))
    · refine ok_skip ?_
      refine ok_region ?_
      refine s1 rfl (lop_bop rfl rfl rfl (bop_add (by omega) (by omega))) ?_
      refine s1 rfl (lop_move (v := .int _ _) rfl) ?_
      refine ops_nil ?_
      exact ⟨⟨i + 1, by omega, none_step hn h_t9 h_t16⟩, by simp only; omega, le_mk ⟨rfl, rfl, rfl, rfl, trivial⟩ trivial rfl⟩
  · refine ok_exit ?_
    refine ok_reg ?_
    refine s1 rfl (lop_assign (v := .int _ _) rfl) ?_
    refine ops_nil ?_
    refine ok_ret ?_
    exact ret_one rfl rfl rfl rfl (congrArg i64 (idxOf_no fun j hj => hn j hj (by omega)))

theorem indexFunc_Vol_ac {g : FuncId} {caps : List V} {p : VolD → Bool} {l : List VolD} (hl : l.length ≤ 549755813888) (hc : ∀ args w, (callFunc g args).run Try.prog w = .ok (.enter g args) w) (ht : tfL caps = true)
    (hp : ∀ x ∈ l, AC Try.prog g (.agg (VolD.enc x) :: caps) (.bool (p x))) : AC Try.prog 72 [rowOf VolD.enc l, .fn g caps] (i64 (idxOf p l)) := by
  refine AC.intro Try.func72 rfl (Nat.le_of_ble_eq_true rfl) ?_
  refine ok_reg ?_
  refine s1 rfl (lop_assign (v := .int _ _) rfl) ?_
  refine ops_nil ?_
  refine ok_seq ?_
  refine ok_reg ?_
  first
    | refine s1 rfl (lop_move (v := .sl _ _) rfl) ?_
    | refine s1 rfl (lop_move (v := .os _ _ _ _) rfl) ?_
    | refine s1 rfl (lop_move (v := .z0) rfl) ?_
  refine s1 rfl (lop_len rfl Try.underlying22 ⟨⟨_, rfl⟩, rfl⟩) ?_
  refine s1 rfl (lop_move (v := .int _ _) rfl) ?_
  refine ops_nil ?_
  refine ok_block ?_
  refine ok_loop (ι := {i : Nat // i ≤ l.length ∧ ∀ j, (h : j < l.length) → j < i → p l[j] = false}) (fun i => ⟨[(0, rowOf VolD.enc l), (1, .fn g caps), (7, i64 l.length), (8, i64 i.1)], [], 19⟩) (fun i => l.length - i.1) (⟨0, Nat.zero_le _, fun _ _ h => absurd h (Nat.not_lt_zero _)⟩) ?_ ?_
  · exact le_mk ⟨rfl, rfl, rfl, rfl, trivial⟩ trivial rfl
  rintro ⟨i, hi, hn⟩
  dsimp only
  refine ok_reg ?_
  refine s1 rfl (lop_lss rfl rfl) ?_
  refine ops_nil ?_
  refine ok_seq ?_
  first
    | refine ok_if _ rfl rfl (fun h_t9 => ?_) (fun h_t9 => ?_)
    | refine ok_cond rfl rfl (fun h_t9 => ?_) (fun h_t9 => ?_)
  · have h_t9 : i < l.length := by simpa using h_t9
    refine ok_skip ?_
    refine ok_seq ?_
    refine ok_block ?_
    refine ok_reg ?_
    refine s1 rfl (lop_move (v := .int _ _) rfl) ?_
    refine s1 rfl (lop_assign (v := .int _ _) rfl) ?_
    refine ops_nil ?_
    refine ok_reg ?_
    first
      | refine s1 rfl (lop_move (v := .fn _ _) rfl) ?_
      | refine s1 rfl (lop_move (v := _) rfl) ?_
    first
      | refine s1 rfl (lop_move (v := .sl _ _) rfl) ?_
      | refine s1 rfl (lop_move (v := .os _ _ _ _) rfl) ?_
      | refine s1 rfl (lop_move (v := .z0) rfl) ?_
    refine s1 rfl (lop_move (v := .int _ _) rfl) ?_
    first
      | refine s1 rfl (lop_indexAddr_os rfl rfl Try.underlying22 Try.sizeOf50 rfl h_t9) ?_
      | refine s1 rfl (lop_indexAddr_sl rfl rfl Try.underlying22 Try.sizeOf50 rfl h_t9 (flat_at VolD.len h_t9) (flat_ne VolD.len (by decide) h_t9)) ?_
    first
      | refine s1 rfl (lop_load_rf_agg rfl rfl Try.isAgg50 Try.sizeOf50 (by rw [List.length_append, VolD.len]; omega) (by rw [List.take_append_of_le_length (by rw [VolD.len]; omega), List.take_of_length_le (by rw [VolD.len]; omega)])) ?_
      | refine s1 rfl (lop_load_fp_agg rfl Try.isAgg50 Try.sizeOf50 (by rw [List.length_append, VolD.len]; omega) (by rw [List.take_append_of_le_length (by rw [VolD.len]; omega), List.take_of_length_le (by rw [VolD.len]; omega)])) ?_
    refine s1 rfl (lop_call rfl hc (FrzL.tf (show tfL (V.agg (VolD.enc l[i]) :: caps) = true by simp only [tfL, ht, Bool.and_true]; rfl)) (.inl rfl) (hp l[i] (List.getElem_mem _))) ?_
    refine ops_nil ?_
    first
      | refine ok_if _ rfl rfl (fun h_t16 => ?_) (fun h_t16 => ?_)
      | refine ok_cond rfl rfl (fun h_t16 => ?_) (fun h_t16 => ?_)
    · refine ok_reg ?_
      refine s1 rfl (lop_move (v := .int _ _) rfl) ?_
      refine s1 rfl (lop_assign (v := .int _ _) rfl) ?_
      refine ops_nil ?_
      refine ok_ret ?_
      exact ret_one rfl rfl rfl rfl (congrArg i64 (idxOf_at h_t9 h_t16 hn))
    · refine ok_skip ?_
      refine ok_region ?_
      refine s1 rfl (lop_bop rfl rfl rfl (bop_add (by omega) (by omega))) ?_
      refine s1 rfl (lop_move (v := .int _ _) rfl) ?_
      refine ops_nil ?_
      exact ⟨⟨i + 1, by omega, none_step hn h_t9 h_t16⟩, by simp only; omega, le_mk ⟨rfl, rfl, rfl, rfl, trivial⟩ trivial rfl⟩
  · refine ok_exit ?_
    refine ok_reg ?_
    refine s1 rfl (lop_assign (v := .int _ _) rfl) ?_
    refine ops_nil ?_
    refine ok_ret ?_
    exact ret_one rfl rfl rfl rfl (congrArg i64 (idxOf_no fun j hj => hn j hj (by omega)))

theorem indexFunc_Name_ac {g : FuncId} {caps : List V} {p : NameD → Bool} {l : List NameD} (hl : l.length ≤ 549755813888) (hc : ∀ args w, (callFunc g args).run Try.prog w = .ok (.enter g args) w) (ht : tfL caps = true)
    (hp : ∀ x ∈ l, AC Try.prog g (.agg (NameD.enc x) :: caps) (.bool (p x))) : AC Try.prog 73 [rowOf NameD.enc l, .fn g caps] (i64 (idxOf p l)) := by
  refine AC.intro Try.func73 rfl (Nat.le_of_ble_eq_true rfl) ?_
  refine ok_reg ?_
  refine s1 rfl (lop_assign (v := .int _ _) rfl) ?_
  refine ops_nil ?_
  refine ok_seq ?_
  refine ok_reg ?_
  first
    | refine s1 rfl (lop_move (v := .sl _ _) rfl) ?_
    | refine s1 rfl (lop_move (v := .os _ _ _ _) rfl) ?_
    | refine s1 rfl (lop_move (v := .z0) rfl) ?_
  refine s1 rfl (lop_len rfl Try.underlying23 ⟨⟨_, rfl⟩, rfl⟩) ?_
  refine s1 rfl (lop_move (v := .int _ _) rfl) ?_
  refine ops_nil ?_
  refine ok_block ?_
  refine ok_loop (ι := {i : Nat // i ≤ l.length ∧ ∀ j, (h : j < l.length) → j < i → p l[j] = false}) (fun i => ⟨[(0, rowOf NameD.enc l), (1, .fn g caps), (7, i64 l.length), (8, i64 i.1)], [], 19⟩) (fun i => l.length - i.1) (⟨0, Nat.zero_le _, fun _ _ h => absurd h (Nat.not_lt_zero _)⟩) ?_ ?_
  · exact le_mk ⟨rfl, rfl, rfl, rfl, trivial⟩ trivial rfl
  rintro ⟨i, hi, hn⟩
  dsimp only
  refine ok_reg ?_
  refine s1 rfl (lop_lss rfl rfl) ?_
  refine ops_nil ?_
  refine ok_seq ?_
  first
    | refine ok_if _ rfl rfl (fun h_t9 => ?_) (fun h_t9 => ?_)
    | refine ok_cond rfl rfl (fun h_t9 => ?_) (fun h_t9 => ?_)
  · have h_t9 : i < l.length := by simpa using h_t9
    refine ok_skip ?_
    refine ok_seq ?_
    refine ok_block ?_
    refine ok_reg ?_
    refine s1 rfl (lop_move (v := .int _ _) rfl) ?_
    refine s1 rfl (lop_assign (v := .int _ _) rfl) ?_
    refine ops_nil ?_
    refine ok_reg ?_
    first
      | refine s1 rfl (lop_move (v := .fn _ _) rfl) ?_
      | refine s1 rfl (lop_move (v := _) rfl) ?_
    first
      | refine s1 rfl (lop_move (v := .sl _ _) rfl) ?_
      | refine s1 rfl (lop_move (v := .os _ _ _ _) rfl) ?_
      | refine s1 rfl (lop_move (v := .z0) rfl) ?_
    refine s1 rfl (lop_move (v := .int _ _) rfl) ?_
    first
      | refine s1 rfl (lop_indexAddr_os rfl rfl Try.underlying23 Try.sizeOf47 rfl h_t9) ?_
      | refine s1 rfl (lop_indexAddr_sl rfl rfl Try.underlying23 Try.sizeOf47 rfl h_t9 (flat_at NameD.len h_t9) (flat_ne NameD.len (by decide) h_t9)) ?_
    first
      | refine s1 rfl (lop_load_rf_agg rfl rfl Try.isAgg47 Try.sizeOf47 (by rw [List.length_append, NameD.len]; omega) (by rw [List.take_append_of_le_length (by rw [NameD.len]; omega), List.take_of_length_le (by rw [NameD.len]; omega)])) ?_
      | refine s1 rfl (lop_load_fp_agg rfl Try.isAgg47 Try.sizeOf47 (by rw [List.length_append, NameD.len]; omega) (by rw [List.take_append_of_le_length (by rw [NameD.len]; omega), List.take_of_length_le (by rw [NameD.len]; omega)])) ?_
    refine s1 rfl (lop_call rfl hc (FrzL.tf (show tfL (V.agg (NameD.enc l[i]) :: caps) = true by simp only [tfL, ht, Bool.and_true]; rfl)) (.inl rfl) (hp l[i] (List.getElem_mem _))) ?_
    refine ops_nil ?_
    first
      | refine ok_if _ rfl rfl (fun h_t16 => ?_) (fun h_t16 => ?_)
      | refine ok_cond rfl rfl (fun h_t16 => ?_) (fun h_t16 => ?_)
    · refine ok_reg ?_
      refine s1 rfl (lop_move (v := .int _ _) rfl) ?_
      refine s1 rfl (lop_assign (v := .int _ _) rfl) ?_
      refine ops_nil ?_
      refine ok_ret ?_
      exact ret_one rfl rfl rfl rfl (congrArg i64 (idxOf_at h_t9 h_t16 hn))
    · refine ok_skip ?_
      refine ok_region ?_
      refine s1 rfl (lop_bop rfl rfl rfl (bop_add (by omega) (by omega))) ?_
      refine s1 rfl (lop_move (v := .int _ _) rfl) ?_
      refine ops_nil ?_
      exact ⟨⟨i + 1, by omega, none_step hn h_t9 h_t16⟩, by simp only; omega, le_mk ⟨rfl, rfl, rfl, rfl, trivial⟩ trivial rfl⟩
  · refine ok_exit ?_
    refine ok_reg ?_
    refine s1 rfl (lop_assign (v := .int _ _) rfl) ?_
    refine ops_nil ?_
    refine ok_ret ?_
    exact ret_one rfl rfl rfl rfl (congrArg i64 (idxOf_no fun j hj => hn j hj (by omega)))

theorem indexFunc_int_ac {g : FuncId} {caps : List V} {p : Int → Bool} {l : List Int} (hl : l.length ≤ 549755813888) (hc : ∀ args w, (callFunc g args).run Try.prog w = .ok (.enter g args) w) (ht : tfL caps = true)
    (hp : ∀ x ∈ l, AC Try.prog g (i64 x :: caps) (.bool (p x))) : AC Try.prog 60 [rowOf intEnc l, .fn g caps] (i64 (idxOf p l)) := by
  refine AC.intro Try.func60 rfl (Nat.le_of_ble_eq_true rfl) ?_
  refine ok_reg ?_
  refine s1 rfl (lop_assign (v := .int _ _) rfl) ?_
  refine ops_nil ?_
  refine ok_seq ?_
  refine ok_reg ?_
  first
    | refine s1 rfl (lop_move (v := .sl _ _) rfl) ?_
    | refine s1 rfl (lop_move (v := .os _ _ _ _) rfl) ?_
    | refine s1 rfl (lop_move (v := .z0) rfl) ?_
  refine s1 rfl (lop_len rfl Try.underlying86 ⟨⟨_, rfl⟩, rfl⟩) ?_
  refine s1 rfl (lop_move (v := .int _ _) rfl) ?_
  refine ops_nil ?_
  refine ok_block ?_
  refine ok_loop (ι := {i : Nat // i ≤ l.length ∧ ∀ j, (h : j < l.length) → j < i → p l[j] = false}) (fun i => ⟨[(0, rowOf intEnc l), (1, .fn g caps), (7, i64 l.length), (8, i64 i.1)], [], 19⟩) (fun i => l.length - i.1) (⟨0, Nat.zero_le _, fun _ _ h => absurd h (Nat.not_lt_zero _)⟩) ?_ ?_
  · exact le_mk ⟨rfl, rfl, rfl, rfl, trivial⟩ trivial rfl
  rintro ⟨i, hi, hn⟩
  dsimp only
  refine ok_reg ?_
  refine s1 rfl (lop_lss rfl rfl) ?_
  refine ops_nil ?_
  refine ok_seq ?_
  first
    | refine ok_if _ rfl rfl (fun h_t9 => ?_) (fun h_t9 => ?_)
    | refine ok_cond rfl rfl (fun h_t9 => ?_) (fun h_t9 => ?_)
  · have h_t9 : i < l.length := by simpa using h_t9
    refine ok_skip ?_
    refine ok_seq ?_
    refine ok_block ?_
    refine ok_reg ?_
    refine s1 rfl (lop_move (v := .int _ _) rfl) ?_
    refine s1 rfl (lop_assign (v := .int _ _) rfl) ?_
    refine ops_nil ?_
    refine ok_reg ?_
    first
      | refine s1 rfl (lop_move (v := .fn _ _) rfl) ?_
      | refine s1 rfl (lop_move (v := _) rfl) ?_
    first
      | refine s1 rfl (lop_move (v := .sl _ _) rfl) ?_
      | refine s1 rfl (lop_move (v := .os _ _ _ _) rfl) ?_
      | refine s1 rfl (lop_move (v := .z0) rfl) ?_
    refine s1 rfl (lop_move (v := .int _ _) rfl) ?_
    first
      | refine s1 rfl (lop_indexAddr_os rfl rfl Try.underlying86 Try.sizeOf3 rfl h_t9) ?_
      | refine s1 rfl (lop_indexAddr_sl rfl rfl Try.underlying86 Try.sizeOf3 rfl h_t9 (flat_at intEnc_len h_t9) (flat_ne intEnc_len (by decide) h_t9)) ?_
    refine s1 rfl (lop_load_fp (v := i64 l[i]) rfl Try.isAgg3 rfl) ?_
    refine s1 rfl (lop_call rfl hc (FrzL.tf (show tfL (i64 l[i] :: caps) = true by simp only [tfL, ht, Bool.and_true]; rfl)) (.inl rfl) (hp l[i] (List.getElem_mem _))) ?_
    refine ops_nil ?_
    first
      | refine ok_if _ rfl rfl (fun h_t16 => ?_) (fun h_t16 => ?_)
      | refine ok_cond rfl rfl (fun h_t16 => ?_) (fun h_t16 => ?_)
    · refine ok_reg ?_
      refine s1 rfl (lop_move (v := .int _ _) rfl) ?_
      refine s1 rfl (lop_assign (v := .int _ _) rfl) ?_
      refine ops_nil ?_
      refine ok_ret ?_
      exact ret_one rfl rfl rfl rfl (congrArg i64 (idxOf_at h_t9 h_t16 hn))
    · refine ok_skip ?_
      refine ok_region ?_
      refine s1 rfl (lop_bop rfl rfl rfl (bop_add (by omega) (by omega))) ?_
      refine s1 rfl (lop_move (v := .int _ _) rfl) ?_
      refine ops_nil ?_
      exact ⟨⟨i + 1, by omega, none_step hn h_t9 h_t16⟩, by simp only; omega, le_mk ⟨rfl, rfl, rfl, rfl, trivial⟩ trivial rfl⟩
  · refine ok_exit ?_
    refine ok_reg ?_
    refine s1 rfl (lop_assign (v := .int _ _) rfl) ?_
    refine ops_nil ?_
    refine ok_ret ?_
    exact ret_one rfl rfl rfl rfl (congrArg i64 (idxOf_no fun j hj => hn j hj (by omega)))

theorem containsFunc_Place_ac {g : FuncId} {caps : List V} {p : PlD → Bool} {l : List PlD} (hl : l.length ≤ 549755813888) (hc : ∀ args w, (callFunc g args).run Try.prog w = .ok (.enter g args) w) (ht : tfL caps = true)
    (hp : ∀ x ∈ l, AC Try.prog g (.agg (PlD.enc x) :: caps) (.bool (p x))) : AC Try.prog 39 [rowOf PlD.enc l, .fn g caps] (.bool (l.any p)) := by
  refine AC.intro Try.func39 rfl (Nat.le_of_ble_eq_true rfl) ?_
  refine ok_reg ?_
  refine s1 rfl (lop_assign (v := .bool _) rfl) ?_
  refine ops_nil ?_
  refine ok_reg ?_
  first
    | refine s1 rfl (lop_move (v := .sl _ _) rfl) ?_
    | refine s1 rfl (lop_move (v := .os _ _ _ _) rfl) ?_
    | refine s1 rfl (lop_move (v := .z0) rfl) ?_
  first
    | refine s1 rfl (lop_move (v := .fn _ _) rfl) ?_
    | refine s1 rfl (lop_move (v := _) rfl) ?_
  refine s1 rfl (lop_call rfl Try.call59 (FrzL.tf (show tfL [rowOf PlD.enc l, V.fn g caps] = true by simp only [tfL, tf, rowOf, ht, Bool.and_true])) (.inl rfl) (indexFunc_Place_ac hl hc ht hp)) ?_
  refine s1 rfl (lop_geq rfl rfl) ?_
  refine s1 rfl (lop_assign (v := .bool _) rfl) ?_
  refine ops_nil ?_
  refine ok_ret ?_
  exact ret_one rfl rfl rfl rfl (congrArg V.bool (idxOf_any p l))

theorem containsFunc_int_ac {g : FuncId} {caps : List V} {p : Int → Bool} {l : List Int} (hl : l.length ≤ 549755813888) (hc : ∀ args w, (callFunc g args).run Try.prog w = .ok (.enter g args) w) (ht : tfL caps = true)
    (hp : ∀ x ∈ l, AC Try.prog g (i64 x :: caps) (.bool (p x))) : AC Try.prog 40 [rowOf intEnc l, .fn g caps] (.bool (l.any p)) := by
  refine AC.intro Try.func40 rfl (Nat.le_of_ble_eq_true rfl) ?_
  refine ok_reg ?_
  refine s1 rfl (lop_assign (v := .bool _) rfl) ?_
  refine ops_nil ?_
  refine ok_reg ?_
  first
    | refine s1 rfl (lop_move (v := .sl _ _) rfl) ?_
    | refine s1 rfl (lop_move (v := .os _ _ _ _) rfl) ?_
    | refine s1 rfl (lop_move (v := .z0) rfl) ?_
  first
    | refine s1 rfl (lop_move (v := .fn _ _) rfl) ?_
    | refine s1 rfl (lop_move (v := _) rfl) ?_
  refine s1 rfl (lop_call rfl Try.call60 (FrzL.tf (show tfL [rowOf intEnc l, V.fn g caps] = true by simp only [tfL, tf, rowOf, ht, Bool.and_true])) (.inl rfl) (indexFunc_int_ac hl hc ht hp)) ?_
  refine s1 rfl (lop_geq rfl rfl) ?_
  refine s1 rfl (lop_assign (v := .bool _) rfl) ?_
  refine ops_nil ?_
  refine ok_ret ?_
  exact ret_one rfl rfl rfl rfl (congrArg V.bool (idxOf_any p l))

theorem find_Sess_ac {g : FuncId} {caps : List V} {p : SessD → Bool} {l : List SessD} (hl : l.length ≤ 549755813888) (hc : ∀ args w, (callFunc g args).run Try.prog w = .ok (.enter g args) w) (ht : tfL caps = true)
    (hp : ∀ x ∈ l, AC Try.prog g (.agg (SessD.enc x) :: caps) (.bool (p x))) : AC Try.prog 25 [rowOf SessD.enc l, .fn g caps] (.tup [.agg (findG (.zero : SessD) p l).1.enc, i64 (findG (.zero : SessD) p l).2]) := by
  refine AC.intro Try.func25 rfl (Nat.le_of_ble_eq_true rfl) ?_
  refine ok_reg ?_
  refine s1w rfl (lop_new (t := 4) (cs := [.int _ _, .int _ _, .int _ _, .int _ _, .int _ _, .int _ _, .int _ _, .bool _]) Try.zeroValue39 rfl rfl rfl rfl) (by simp [freshAll, freshB, argEnv, rowOf, men, menL_of_tf _ _ ht]) ?_
  refine s1 rfl (lop_assign (v := .int _ _) rfl) ?_
  refine ops_nil ?_
  refine ok_reg ?_
  first
    | refine s1 rfl (lop_move (v := .sl _ _) rfl) ?_
    | refine s1 rfl (lop_move (v := .os _ _ _ _) rfl) ?_
    | refine s1 rfl (lop_move (v := .z0) rfl) ?_
  first
    | refine s1 rfl (lop_move (v := .fn _ _) rfl) ?_
    | refine s1 rfl (lop_move (v := _) rfl) ?_
  refine s1 rfl (lop_call rfl Try.call50 (FrzL.tf (show tfL [rowOf SessD.enc l, V.fn g caps] = true by simp only [tfL, tf, rowOf, ht, Bool.and_true])) (.inl rfl) (indexFunc_Sess_ac hl hc ht hp)) ?_
  refine s1 rfl (lop_assign (v := .int _ _) rfl) ?_
  refine ops_nil ?_
  refine ok_seq ?_
  refine ok_reg ?_
  refine s1 rfl (lop_move (v := .int _ _) rfl) ?_
  refine s1 rfl (lop_lss rfl rfl) ?_
  refine ops_nil ?_
  first
    | refine ok_if _ rfl rfl (fun h_t12 => ?_) (fun h_t12 => ?_)
    | refine ok_cond rfl rfl (fun h_t12 => ?_) (fun h_t12 => ?_)
  · refine ok_reg ?_
    refine s1w rfl (lop_new (t := 7) (cs := [.int _ _, .int _ _, .int _ _, .int _ _, .int _ _, .int _ _, .int _ _, .bool _]) Try.zeroValue39 rfl rfl rfl rfl) (by simp [freshAll, freshB, argEnv, rowOf, men, menL_of_tf _ _ ht]; rfl) ?_
    refine ops_nil ?_
    refine ok_reg ?_
    first
      | refine s1 rfl (lop_load_rf_agg (ys := [.int _ _, .int _ _, .int _ _, .int _ _, .int _ _, .int _ _, .int _ _, .bool _]) rfl rfl Try.isAgg39 Try.sizeOf39 (Nat.le_of_ble_eq_true rfl) rfl) ?_
      | refine s1 rfl (lop_load_fp_agg (ys := [.int _ _, .int _ _, .int _ _, .int _ _, .int _ _, .int _ _, .int _ _, .bool _]) rfl Try.isAgg39 Try.sizeOf39 (Nat.le_of_ble_eq_true rfl) rfl) ?_
    first
      | refine s0w rfl (lop_storeK (v := .agg [.int _ _, .int _ _, .int _ _, .int _ _, .int _ _, .int _ _, .int _ _, .bool _]) (cs' := [.int _ _, .int _ _, .int _ _, .int _ _, .int _ _, .int _ _, .int _ _, .bool _]) (f' := true) rfl rfl rfl Try.sizeOf39 rfl rfl rfl rfl rfl) ?_
      | refine s0w rfl (lop_storeK (v := .agg [.int _ _, .int _ _, .int _ _, .int _ _, .int _ _, .int _ _, .int _ _, .bool _]) (cs' := [.int _ _, .int _ _, .int _ _, .int _ _, .int _ _, .int _ _, .int _ _, .bool _]) (f' := false) rfl rfl rfl Try.sizeOf39 rfl rfl rfl rfl rfl) ?_
    refine s1 rfl (lop_assign (v := .int _ _) rfl) ?_
    refine ops_nil ?_
    refine ok_ret ?_
    exact ret_gen (R := [4]) ⟨_, _, rfl, ⟨rfl, 4, 0, _, _, rfl, rfl, .inl ⟨8, Try.isAgg39, Try.sizeOf39, Nat.le_of_ble_eq_true rfl, rfl⟩⟩, _, _, rfl, ⟨rfl, rfl⟩, rfl⟩ (by rw [findG_no h_t12]; exact .tup (.cons (.agg (fzL_sound _ [4] _ rfl)) (.cons (.tf rfl) .nil))) (fun t ht => by simp at ht; subst ht; exact Option.some_ne_none _)
  · obtain ⟨i, hi, hix, hat, _⟩ := findG_at (z := SessD.zero) h_t12
    refine ok_skip ?_
    refine ok_reg ?_
    first
      | refine s1 rfl (lop_move (v := .sl _ _) rfl) ?_
      | refine s1 rfl (lop_move (v := .os _ _ _ _) rfl) ?_
      | refine s1 rfl (lop_move (v := .z0) rfl) ?_
    refine s1 rfl (lop_move (v := .int _ _) rfl) ?_
    first
      | refine s1 rfl (lop_indexAddr_os rfl rfl Try.underlying24 Try.sizeOf39 hix hi) ?_
      | refine s1 rfl (lop_indexAddr_sl rfl rfl Try.underlying24 Try.sizeOf39 hix hi (flat_at SessD.len hi) (flat_ne SessD.len (by decide) hi)) ?_
    first
      | refine s1 rfl (lop_load_rf_agg rfl rfl Try.isAgg39 Try.sizeOf39 (by rw [List.length_append, SessD.len]; omega) (by rw [List.take_append_of_le_length (by rw [SessD.len]; omega), List.take_of_length_le (by rw [SessD.len]; omega)])) ?_
      | refine s1 rfl (lop_load_fp_agg rfl Try.isAgg39 Try.sizeOf39 (by rw [List.length_append, SessD.len]; omega) (by rw [List.take_append_of_le_length (by rw [SessD.len]; omega), List.take_of_length_le (by rw [SessD.len]; omega)])) ?_
    refine s1 rfl (lop_move (v := .int _ _) rfl) ?_
    first
      | refine s0w rfl (lop_storeK (v := .agg [.int _ _, .int _ _, .int _ _, .int _ _, .int _ _, .int _ _, .int _ _, .bool _]) (cs' := [.int _ _, .int _ _, .int _ _, .int _ _, .int _ _, .int _ _, .int _ _, .bool _]) (f' := true) rfl rfl rfl Try.sizeOf39 rfl rfl rfl rfl rfl) ?_
      | refine s0w rfl (lop_storeK (v := .agg [.int _ _, .int _ _, .int _ _, .int _ _, .int _ _, .int _ _, .int _ _, .bool _]) (cs' := [.int _ _, .int _ _, .int _ _, .int _ _, .int _ _, .int _ _, .int _ _, .bool _]) (f' := false) rfl rfl rfl Try.sizeOf39 rfl rfl rfl rfl rfl) ?_
    refine s1 rfl (lop_assign (v := .int _ _) rfl) ?_
    refine ops_nil ?_
    refine ok_ret ?_
    exact ret_gen (R := [4]) ⟨_, _, rfl, ⟨rfl, 4, 0, _, _, rfl, rfl, .inl ⟨8, Try.isAgg39, Try.sizeOf39, Nat.le_of_ble_eq_true rfl, rfl⟩⟩, _, _, rfl, ⟨rfl, rfl⟩, rfl⟩ (by rw [hat, ← hix]; exact .tup (.cons (.agg (FrzL.tf rfl)) (.cons (.tf rfl) .nil))) (fun t ht => by simp at ht; subst ht; exact Option.some_ne_none _)

theorem find_Vol_ac {g : FuncId} {caps : List V} {p : VolD → Bool} {l : List VolD} (hl : l.length ≤ 549755813888) (hc : ∀ args w, (callFunc g args).run Try.prog w = .ok (.enter g args) w) (ht : tfL caps = true)
    (hp : ∀ x ∈ l, AC Try.prog g (.agg (VolD.enc x) :: caps) (.bool (p x))) : AC Try.prog 53 [rowOf VolD.enc l, .fn g caps] (.tup [.agg (findG (.zero : VolD) p l).1.enc, i64 (findG (.zero : VolD) p l).2]) := by
  refine AC.intro Try.func53 rfl (Nat.le_of_ble_eq_true rfl) ?_
  refine ok_reg ?_
  refine s1w rfl (lop_new (t := 4) (cs := [.int _ _, .int _ _, .int _ _, .int _ _, .int _ _, .z0, .z0, .int _ _, .int _ _]) Try.zeroValue50 rfl rfl rfl rfl) (by simp [freshAll, freshB, argEnv, rowOf, men, menL_of_tf _ _ ht]) ?_
  refine s1 rfl (lop_assign (v := .int _ _) rfl) ?_
  refine ops_nil ?_
  refine ok_reg ?_
  first
    | refine s1 rfl (lop_move (v := .sl _ _) rfl) ?_
    | refine s1 rfl (lop_move (v := .os _ _ _ _) rfl) ?_
    | refine s1 rfl (lop_move (v := .z0) rfl) ?_
  first
    | refine s1 rfl (lop_move (v := .fn _ _) rfl) ?_
    | refine s1 rfl (lop_move (v := _) rfl) ?_
  refine s1 rfl (lop_call rfl Try.call72 (FrzL.tf (show tfL [rowOf VolD.enc l, V.fn g caps] = true by simp only [tfL, tf, rowOf, ht, Bool.and_true])) (.inl rfl) (indexFunc_Vol_ac hl hc ht hp)) ?_
  refine s1 rfl (lop_assign (v := .int _ _) rfl) ?_
  refine ops_nil ?_
  refine ok_seq ?_
  refine ok_reg ?_
  refine s1 rfl (lop_move (v := .int _ _) rfl) ?_
  refine s1 rfl (lop_lss rfl rfl) ?_
  refine ops_nil ?_
  first
    | refine ok_if _ rfl rfl (fun h_t12 => ?_) (fun h_t12 => ?_)
    | refine ok_cond rfl rfl (fun h_t12 => ?_) (fun h_t12 => ?_)
  · refine ok_reg ?_
    refine s1w rfl (lop_new (t := 7) (cs := [.int _ _, .int _ _, .int _ _, .int _ _, .int _ _, .z0, .z0, .int _ _, .int _ _]) Try.zeroValue50 rfl rfl rfl rfl) (by simp [freshAll, freshB, argEnv, rowOf, men, menL_of_tf _ _ ht]; rfl) ?_
    refine ops_nil ?_
    refine ok_reg ?_
    first
      | refine s1 rfl (lop_load_rf_agg (ys := [.int _ _, .int _ _, .int _ _, .int _ _, .int _ _, _, _, .int _ _, .int _ _]) rfl rfl Try.isAgg50 Try.sizeOf50 (Nat.le_of_ble_eq_true rfl) rfl) ?_
      | refine s1 rfl (lop_load_fp_agg (ys := [.int _ _, .int _ _, .int _ _, .int _ _, .int _ _, _, _, .int _ _, .int _ _]) rfl Try.isAgg50 Try.sizeOf50 (Nat.le_of_ble_eq_true rfl) rfl) ?_
    first
      | refine s0w rfl (lop_storeK (v := .agg [.int _ _, .int _ _, .int _ _, .int _ _, .int _ _, _, _, .int _ _, .int _ _]) (cs' := [.int _ _, .int _ _, .int _ _, .int _ _, .int _ _, _, _, .int _ _, .int _ _]) (f' := true) rfl rfl rfl Try.sizeOf50 rfl rfl rfl rfl rfl) ?_
      | refine s0w rfl (lop_storeK (v := .agg [.int _ _, .int _ _, .int _ _, .int _ _, .int _ _, _, _, .int _ _, .int _ _]) (cs' := [.int _ _, .int _ _, .int _ _, .int _ _, .int _ _, _, _, .int _ _, .int _ _]) (f' := false) rfl rfl rfl Try.sizeOf50 rfl rfl rfl rfl rfl) ?_
    refine s1 rfl (lop_assign (v := .int _ _) rfl) ?_
    refine ops_nil ?_
    refine ok_ret ?_
    exact ret_gen (R := [4]) ⟨_, _, rfl, ⟨rfl, 4, 0, _, _, rfl, rfl, .inl ⟨9, Try.isAgg50, Try.sizeOf50, Nat.le_of_ble_eq_true rfl, rfl⟩⟩, _, _, rfl, ⟨rfl, rfl⟩, rfl⟩ (by rw [findG_no h_t12]; exact .tup (.cons (.agg (fzL_sound _ [4] _ rfl)) (.cons (.tf rfl) .nil))) (fun t ht => by simp at ht; subst ht; exact Option.some_ne_none _)
  · obtain ⟨i, hi, hix, hat, _⟩ := findG_at (z := VolD.zero) h_t12
    refine ok_skip ?_
    refine ok_reg ?_
    first
      | refine s1 rfl (lop_move (v := .sl _ _) rfl) ?_
      | refine s1 rfl (lop_move (v := .os _ _ _ _) rfl) ?_
      | refine s1 rfl (lop_move (v := .z0) rfl) ?_
    refine s1 rfl (lop_move (v := .int _ _) rfl) ?_
    first
      | refine s1 rfl (lop_indexAddr_os rfl rfl Try.underlying22 Try.sizeOf50 hix hi) ?_
      | refine s1 rfl (lop_indexAddr_sl rfl rfl Try.underlying22 Try.sizeOf50 hix hi (flat_at VolD.len hi) (flat_ne VolD.len (by decide) hi)) ?_
    first
      | refine s1 rfl (lop_load_rf_agg rfl rfl Try.isAgg50 Try.sizeOf50 (by rw [List.length_append, VolD.len]; omega) (by rw [List.take_append_of_le_length (by rw [VolD.len]; omega), List.take_of_length_le (by rw [VolD.len]; omega)])) ?_
      | refine s1 rfl (lop_load_fp_agg rfl Try.isAgg50 Try.sizeOf50 (by rw [List.length_append, VolD.len]; omega) (by rw [List.take_append_of_le_length (by rw [VolD.len]; omega), List.take_of_length_le (by rw [VolD.len]; omega)])) ?_
    refine s1 rfl (lop_move (v := .int _ _) rfl) ?_
    first
      | refine s0w rfl (lop_storeK (v := .agg [.int _ _, .int _ _, .int _ _, .int _ _, .int _ _, _, _, .int _ _, .int _ _]) (cs' := [.int _ _, .int _ _, .int _ _, .int _ _, .int _ _, _, _, .int _ _, .int _ _]) (f' := true) rfl rfl rfl Try.sizeOf50 rfl rfl rfl rfl rfl) ?_
      | refine s0w rfl (lop_storeK (v := .agg [.int _ _, .int _ _, .int _ _, .int _ _, .int _ _, _, _, .int _ _, .int _ _]) (cs' := [.int _ _, .int _ _, .int _ _, .int _ _, .int _ _, _, _, .int _ _, .int _ _]) (f' := false) rfl rfl rfl Try.sizeOf50 rfl rfl rfl rfl rfl) ?_
    refine s1 rfl (lop_assign (v := .int _ _) rfl) ?_
    refine ops_nil ?_
    refine ok_ret ?_
    exact ret_gen (R := [4]) ⟨_, _, rfl, ⟨rfl, 4, 0, _, _, rfl, rfl, .inl ⟨9, Try.isAgg50, Try.sizeOf50, Nat.le_of_ble_eq_true rfl, rfl⟩⟩, _, _, rfl, ⟨rfl, rfl⟩, rfl⟩ (by rw [hat, ← hix]; exact .tup (.cons (.agg (FrzL.tf rfl)) (.cons (.tf rfl) .nil))) (fun t ht => by simp at ht; subst ht; exact Option.some_ne_none _)

theorem find_Name_ac {g : FuncId} {caps : List V} {p : NameD → Bool} {l : List NameD} (hl : l.length ≤ 549755813888) (hc : ∀ args w, (callFunc g args).run Try.prog w = .ok (.enter g args) w) (ht : tfL caps = true)
    (hp : ∀ x ∈ l, AC Try.prog g (.agg (NameD.enc x) :: caps) (.bool (p x))) : AC Try.prog 55 [rowOf NameD.enc l, .fn g caps] (.tup [.agg (findG (.zero : NameD) p l).1.enc, i64 (findG (.zero : NameD) p l).2]) := by
  refine AC.intro Try.func55 rfl (Nat.le_of_ble_eq_true rfl) ?_
  refine ok_reg ?_
  refine s1w rfl (lop_new (t := 4) (cs := [.str _, .int _ _, .int _ _, .int _ _, .int _ _]) Try.zeroValue47 rfl rfl rfl rfl) (by simp [freshAll, freshB, argEnv, rowOf, men, menL_of_tf _ _ ht]) ?_
  refine s1 rfl (lop_assign (v := .int _ _) rfl) ?_
  refine ops_nil ?_
  refine ok_reg ?_
  first
    | refine s1 rfl (lop_move (v := .sl _ _) rfl) ?_
    | refine s1 rfl (lop_move (v := .os _ _ _ _) rfl) ?_
    | refine s1 rfl (lop_move (v := .z0) rfl) ?_
  first
    | refine s1 rfl (lop_move (v := .fn _ _) rfl) ?_
    | refine s1 rfl (lop_move (v := _) rfl) ?_
  refine s1 rfl (lop_call rfl Try.call73 (FrzL.tf (show tfL [rowOf NameD.enc l, V.fn g caps] = true by simp only [tfL, tf, rowOf, ht, Bool.and_true])) (.inl rfl) (indexFunc_Name_ac hl hc ht hp)) ?_
  refine s1 rfl (lop_assign (v := .int _ _) rfl) ?_
  refine ops_nil ?_
  refine ok_seq ?_
  refine ok_reg ?_
  refine s1 rfl (lop_move (v := .int _ _) rfl) ?_
  refine s1 rfl (lop_lss rfl rfl) ?_
  refine ops_nil ?_
  first
    | refine ok_if _ rfl rfl (fun h_t12 => ?_) (fun h_t12 => ?_)
    | refine ok_cond rfl rfl (fun h_t12 => ?_) (fun h_t12 => ?_)
  · refine ok_reg ?_
    refine s1w rfl (lop_new (t := 7) (cs := [.str _, .int _ _, .int _ _, .int _ _, .int _ _]) Try.zeroValue47 rfl rfl rfl rfl) (by simp [freshAll, freshB, argEnv, rowOf, men, menL_of_tf _ _ ht]; rfl) ?_
    refine ops_nil ?_
    refine ok_reg ?_
    first
      | refine s1 rfl (lop_load_rf_agg (ys := [.str _, .int _ _, .int _ _, .int _ _, .int _ _]) rfl rfl Try.isAgg47 Try.sizeOf47 (Nat.le_of_ble_eq_true rfl) rfl) ?_
      | refine s1 rfl (lop_load_fp_agg (ys := [.str _, .int _ _, .int _ _, .int _ _, .int _ _]) rfl Try.isAgg47 Try.sizeOf47 (Nat.le_of_ble_eq_true rfl) rfl) ?_
    first
      | refine s0w rfl (lop_storeK (v := .agg [.str _, .int _ _, .int _ _, .int _ _, .int _ _]) (cs' := [.str _, .int _ _, .int _ _, .int _ _, .int _ _]) (f' := true) rfl rfl rfl Try.sizeOf47 rfl rfl rfl rfl rfl) ?_
      | refine s0w rfl (lop_storeK (v := .agg [.str _, .int _ _, .int _ _, .int _ _, .int _ _]) (cs' := [.str _, .int _ _, .int _ _, .int _ _, .int _ _]) (f' := false) rfl rfl rfl Try.sizeOf47 rfl rfl rfl rfl rfl) ?_
    refine s1 rfl (lop_assign (v := .int _ _) rfl) ?_
    refine ops_nil ?_
    refine ok_ret ?_
    exact ret_gen (R := [4]) ⟨_, _, rfl, ⟨rfl, 4, 0, _, _, rfl, rfl, .inl ⟨5, Try.isAgg47, Try.sizeOf47, Nat.le_of_ble_eq_true rfl, rfl⟩⟩, _, _, rfl, ⟨rfl, rfl⟩, rfl⟩ (by rw [findG_no h_t12]; exact .tup (.cons (.agg (fzL_sound _ [4] _ rfl)) (.cons (.tf rfl) .nil))) (fun t ht => by simp at ht; subst ht; exact Option.some_ne_none _)
  · obtain ⟨i, hi, hix, hat, _⟩ := findG_at (z := NameD.zero) h_t12
    refine ok_skip ?_
    refine ok_reg ?_
    first
      | refine s1 rfl (lop_move (v := .sl _ _) rfl) ?_
      | refine s1 rfl (lop_move (v := .os _ _ _ _) rfl) ?_
      | refine s1 rfl (lop_move (v := .z0) rfl) ?_
    refine s1 rfl (lop_move (v := .int _ _) rfl) ?_
    first
      | refine s1 rfl (lop_indexAddr_os rfl rfl Try.underlying23 Try.sizeOf47 hix hi) ?_
      | refine s1 rfl (lop_indexAddr_sl rfl rfl Try.underlying23 Try.sizeOf47 hix hi (flat_at NameD.len hi) (flat_ne NameD.len (by decide) hi)) ?_
    first
      | refine s1 rfl (lop_load_rf_agg rfl rfl Try.isAgg47 Try.sizeOf47 (by rw [List.length_append, NameD.len]; omega) (by rw [List.take_append_of_le_length (by rw [NameD.len]; omega), List.take_of_length_le (by rw [NameD.len]; omega)])) ?_
      | refine s1 rfl (lop_load_fp_agg rfl Try.isAgg47 Try.sizeOf47 (by rw [List.length_append, NameD.len]; omega) (by rw [List.take_append_of_le_length (by rw [NameD.len]; omega), List.take_of_length_le (by rw [NameD.len]; omega)])) ?_
    refine s1 rfl (lop_move (v := .int _ _) rfl) ?_
    first
      | refine s0w rfl (lop_storeK (v := .agg [.str _, .int _ _, .int _ _, .int _ _, .int _ _]) (cs' := [.str _, .int _ _, .int _ _, .int _ _, .int _ _]) (f' := true) rfl rfl rfl Try.sizeOf47 rfl rfl rfl rfl rfl) ?_
      | refine s0w rfl (lop_storeK (v := .agg [.str _, .int _ _, .int _ _, .int _ _, .int _ _]) (cs' := [.str _, .int _ _, .int _ _, .int _ _, .int _ _]) (f' := false) rfl rfl rfl Try.sizeOf47 rfl rfl rfl rfl rfl) ?_
    refine s1 rfl (lop_assign (v := .int _ _) rfl) ?_
    refine ops_nil ?_
    refine ok_ret ?_
    exact ret_gen (R := [4]) ⟨_, _, rfl, ⟨rfl, 4, 0, _, _, rfl, rfl, .inl ⟨5, Try.isAgg47, Try.sizeOf47, Nat.le_of_ble_eq_true rfl, rfl⟩⟩, _, _, rfl, ⟨rfl, rfl⟩, rfl⟩ (by rw [hat, ← hix]; exact .tup (.cons (.agg (FrzL.tf rfl)) (.cons (.tf rfl) .nil))) (fun t ht => by simp at ht; subst ht; exact Option.some_ne_none _)

theorem vol1_ac (x : VolD) (id : Int) : AC Try.prog 54 [.agg x.enc, .fp [i64 id]] (.bool (decide (x.id = id))) := by
  refine AC.intro Try.func54 rfl (Nat.le_of_ble_eq_true rfl) ?_
  refine ok_reg ?_
  first
    | refine s1w rfl (lop_box (t := 2) (v := .agg [.int _ _, .int _ _, .int _ _, .int _ _, .int _ _, _, _, .int _ _, .int _ _]) (f := true) (cs := [.int _ _, .int _ _, .int _ _, .int _ _, .int _ _, _, _, .int _ _, .int _ _]) rfl rfl rfl rfl (fun h => by cases h)) rfl ?_
    | refine s1w rfl (lop_box (t := 2) (v := .agg [.int _ _, .int _ _, .int _ _, .int _ _, .int _ _, _, _, .int _ _, .int _ _]) (f := false) (cs := [.int _ _, .int _ _, .int _ _, .int _ _, .int _ _, _, _, .int _ _, .int _ _]) rfl rfl rfl rfl (fun _ => rfl)) rfl ?_
  refine s1 rfl (lop_assign (v := .bool _) rfl) ?_
  refine ops_nil ?_
  refine ok_reg ?_
  first
    | refine s1 rfl (lop_fieldAddr_rf (fo := 0) rfl Try.underlying50 rfl rfl Try.sizeOf3 (by decide)) ?_
    | refine s1 rfl (lop_fieldAddr_fp (fo := 0) rfl Try.underlying50 rfl rfl Try.sizeOf3 (by decide) rfl) ?_
  first
    | refine s1 rfl (lop_load_rf rfl rfl Try.isAgg3 rfl) ?_
    | refine s1 rfl (lop_load_fp rfl Try.isAgg3 rfl) ?_
  first
    | refine s1 rfl (lop_load_rf rfl rfl Try.isAgg3 rfl) ?_
    | refine s1 rfl (lop_load_fp rfl Try.isAgg3 rfl) ?_
  refine s1 rfl (lop_eql rfl rfl) ?_
  refine s1 rfl (lop_assign (v := .bool _) rfl) ?_
  refine ops_nil ?_
  refine ok_ret ?_
  exact ret_one rfl rfl rfl rfl rfl

theorem name1_ac (x : NameD) (s : ByteArray) : AC Try.prog 56 [.agg x.enc, .fp [.str s]] (.bool (decide (x.name = s))) := by
  refine AC.intro Try.func56 rfl (Nat.le_of_ble_eq_true rfl) ?_
  refine ok_reg ?_
  first
    | refine s1w rfl (lop_box (t := 2) (v := .agg [.str _, .int _ _, .int _ _, .int _ _, .int _ _]) (f := true) (cs := [.str _, .int _ _, .int _ _, .int _ _, .int _ _]) rfl rfl rfl rfl (fun h => by cases h)) rfl ?_
    | refine s1w rfl (lop_box (t := 2) (v := .agg [.str _, .int _ _, .int _ _, .int _ _, .int _ _]) (f := false) (cs := [.str _, .int _ _, .int _ _, .int _ _, .int _ _]) rfl rfl rfl rfl (fun _ => rfl)) rfl ?_
  refine s1 rfl (lop_assign (v := .bool _) rfl) ?_
  refine ops_nil ?_
  refine ok_reg ?_
  first
    | refine s1 rfl (lop_fieldAddr_rf (fo := 0) rfl Try.underlying47 rfl rfl Try.sizeOf9 (by decide)) ?_
    | refine s1 rfl (lop_fieldAddr_fp (fo := 0) rfl Try.underlying47 rfl rfl Try.sizeOf9 (by decide) rfl) ?_
  first
    | refine s1 rfl (lop_load_rf rfl rfl Try.isAgg9 rfl) ?_
    | refine s1 rfl (lop_load_fp rfl Try.isAgg9 rfl) ?_
  first
    | refine s1 rfl (lop_load_rf rfl rfl Try.isAgg9 rfl) ?_
    | refine s1 rfl (lop_load_fp rfl Try.isAgg9 rfl) ?_
  refine s1 rfl (lop_seql rfl rfl) ?_
  refine s1 rfl (lop_assign (v := .bool _) rfl) ?_
  refine ops_nil ?_
  refine ok_ret ?_
  exact ret_one rfl rfl rfl rfl rfl

theorem last1_ac (x : SessD) (id : Int) : AC Try.prog 28 [.agg x.enc, .fp [i64 id]] (.bool (decide (x.client = id))) := by
  refine AC.intro Try.func28 rfl (Nat.le_of_ble_eq_true rfl) ?_
  refine ok_reg ?_
  first
    | refine s1w rfl (lop_box (t := 2) (v := .agg [.int _ _, .int _ _, .int _ _, .int _ _, .int _ _, .int _ _, .int _ _, .bool _]) (f := true) (cs := [.int _ _, .int _ _, .int _ _, .int _ _, .int _ _, .int _ _, .int _ _, .bool _]) rfl rfl rfl rfl (fun h => by cases h)) rfl ?_
    | refine s1w rfl (lop_box (t := 2) (v := .agg [.int _ _, .int _ _, .int _ _, .int _ _, .int _ _, .int _ _, .int _ _, .bool _]) (f := false) (cs := [.int _ _, .int _ _, .int _ _, .int _ _, .int _ _, .int _ _, .int _ _, .bool _]) rfl rfl rfl rfl (fun _ => rfl)) rfl ?_
  refine s1 rfl (lop_assign (v := .bool _) rfl) ?_
  refine ops_nil ?_
  refine ok_reg ?_
  first
    | refine s1 rfl (lop_fieldAddr_rf (fo := 0) rfl Try.underlying39 rfl rfl Try.sizeOf3 (by decide)) ?_
    | refine s1 rfl (lop_fieldAddr_fp (fo := 0) rfl Try.underlying39 rfl rfl Try.sizeOf3 (by decide) rfl) ?_
  first
    | refine s1 rfl (lop_load_rf rfl rfl Try.isAgg3 rfl) ?_
    | refine s1 rfl (lop_load_fp rfl Try.isAgg3 rfl) ?_
  first
    | refine s1 rfl (lop_load_rf rfl rfl Try.isAgg3 rfl) ?_
    | refine s1 rfl (lop_load_fp rfl Try.isAgg3 rfl) ?_
  refine s1 rfl (lop_eql rfl rfl) ?_
  refine s1 rfl (lop_assign (v := .bool _) rfl) ?_
  refine ops_nil ?_
  refine ok_ret ?_
  exact ret_one rfl rfl rfl rfl rfl

theorem do1_ac (x : SessD) (c : CmdD) : AC Try.prog 26 [.agg x.enc, .fp c.enc] (.bool (decide (x.client = c.client))) := by
  refine AC.intro Try.func26 rfl (Nat.le_of_ble_eq_true rfl) ?_
  refine ok_reg ?_
  first
    | refine s1w rfl (lop_box (t := 2) (v := .agg [.int _ _, .int _ _, .int _ _, .int _ _, .int _ _, .int _ _, .int _ _, .bool _]) (f := true) (cs := [.int _ _, .int _ _, .int _ _, .int _ _, .int _ _, .int _ _, .int _ _, .bool _]) rfl rfl rfl rfl (fun h => by cases h)) rfl ?_
    | refine s1w rfl (lop_box (t := 2) (v := .agg [.int _ _, .int _ _, .int _ _, .int _ _, .int _ _, .int _ _, .int _ _, .bool _]) (f := false) (cs := [.int _ _, .int _ _, .int _ _, .int _ _, .int _ _, .int _ _, .int _ _, .bool _]) rfl rfl rfl rfl (fun _ => rfl)) rfl ?_
  refine s1 rfl (lop_assign (v := .bool _) rfl) ?_
  refine ops_nil ?_
  refine ok_reg ?_
  first
    | refine s1 rfl (lop_fieldAddr_rf (fo := 0) rfl Try.underlying39 rfl rfl Try.sizeOf3 (by decide)) ?_
    | refine s1 rfl (lop_fieldAddr_fp (fo := 0) rfl Try.underlying39 rfl rfl Try.sizeOf3 (by decide) rfl) ?_
  first
    | refine s1 rfl (lop_load_rf rfl rfl Try.isAgg3 rfl) ?_
    | refine s1 rfl (lop_load_fp rfl Try.isAgg3 rfl) ?_
  first
    | refine s1 rfl (lop_fieldAddr_rf (fo := 1) rfl Try.underlying30 rfl rfl Try.sizeOf3 (by decide)) ?_
    | refine s1 rfl (lop_fieldAddr_fp (fo := 1) rfl Try.underlying30 rfl rfl Try.sizeOf3 (by decide) rfl) ?_
  first
    | refine s1 rfl (lop_load_rf rfl rfl Try.isAgg3 rfl) ?_
    | refine s1 rfl (lop_load_fp rfl Try.isAgg3 rfl) ?_
  refine s1 rfl (lop_eql rfl rfl) ?_
  refine s1 rfl (lop_assign (v := .bool _) rfl) ?_
  refine ops_nil ?_
  refine ok_ret ?_
  exact ret_one rfl rfl rfl rfl rfl

theorem put1_ac (x : NameD) (c : CmdD) : AC Try.prog 65 [.agg x.enc, .fp c.enc] (.bool (sgt x.name c.name)) := by
  refine AC.intro Try.func65 rfl (Nat.le_of_ble_eq_true rfl) ?_
  refine ok_reg ?_
  first
    | refine s1w rfl (lop_box (t := 2) (v := .agg [.str _, .int _ _, .int _ _, .int _ _, .int _ _]) (f := true) (cs := [.str _, .int _ _, .int _ _, .int _ _, .int _ _]) rfl rfl rfl rfl (fun h => by cases h)) rfl ?_
    | refine s1w rfl (lop_box (t := 2) (v := .agg [.str _, .int _ _, .int _ _, .int _ _, .int _ _]) (f := false) (cs := [.str _, .int _ _, .int _ _, .int _ _, .int _ _]) rfl rfl rfl rfl (fun _ => rfl)) rfl ?_
  refine s1 rfl (lop_assign (v := .bool _) rfl) ?_
  refine ops_nil ?_
  refine ok_reg ?_
  first
    | refine s1 rfl (lop_fieldAddr_rf (fo := 0) rfl Try.underlying47 rfl rfl Try.sizeOf9 (by decide)) ?_
    | refine s1 rfl (lop_fieldAddr_fp (fo := 0) rfl Try.underlying47 rfl rfl Try.sizeOf9 (by decide) rfl) ?_
  first
    | refine s1 rfl (lop_load_rf rfl rfl Try.isAgg9 rfl) ?_
    | refine s1 rfl (lop_load_fp rfl Try.isAgg9 rfl) ?_
  first
    | refine s1 rfl (lop_fieldAddr_rf (fo := 3) rfl Try.underlying30 rfl rfl Try.sizeOf9 (by decide)) ?_
    | refine s1 rfl (lop_fieldAddr_fp (fo := 3) rfl Try.underlying30 rfl rfl Try.sizeOf9 (by decide) rfl) ?_
  first
    | refine s1 rfl (lop_load_rf rfl rfl Try.isAgg9 rfl) ?_
    | refine s1 rfl (lop_load_fp rfl Try.isAgg9 rfl) ?_
  refine s1 rfl (lop_sgtr rfl rfl) ?_
  refine s1 rfl (lop_assign (v := .bool _) rfl) ?_
  refine ops_nil ?_
  refine ok_ret ?_
  exact ret_one rfl rfl rfl rfl rfl

theorem index_vol_ac (x : IdxD) (hx : x.vols.length ≤ 549755813888) (id : Int) : AC Try.prog 30 [.agg x.enc, i64 id] (.tup [.agg (volF x id).1.enc, i64 (volF x id).2]) := by
  refine AC.intro Try.func30 rfl (Nat.le_of_ble_eq_true rfl) ?_
  refine ok_reg ?_
  first
    | refine s1w rfl (lop_box (t := 2) (v := .agg [_, _, _]) (f := true) (cs := [_, _, _]) rfl rfl rfl rfl (fun h => by cases h)) rfl ?_
    | refine s1w rfl (lop_box (t := 2) (v := .agg [_, _, _]) (f := false) (cs := [_, _, _]) rfl rfl rfl rfl (fun _ => rfl)) rfl ?_
  first
    | refine s1w rfl (lop_box (t := 3) (v := .int _ _) (f := true) (cs := [.int _ _]) rfl rfl rfl rfl (fun h => by cases h)) rfl ?_
    | refine s1w rfl (lop_box (t := 3) (v := .int _ _) (f := false) (cs := [.int _ _]) rfl rfl rfl rfl (fun _ => rfl)) rfl ?_
  refine s1w rfl (lop_new (t := 4) (cs := [.int _ _, .int _ _, .int _ _, .int _ _, .int _ _, .z0, .z0, .int _ _, .int _ _]) Try.zeroValue50 rfl rfl rfl rfl) rfl ?_
  refine s1 rfl (lop_assign (v := .int _ _) rfl) ?_
  refine ops_nil ?_
  refine ok_reg ?_
  first
    | refine s1 rfl (lop_fieldAddr_rf (fo := 0) rfl Try.underlying26 rfl rfl Try.sizeOf22 (by decide)) ?_
    | refine s1 rfl (lop_fieldAddr_fp (fo := 0) rfl Try.underlying26 rfl rfl Try.sizeOf22 (by decide) rfl) ?_
  first
    | refine s1 rfl (lop_load_rf rfl rfl Try.isAgg22 rfl) ?_
    | refine s1 rfl (lop_load_fp rfl Try.isAgg22 rfl) ?_
  first
    | refine s1 rfl (lop_func (vs := [.rf _ _]) rfl) ?_
    | refine s1 rfl (lop_func (vs := [.fp _]) rfl) ?_
  refine ops_le (T := ⟨[(4, .rf 4 0), (7, rowOf VolD.enc x.vols), (8, .fn 54 [.fp [i64 id]])], [(4, some (true, [i64 0, i64 0, i64 0, i64 0, i64 0, .z0, .z0, i64 0, i64 0]))], 12⟩) (le_frz [3] ⟨.inl ⟨rfl, rfl⟩, .inl ⟨rfl, rfl⟩, .inr (fz_sound _ [3] _ rfl), trivial⟩ ⟨.inr ⟨rfl, rfl, trivial⟩, trivial⟩ (fun t ht => by simp at ht; subst ht; exact Option.some_ne_none _) rfl) ?_
  refine s1 rfl (lop_call rfl Try.call53 (FrzL.tf rfl) (.inl rfl) (find_Vol_ac hx Try.call54 rfl (fun v _ => vol1_ac v id))) ?_
  refine s1 rfl (lop_extract rfl rfl) ?_
  refine s1 rfl (lop_extract rfl rfl) ?_
  first
    | refine s0w rfl (lop_storeK (v := .agg [.int _ _, .int _ _, .int _ _, .int _ _, .int _ _, _, _, .int _ _, .int _ _]) (cs' := [.int _ _, .int _ _, .int _ _, .int _ _, .int _ _, _, _, .int _ _, .int _ _]) (f' := true) rfl rfl rfl Try.sizeOf50 rfl rfl rfl rfl rfl) ?_
    | refine s0w rfl (lop_storeK (v := .agg [.int _ _, .int _ _, .int _ _, .int _ _, .int _ _, _, _, .int _ _, .int _ _]) (cs' := [.int _ _, .int _ _, .int _ _, .int _ _, .int _ _, _, _, .int _ _, .int _ _]) (f' := false) rfl rfl rfl Try.sizeOf50 rfl rfl rfl rfl rfl) ?_
  refine s1 rfl (lop_assign (v := .int _ _) rfl) ?_
  refine ops_nil ?_
  refine ok_ret ?_
  exact ret_gen (R := [4]) ⟨_, _, rfl, ⟨rfl, 4, 0, _, _, rfl, rfl, .inl ⟨9, Try.isAgg50, Try.sizeOf50, Nat.le_of_ble_eq_true rfl, rfl⟩⟩, _, _, rfl, ⟨rfl, rfl⟩, rfl⟩ (by exact .tup (.cons (.agg (FrzL.tf rfl)) (.cons (.tf rfl) .nil))) (fun t ht => by simp at ht; subst ht; exact Option.some_ne_none _)

theorem index_name_ac (x : IdxD) (hx : x.names.length ≤ 549755813888) (s : ByteArray) : AC Try.prog 31 [.agg x.enc, .str s] (.tup [.agg (nameF x s).1.enc, i64 (nameF x s).2]) := by
  refine AC.intro Try.func31 rfl (Nat.le_of_ble_eq_true rfl) ?_
  refine ok_reg ?_
  first
    | refine s1w rfl (lop_box (t := 2) (v := .agg [_, _, _]) (f := true) (cs := [_, _, _]) rfl rfl rfl rfl (fun h => by cases h)) rfl ?_
    | refine s1w rfl (lop_box (t := 2) (v := .agg [_, _, _]) (f := false) (cs := [_, _, _]) rfl rfl rfl rfl (fun _ => rfl)) rfl ?_
  first
    | refine s1w rfl (lop_box (t := 3) (v := .str _) (f := true) (cs := [.str _]) rfl rfl rfl rfl (fun h => by cases h)) rfl ?_
    | refine s1w rfl (lop_box (t := 3) (v := .str _) (f := false) (cs := [.str _]) rfl rfl rfl rfl (fun _ => rfl)) rfl ?_
  refine s1w rfl (lop_new (t := 4) (cs := [.str _, .int _ _, .int _ _, .int _ _, .int _ _]) Try.zeroValue47 rfl rfl rfl rfl) rfl ?_
  refine s1 rfl (lop_assign (v := .int _ _) rfl) ?_
  refine ops_nil ?_
  refine ok_reg ?_
  first
    | refine s1 rfl (lop_fieldAddr_rf (fo := 1) rfl Try.underlying26 rfl rfl Try.sizeOf23 (by decide)) ?_
    | refine s1 rfl (lop_fieldAddr_fp (fo := 1) rfl Try.underlying26 rfl rfl Try.sizeOf23 (by decide) rfl) ?_
  first
    | refine s1 rfl (lop_load_rf rfl rfl Try.isAgg23 rfl) ?_
    | refine s1 rfl (lop_load_fp rfl Try.isAgg23 rfl) ?_
  first
    | refine s1 rfl (lop_func (vs := [.rf _ _]) rfl) ?_
    | refine s1 rfl (lop_func (vs := [.fp _]) rfl) ?_
  refine ops_le (T := ⟨[(4, .rf 4 0), (7, rowOf NameD.enc x.names), (8, .fn 56 [.fp [.str s]])], [(4, some (true, NameD.zero.enc))], 12⟩) (le_frz [3] ⟨.inl ⟨rfl, rfl⟩, .inl ⟨rfl, rfl⟩, .inr (fz_sound _ [3] _ rfl), trivial⟩ ⟨.inr ⟨rfl, rfl, trivial⟩, trivial⟩ (fun t ht => by simp at ht; subst ht; exact Option.some_ne_none _) rfl) ?_
  refine s1 rfl (lop_call rfl Try.call55 (FrzL.tf rfl) (.inl rfl) (find_Name_ac hx Try.call56 rfl (fun v _ => name1_ac v s))) ?_
  refine s1 rfl (lop_extract rfl rfl) ?_
  refine s1 rfl (lop_extract rfl rfl) ?_
  first
    | refine s0w rfl (lop_storeK (v := .agg [.str _, .int _ _, .int _ _, .int _ _, .int _ _]) (cs' := [.str _, .int _ _, .int _ _, .int _ _, .int _ _]) (f' := true) rfl rfl rfl Try.sizeOf47 rfl rfl rfl rfl rfl) ?_
    | refine s0w rfl (lop_storeK (v := .agg [.str _, .int _ _, .int _ _, .int _ _, .int _ _]) (cs' := [.str _, .int _ _, .int _ _, .int _ _, .int _ _]) (f' := false) rfl rfl rfl Try.sizeOf47 rfl rfl rfl rfl rfl) ?_
  refine s1 rfl (lop_assign (v := .int _ _) rfl) ?_
  refine ops_nil ?_
  refine ok_ret ?_
  exact ret_gen (R := [4]) ⟨_, _, rfl, ⟨rfl, 4, 0, _, _, rfl, rfl, .inl ⟨5, Try.isAgg47, Try.sizeOf47, Nat.le_of_ble_eq_true rfl, rfl⟩⟩, _, _, rfl, ⟨rfl, rfl⟩, rfl⟩ (by exact .tup (.cons (.agg (FrzL.tf rfl)) (.cons (.tf rfl) .nil))) (fun t ht => by simp at ht; subst ht; exact Option.some_ne_none _)

theorem index_Last_ac (x : IdxD) (hx : x.last.length ≤ 549755813888) (id : Int) : AC Try.prog 12 [.agg x.enc, i64 id] (.tup [.agg (lastF x id).1.enc, .bool (decide (0 ≤ (lastF x id).2))]) := by
  refine AC.intro Try.func12 rfl (Nat.le_of_ble_eq_true rfl) ?_
  refine ok_reg ?_
  first
    | refine s1w rfl (lop_box (t := 2) (v := .agg [_, _, _]) (f := true) (cs := [_, _, _]) rfl rfl rfl rfl (fun h => by cases h)) rfl ?_
    | refine s1w rfl (lop_box (t := 2) (v := .agg [_, _, _]) (f := false) (cs := [_, _, _]) rfl rfl rfl rfl (fun _ => rfl)) rfl ?_
  first
    | refine s1w rfl (lop_box (t := 3) (v := .int _ _) (f := true) (cs := [.int _ _]) rfl rfl rfl rfl (fun h => by cases h)) rfl ?_
    | refine s1w rfl (lop_box (t := 3) (v := .int _ _) (f := false) (cs := [.int _ _]) rfl rfl rfl rfl (fun _ => rfl)) rfl ?_
  refine s1w rfl (lop_new (t := 4) (cs := [.int _ _, .int _ _, .int _ _, .int _ _, .int _ _, .int _ _, .int _ _, .bool _]) Try.zeroValue39 rfl rfl rfl rfl) rfl ?_
  refine s1 rfl (lop_assign (v := .bool _) rfl) ?_
  refine ops_nil ?_
  refine ok_reg ?_
  first
    | refine s1 rfl (lop_fieldAddr_rf (fo := 2) rfl Try.underlying26 rfl rfl Try.sizeOf24 (by decide)) ?_
    | refine s1 rfl (lop_fieldAddr_fp (fo := 2) rfl Try.underlying26 rfl rfl Try.sizeOf24 (by decide) rfl) ?_
  first
    | refine s1 rfl (lop_load_rf rfl rfl Try.isAgg24 rfl) ?_
    | refine s1 rfl (lop_load_fp rfl Try.isAgg24 rfl) ?_
  first
    | refine s1 rfl (lop_func (vs := [.rf _ _]) rfl) ?_
    | refine s1 rfl (lop_func (vs := [.fp _]) rfl) ?_
  refine ops_le (T := ⟨[(4, .rf 4 0), (10, rowOf SessD.enc x.last), (11, .fn 28 [.fp [i64 id]])], [(4, some (true, SessD.zero.enc))], 18⟩) (le_frz [3] ⟨.inl ⟨rfl, rfl⟩, .inl ⟨rfl, rfl⟩, .inr (fz_sound _ [3] _ rfl), trivial⟩ ⟨.inr ⟨rfl, rfl, trivial⟩, trivial⟩ (fun t ht => by simp at ht; subst ht; exact Option.some_ne_none _) rfl) ?_
  refine s1 rfl (lop_call rfl Try.call25 (FrzL.tf rfl) (.inl rfl) (find_Sess_ac hx Try.call28 rfl (fun v _ => last1_ac v id))) ?_
  refine s1 rfl (lop_move (v := .tup _) rfl) ?_
  refine s1 rfl (lop_extract rfl rfl) ?_
  refine s1 rfl (lop_extract rfl rfl) ?_
  refine s1w rfl (lop_new (t := 6) (cs := [.int _ _, .int _ _, .int _ _, .int _ _, .int _ _, .int _ _, .int _ _, .bool _]) Try.zeroValue39 rfl rfl rfl rfl) rfl ?_
  first
    | refine s0w rfl (lop_storeK (v := .agg [.int _ _, .int _ _, .int _ _, .int _ _, .int _ _, .int _ _, .int _ _, .bool _]) (cs' := [.int _ _, .int _ _, .int _ _, .int _ _, .int _ _, .int _ _, .int _ _, .bool _]) (f' := true) rfl rfl rfl Try.sizeOf39 rfl rfl rfl rfl rfl) ?_
    | refine s0w rfl (lop_storeK (v := .agg [.int _ _, .int _ _, .int _ _, .int _ _, .int _ _, .int _ _, .int _ _, .bool _]) (cs' := [.int _ _, .int _ _, .int _ _, .int _ _, .int _ _, .int _ _, .int _ _, .bool _]) (f' := false) rfl rfl rfl Try.sizeOf39 rfl rfl rfl rfl rfl) ?_
  refine s1 rfl (lop_assign (v := .int _ _) rfl) ?_
  refine ops_nil ?_
  refine ok_reg ?_
  first
    | refine s1 rfl (lop_load_rf_agg (ys := [.int _ _, .int _ _, .int _ _, .int _ _, .int _ _, .int _ _, .int _ _, .bool _]) rfl rfl Try.isAgg39 Try.sizeOf39 (Nat.le_of_ble_eq_true rfl) rfl) ?_
    | refine s1 rfl (lop_load_fp_agg (ys := [.int _ _, .int _ _, .int _ _, .int _ _, .int _ _, .int _ _, .int _ _, .bool _]) rfl Try.isAgg39 Try.sizeOf39 (Nat.le_of_ble_eq_true rfl) rfl) ?_
  refine s1 rfl (lop_move (v := .int _ _) rfl) ?_
  refine s1 rfl (lop_geq rfl rfl) ?_
  first
    | refine s0w rfl (lop_storeK (v := .agg [.int _ _, .int _ _, .int _ _, .int _ _, .int _ _, .int _ _, .int _ _, .bool _]) (cs' := [.int _ _, .int _ _, .int _ _, .int _ _, .int _ _, .int _ _, .int _ _, .bool _]) (f' := true) rfl rfl rfl Try.sizeOf39 rfl rfl rfl rfl rfl) ?_
    | refine s0w rfl (lop_storeK (v := .agg [.int _ _, .int _ _, .int _ _, .int _ _, .int _ _, .int _ _, .int _ _, .bool _]) (cs' := [.int _ _, .int _ _, .int _ _, .int _ _, .int _ _, .int _ _, .int _ _, .bool _]) (f' := false) rfl rfl rfl Try.sizeOf39 rfl rfl rfl rfl rfl) ?_
  refine s1 rfl (lop_assign (v := .bool _) rfl) ?_
  refine ops_nil ?_
  refine ok_ret ?_
  exact ret_gen (R := [4]) ⟨_, _, rfl, ⟨rfl, 4, 0, _, _, rfl, rfl, .inl ⟨8, Try.isAgg39, Try.sizeOf39, Nat.le_of_ble_eq_true rfl, rfl⟩⟩, _, _, rfl, ⟨rfl, rfl⟩, rfl⟩ (by exact .tup (.cons (.agg (FrzL.tf rfl)) (.cons (.tf rfl) .nil))) (fun t ht => by simp at ht; subst ht; exact Option.some_ne_none _)

theorem index_Vol_ac (x : IdxD) (hx : x.vols.length ≤ 549755813888) (id : Int) : AC Try.prog 15 [.agg x.enc, i64 id] (.tup [.agg (volF x id).1.enc, .bool (decide (0 ≤ (volF x id).2))]) := by
  refine AC.intro Try.func15 rfl (Nat.le_of_ble_eq_true rfl) ?_
  refine ok_reg ?_
  first
    | refine s1w rfl (lop_box (t := 2) (v := .agg [_, _, _]) (f := true) (cs := [_, _, _]) rfl rfl rfl rfl (fun h => by cases h)) rfl ?_
    | refine s1w rfl (lop_box (t := 2) (v := .agg [_, _, _]) (f := false) (cs := [_, _, _]) rfl rfl rfl rfl (fun _ => rfl)) rfl ?_
  refine s1w rfl (lop_new (t := 4) (cs := [.int _ _, .int _ _, .int _ _, .int _ _, .int _ _, .z0, .z0, .int _ _, .int _ _]) Try.zeroValue50 rfl rfl rfl rfl) rfl ?_
  refine s1 rfl (lop_assign (v := .bool _) rfl) ?_
  refine ops_nil ?_
  refine ok_reg ?_
  first
    | refine s1 rfl (lop_load_rf_agg (ys := [_, _, _]) rfl rfl Try.isAgg26 Try.sizeOf26 (Nat.le_of_ble_eq_true rfl) rfl) ?_
    | refine s1 rfl (lop_load_fp_agg (ys := [_, _, _]) rfl Try.isAgg26 Try.sizeOf26 (Nat.le_of_ble_eq_true rfl) rfl) ?_
  refine s1 rfl (lop_move (v := .int _ _) rfl) ?_
  refine s1 rfl (lop_call rfl Try.call30 (FrzL.tf rfl) (.inl rfl) (index_vol_ac x hx id)) ?_
  refine s1 rfl (lop_move (v := .tup _) rfl) ?_
  refine s1 rfl (lop_extract rfl rfl) ?_
  refine s1 rfl (lop_extract rfl rfl) ?_
  refine s1w rfl (lop_new (t := 6) (cs := [.int _ _, .int _ _, .int _ _, .int _ _, .int _ _, .z0, .z0, .int _ _, .int _ _]) Try.zeroValue50 rfl rfl rfl rfl) rfl ?_
  first
    | refine s0w rfl (lop_storeK (v := .agg [.int _ _, .int _ _, .int _ _, .int _ _, .int _ _, _, _, .int _ _, .int _ _]) (cs' := [.int _ _, .int _ _, .int _ _, .int _ _, .int _ _, _, _, .int _ _, .int _ _]) (f' := true) rfl rfl rfl Try.sizeOf50 rfl rfl rfl rfl rfl) ?_
    | refine s0w rfl (lop_storeK (v := .agg [.int _ _, .int _ _, .int _ _, .int _ _, .int _ _, _, _, .int _ _, .int _ _]) (cs' := [.int _ _, .int _ _, .int _ _, .int _ _, .int _ _, _, _, .int _ _, .int _ _]) (f' := false) rfl rfl rfl Try.sizeOf50 rfl rfl rfl rfl rfl) ?_
  refine s1 rfl (lop_assign (v := .int _ _) rfl) ?_
  refine ops_nil ?_
  refine ok_reg ?_
  first
    | refine s1 rfl (lop_load_rf_agg (ys := [.int _ _, .int _ _, .int _ _, .int _ _, .int _ _, _, _, .int _ _, .int _ _]) rfl rfl Try.isAgg50 Try.sizeOf50 (Nat.le_of_ble_eq_true rfl) rfl) ?_
    | refine s1 rfl (lop_load_fp_agg (ys := [.int _ _, .int _ _, .int _ _, .int _ _, .int _ _, _, _, .int _ _, .int _ _]) rfl Try.isAgg50 Try.sizeOf50 (Nat.le_of_ble_eq_true rfl) rfl) ?_
  refine s1 rfl (lop_move (v := .int _ _) rfl) ?_
  refine s1 rfl (lop_geq rfl rfl) ?_
  first
    | refine s0w rfl (lop_storeK (v := .agg [.int _ _, .int _ _, .int _ _, .int _ _, .int _ _, _, _, .int _ _, .int _ _]) (cs' := [.int _ _, .int _ _, .int _ _, .int _ _, .int _ _, _, _, .int _ _, .int _ _]) (f' := true) rfl rfl rfl Try.sizeOf50 rfl rfl rfl rfl rfl) ?_
    | refine s0w rfl (lop_storeK (v := .agg [.int _ _, .int _ _, .int _ _, .int _ _, .int _ _, _, _, .int _ _, .int _ _]) (cs' := [.int _ _, .int _ _, .int _ _, .int _ _, .int _ _, _, _, .int _ _, .int _ _]) (f' := false) rfl rfl rfl Try.sizeOf50 rfl rfl rfl rfl rfl) ?_
  refine s1 rfl (lop_assign (v := .bool _) rfl) ?_
  refine ops_nil ?_
  refine ok_ret ?_
  exact ret_gen (R := [4]) ⟨_, _, rfl, ⟨rfl, 4, 0, _, _, rfl, rfl, .inl ⟨9, Try.isAgg50, Try.sizeOf50, Nat.le_of_ble_eq_true rfl, rfl⟩⟩, _, _, rfl, ⟨rfl, rfl⟩, rfl⟩ (by exact .tup (.cons (.agg (FrzL.tf rfl)) (.cons (.tf rfl) .nil))) (fun t ht => by simp at ht; subst ht; exact Option.some_ne_none _)

theorem index_Name_ac (x : IdxD) (hx : x.names.length ≤ 549755813888) (s : ByteArray) : AC Try.prog 16 [.agg x.enc, .str s] (.tup [.agg (nameF x s).1.enc, .bool (decide (0 ≤ (nameF x s).2))]) := by
  refine AC.intro Try.func16 rfl (Nat.le_of_ble_eq_true rfl) ?_
  refine ok_reg ?_
  first
    | refine s1w rfl (lop_box (t := 2) (v := .agg [_, _, _]) (f := true) (cs := [_, _, _]) rfl rfl rfl rfl (fun h => by cases h)) rfl ?_
    | refine s1w rfl (lop_box (t := 2) (v := .agg [_, _, _]) (f := false) (cs := [_, _, _]) rfl rfl rfl rfl (fun _ => rfl)) rfl ?_
  refine s1w rfl (lop_new (t := 4) (cs := [.str _, .int _ _, .int _ _, .int _ _, .int _ _]) Try.zeroValue47 rfl rfl rfl rfl) rfl ?_
  refine s1 rfl (lop_assign (v := .bool _) rfl) ?_
  refine ops_nil ?_
  refine ok_reg ?_
  first
    | refine s1 rfl (lop_load_rf_agg (ys := [_, _, _]) rfl rfl Try.isAgg26 Try.sizeOf26 (Nat.le_of_ble_eq_true rfl) rfl) ?_
    | refine s1 rfl (lop_load_fp_agg (ys := [_, _, _]) rfl Try.isAgg26 Try.sizeOf26 (Nat.le_of_ble_eq_true rfl) rfl) ?_
  refine s1 rfl (lop_move (v := .str _) rfl) ?_
  refine s1 rfl (lop_call rfl Try.call31 (FrzL.tf rfl) (.inl rfl) (index_name_ac x hx s)) ?_
  refine s1 rfl (lop_move (v := .tup _) rfl) ?_
  refine s1 rfl (lop_extract rfl rfl) ?_
  refine s1 rfl (lop_extract rfl rfl) ?_
  refine s1w rfl (lop_new (t := 6) (cs := [.str _, .int _ _, .int _ _, .int _ _, .int _ _]) Try.zeroValue47 rfl rfl rfl rfl) rfl ?_
  first
    | refine s0w rfl (lop_storeK (v := .agg [.str _, .int _ _, .int _ _, .int _ _, .int _ _]) (cs' := [.str _, .int _ _, .int _ _, .int _ _, .int _ _]) (f' := true) rfl rfl rfl Try.sizeOf47 rfl rfl rfl rfl rfl) ?_
    | refine s0w rfl (lop_storeK (v := .agg [.str _, .int _ _, .int _ _, .int _ _, .int _ _]) (cs' := [.str _, .int _ _, .int _ _, .int _ _, .int _ _]) (f' := false) rfl rfl rfl Try.sizeOf47 rfl rfl rfl rfl rfl) ?_
  refine s1 rfl (lop_assign (v := .int _ _) rfl) ?_
  refine ops_nil ?_
  refine ok_reg ?_
  first
    | refine s1 rfl (lop_load_rf_agg (ys := [.str _, .int _ _, .int _ _, .int _ _, .int _ _]) rfl rfl Try.isAgg47 Try.sizeOf47 (Nat.le_of_ble_eq_true rfl) rfl) ?_
    | refine s1 rfl (lop_load_fp_agg (ys := [.str _, .int _ _, .int _ _, .int _ _, .int _ _]) rfl Try.isAgg47 Try.sizeOf47 (Nat.le_of_ble_eq_true rfl) rfl) ?_
  refine s1 rfl (lop_move (v := .int _ _) rfl) ?_
  refine s1 rfl (lop_geq rfl rfl) ?_
  first
    | refine s0w rfl (lop_storeK (v := .agg [.str _, .int _ _, .int _ _, .int _ _, .int _ _]) (cs' := [.str _, .int _ _, .int _ _, .int _ _, .int _ _]) (f' := true) rfl rfl rfl Try.sizeOf47 rfl rfl rfl rfl rfl) ?_
    | refine s0w rfl (lop_storeK (v := .agg [.str _, .int _ _, .int _ _, .int _ _, .int _ _]) (cs' := [.str _, .int _ _, .int _ _, .int _ _, .int _ _]) (f' := false) rfl rfl rfl Try.sizeOf47 rfl rfl rfl rfl rfl) ?_
  refine s1 rfl (lop_assign (v := .bool _) rfl) ?_
  refine ops_nil ?_
  refine ok_ret ?_
  exact ret_gen (R := [4]) ⟨_, _, rfl, ⟨rfl, 4, 0, _, _, rfl, rfl, .inl ⟨5, Try.isAgg47, Try.sizeOf47, Nat.le_of_ble_eq_true rfl, rfl⟩⟩, _, _, rfl, ⟨rfl, rfl⟩, rfl⟩ (by exact .tup (.cons (.agg (FrzL.tf rfl)) (.cons (.tf rfl) .nil))) (fun t ht => by simp at ht; subst ht; exact Option.some_ne_none _)

theorem clone_Sess_ac {l : List SessD} (hl : l.length ≤ 549755813888) : ACH Try.prog 51 [rowOf SessD.enc l] [] (.os 500 0 8 l.length) [(500, some (true, l.flatMap SessD.enc))] [.undef] := by
  refine ACH.intro Try.func51 rfl (Nat.le_of_ble_eq_true rfl) (Nat.le_of_ble_eq_true rfl) rfl ?_
  refine ok_reg ?_
  first
    | refine s1 rfl (lop_assign (v := .sl _ _) rfl) ?_
    | refine s1 rfl (lop_assign (v := .os _ _ _ _) rfl) ?_
    | refine s1 rfl (lop_assign (v := .z0) rfl) ?_
  refine ops_nil ?_
  refine ok_seq ?_
  refine ok_reg ?_
  first
    | refine s1 rfl (lop_move (v := .sl _ _) rfl) ?_
    | refine s1 rfl (lop_move (v := .os _ _ _ _) rfl) ?_
    | refine s1 rfl (lop_move (v := .z0) rfl) ?_
  refine op_slnil rfl rfl Try.underlying24 (fun hnil => ?_) ?_
  · refine ops_nil ?_
    refine ok_true rfl rfl ?_
    refine ok_reg ?_
    first
      | refine s1 rfl (lop_assign (v := .sl _ _) rfl) ?_
      | refine s1 rfl (lop_assign (v := .os _ _ _ _) rfl) ?_
      | refine s1 rfl (lop_assign (v := .z0) rfl) ?_
    refine ops_nil ?_
    refine ok_ret ?_
    have hl0 : l = [] := by cases l with
      | nil => rfl
      | cons x l => simp [SessD.enc] at hnil
    subst hl0
    exact ⟨[.os 500 0 8 0], ⟨[(2, .os 500 0 8 0)], [(500, some (true, []))], 8⟩, le_ren [(500, none)] ⟨rfl, trivial⟩ rfl ⟨⟨rfl, rfl⟩, trivial⟩ rfl rfl rfl, ⟨_, _, rfl, ⟨rfl, rfl⟩, rfl⟩, rfl, rfl, fun i v h => by match i with
                                                                                                                                                                         | 0 => simp at h; subst h; rfl
                                                                                                                                                                         | i + 1 => simp at h⟩
  · refine ops_nil ?_
    refine ok_false rfl rfl ?_
    refine ok_skip ?_
    refine ok_reg ?_
    first
      | refine s1w rfl (lop_buildSlice (t := 5) (cs := []) (f := true) Try.underlying24 Try.sizeOf39 (by decide) Try.zeroValue39 rfl rfl rfl (by decide) rfl (.inl rfl) rfl (fun h => by cases h)) rfl ?_
      | refine s1w rfl (lop_buildSlice (t := 5) (cs := []) (f := false) Try.underlying24 Try.sizeOf39 (by decide) Try.zeroValue39 rfl rfl rfl (by decide) rfl (.inl rfl) rfl (fun _ => rfl)) rfl ?_
    first
      | refine s1 rfl (lop_move (v := .sl _ _) rfl) ?_
      | refine s1 rfl (lop_move (v := .os _ _ _ _) rfl) ?_
      | refine s1 rfl (lop_move (v := .z0) rfl) ?_
    first
      | refine s2w rfl (lop_append_os (t' := 7) (R := []) rfl rfl rfl (by simp) (.sl Try.underlying24 (flat_length SessD.len _)) Try.underlying24 info39 rfl (by omega) (by omega)) rfl ?_
      | refine s1w rfl (lop_append_z0 (t' := 7) (R := []) rfl rfl (.sl Try.underlying24 (flat_length SessD.len _)) Try.underlying24 info39 rfl (by omega) (by omega)) rfl ?_
    first
      | refine s1 rfl (lop_assign (v := .sl _ _) rfl) ?_
      | refine s1 rfl (lop_assign (v := .os _ _ _ _) rfl) ?_
      | refine s1 rfl (lop_assign (v := .z0) rfl) ?_
    refine ops_nil ?_
    refine ok_ret ?_
    exact ⟨[.os 500 0 8 l.length], ⟨[(2, .os 500 0 8 l.length)], [(500, some (true, l.flatMap SessD.enc))], 8⟩, le_ren [(500, some 7)] ⟨congrArg (V.os 7 0 8) (Nat.zero_add _), trivial⟩ rfl ⟨⟨_, rfl, rfl⟩, trivial⟩ rfl rfl rfl, ⟨_, _, rfl, ⟨rfl, rfl⟩, rfl⟩, rfl, rfl, fun i v h => by match i with
                                                                                                                                                                         | 0 => simp at h; subst h; rfl
                                                                                                                                                                         | i + 1 => simp at h⟩

theorem clone_Vol_ac {l : List VolD} (hl : l.length ≤ 549755813888) : ACH Try.prog 75 [rowOf VolD.enc l] [] (.os 500 0 9 l.length) [(500, some (true, l.flatMap VolD.enc))] [.undef] := by
  refine ACH.intro Try.func75 rfl (Nat.le_of_ble_eq_true rfl) (Nat.le_of_ble_eq_true rfl) rfl ?_
  refine ok_reg ?_
  first
    | refine s1 rfl (lop_assign (v := .sl _ _) rfl) ?_
    | refine s1 rfl (lop_assign (v := .os _ _ _ _) rfl) ?_
    | refine s1 rfl (lop_assign (v := .z0) rfl) ?_
  refine ops_nil ?_
  refine ok_seq ?_
  refine ok_reg ?_
  first
    | refine s1 rfl (lop_move (v := .sl _ _) rfl) ?_
    | refine s1 rfl (lop_move (v := .os _ _ _ _) rfl) ?_
    | refine s1 rfl (lop_move (v := .z0) rfl) ?_
  refine op_slnil rfl rfl Try.underlying22 (fun hnil => ?_) ?_
  · refine ops_nil ?_
    refine ok_true rfl rfl ?_
    refine ok_reg ?_
    first
      | refine s1 rfl (lop_assign (v := .sl _ _) rfl) ?_
      | refine s1 rfl (lop_assign (v := .os _ _ _ _) rfl) ?_
      | refine s1 rfl (lop_assign (v := .z0) rfl) ?_
    refine ops_nil ?_
    refine ok_ret ?_
    have hl0 : l = [] := by cases l with
      | nil => rfl
      | cons x l => simp [VolD.enc] at hnil
    subst hl0
    exact ⟨[.os 500 0 9 0], ⟨[(2, .os 500 0 9 0)], [(500, some (true, []))], 8⟩, le_ren [(500, none)] ⟨rfl, trivial⟩ rfl ⟨⟨rfl, rfl⟩, trivial⟩ rfl rfl rfl, ⟨_, _, rfl, ⟨rfl, rfl⟩, rfl⟩, rfl, rfl, fun i v h => by match i with
                                                                                                                                                                         | 0 => simp at h; subst h; rfl
                                                                                                                                                                         | i + 1 => simp at h⟩
  · refine ops_nil ?_
    refine ok_false rfl rfl ?_
    refine ok_skip ?_
    refine ok_reg ?_
    first
      | refine s1w rfl (lop_buildSlice (t := 5) (cs := []) (f := true) Try.underlying22 Try.sizeOf50 (by decide) Try.zeroValue50 rfl rfl rfl (by decide) rfl (.inl rfl) rfl (fun h => by cases h)) rfl ?_
      | refine s1w rfl (lop_buildSlice (t := 5) (cs := []) (f := false) Try.underlying22 Try.sizeOf50 (by decide) Try.zeroValue50 rfl rfl rfl (by decide) rfl (.inl rfl) rfl (fun _ => rfl)) rfl ?_
    first
      | refine s1 rfl (lop_move (v := .sl _ _) rfl) ?_
      | refine s1 rfl (lop_move (v := .os _ _ _ _) rfl) ?_
      | refine s1 rfl (lop_move (v := .z0) rfl) ?_
    first
      | refine s2w rfl (lop_append_os (t' := 7) (R := []) rfl rfl rfl (by simp) (.sl Try.underlying22 (flat_length VolD.len _)) Try.underlying22 info50 rfl (by omega) (by omega)) rfl ?_
      | refine s1w rfl (lop_append_z0 (t' := 7) (R := []) rfl rfl (.sl Try.underlying22 (flat_length VolD.len _)) Try.underlying22 info50 rfl (by omega) (by omega)) rfl ?_
    first
      | refine s1 rfl (lop_assign (v := .sl _ _) rfl) ?_
      | refine s1 rfl (lop_assign (v := .os _ _ _ _) rfl) ?_
      | refine s1 rfl (lop_assign (v := .z0) rfl) ?_
    refine ops_nil ?_
    refine ok_ret ?_
    exact ⟨[.os 500 0 9 l.length], ⟨[(2, .os 500 0 9 l.length)], [(500, some (true, l.flatMap VolD.enc))], 8⟩, le_ren [(500, some 7)] ⟨congrArg (V.os 7 0 9) (Nat.zero_add _), trivial⟩ rfl ⟨⟨_, rfl, rfl⟩, trivial⟩ rfl rfl rfl, ⟨_, _, rfl, ⟨rfl, rfl⟩, rfl⟩, rfl, rfl, fun i v h => by match i with
                                                                                                                                                                         | 0 => simp at h; subst h; rfl
                                                                                                                                                                         | i + 1 => simp at h⟩

theorem clone_Span_ac {l : List SpanD} (hl : l.length ≤ 549755813888) : ACH Try.prog 76 [rowOf SpanD.enc l] [] (.os 500 0 2 l.length) [(500, some (true, l.flatMap SpanD.enc))] [.undef] := by
  refine ACH.intro Try.func76 rfl (Nat.le_of_ble_eq_true rfl) (Nat.le_of_ble_eq_true rfl) rfl ?_
  refine ok_reg ?_
  first
    | refine s1 rfl (lop_assign (v := .sl _ _) rfl) ?_
    | refine s1 rfl (lop_assign (v := .os _ _ _ _) rfl) ?_
    | refine s1 rfl (lop_assign (v := .z0) rfl) ?_
  refine ops_nil ?_
  refine ok_seq ?_
  refine ok_reg ?_
  first
    | refine s1 rfl (lop_move (v := .sl _ _) rfl) ?_
    | refine s1 rfl (lop_move (v := .os _ _ _ _) rfl) ?_
    | refine s1 rfl (lop_move (v := .z0) rfl) ?_
  refine op_slnil rfl rfl Try.underlying48 (fun hnil => ?_) ?_
  · refine ops_nil ?_
    refine ok_true rfl rfl ?_
    refine ok_reg ?_
    first
      | refine s1 rfl (lop_assign (v := .sl _ _) rfl) ?_
      | refine s1 rfl (lop_assign (v := .os _ _ _ _) rfl) ?_
      | refine s1 rfl (lop_assign (v := .z0) rfl) ?_
    refine ops_nil ?_
    refine ok_ret ?_
    have hl0 : l = [] := by cases l with
      | nil => rfl
      | cons x l => simp [SpanD.enc] at hnil
    subst hl0
    exact ⟨[.os 500 0 2 0], ⟨[(2, .os 500 0 2 0)], [(500, some (true, []))], 8⟩, le_ren [(500, none)] ⟨rfl, trivial⟩ rfl ⟨⟨rfl, rfl⟩, trivial⟩ rfl rfl rfl, ⟨_, _, rfl, ⟨rfl, rfl⟩, rfl⟩, rfl, rfl, fun i v h => by match i with
                                                                                                                                                                         | 0 => simp at h; subst h; rfl
                                                                                                                                                                         | i + 1 => simp at h⟩
  · refine ops_nil ?_
    refine ok_false rfl rfl ?_
    refine ok_skip ?_
    refine ok_reg ?_
    first
      | refine s1w rfl (lop_buildSlice (t := 5) (cs := []) (f := true) Try.underlying48 Try.sizeOf54 (by decide) Try.zeroValue54 rfl rfl rfl (by decide) rfl (.inl rfl) rfl (fun h => by cases h)) rfl ?_
      | refine s1w rfl (lop_buildSlice (t := 5) (cs := []) (f := false) Try.underlying48 Try.sizeOf54 (by decide) Try.zeroValue54 rfl rfl rfl (by decide) rfl (.inl rfl) rfl (fun _ => rfl)) rfl ?_
    first
      | refine s1 rfl (lop_move (v := .sl _ _) rfl) ?_
      | refine s1 rfl (lop_move (v := .os _ _ _ _) rfl) ?_
      | refine s1 rfl (lop_move (v := .z0) rfl) ?_
    first
      | refine s2w rfl (lop_append_os (t' := 7) (R := []) rfl rfl rfl (by simp) (.sl Try.underlying48 (flat_length SpanD.len _)) Try.underlying48 info54 rfl (by omega) (by omega)) rfl ?_
      | refine s1w rfl (lop_append_z0 (t' := 7) (R := []) rfl rfl (.sl Try.underlying48 (flat_length SpanD.len _)) Try.underlying48 info54 rfl (by omega) (by omega)) rfl ?_
    first
      | refine s1 rfl (lop_assign (v := .sl _ _) rfl) ?_
      | refine s1 rfl (lop_assign (v := .os _ _ _ _) rfl) ?_
      | refine s1 rfl (lop_assign (v := .z0) rfl) ?_
    refine ops_nil ?_
    refine ok_ret ?_
    exact ⟨[.os 500 0 2 l.length], ⟨[(2, .os 500 0 2 l.length)], [(500, some (true, l.flatMap SpanD.enc))], 8⟩, le_ren [(500, some 7)] ⟨congrArg (V.os 7 0 2) (Nat.zero_add _), trivial⟩ rfl ⟨⟨_, rfl, rfl⟩, trivial⟩ rfl rfl rfl, ⟨_, _, rfl, ⟨rfl, rfl⟩, rfl⟩, rfl, rfl, fun i v h => by match i with
                                                                                                                                                                         | 0 => simp at h; subst h; rfl
                                                                                                                                                                         | i + 1 => simp at h⟩

theorem clone_Name_ac {l : List NameD} (hl : l.length ≤ 549755813888) : ACH Try.prog 67 [rowOf NameD.enc l] [] (.os 500 0 5 l.length) [(500, some (true, l.flatMap NameD.enc))] [.undef] := by
  refine ACH.intro Try.func67 rfl (Nat.le_of_ble_eq_true rfl) (Nat.le_of_ble_eq_true rfl) rfl ?_
  refine ok_reg ?_
  first
    | refine s1 rfl (lop_assign (v := .sl _ _) rfl) ?_
    | refine s1 rfl (lop_assign (v := .os _ _ _ _) rfl) ?_
    | refine s1 rfl (lop_assign (v := .z0) rfl) ?_
  refine ops_nil ?_
  refine ok_seq ?_
  refine ok_reg ?_
  first
    | refine s1 rfl (lop_move (v := .sl _ _) rfl) ?_
    | refine s1 rfl (lop_move (v := .os _ _ _ _) rfl) ?_
    | refine s1 rfl (lop_move (v := .z0) rfl) ?_
  refine op_slnil rfl rfl Try.underlying23 (fun hnil => ?_) ?_
  · refine ops_nil ?_
    refine ok_true rfl rfl ?_
    refine ok_reg ?_
    first
      | refine s1 rfl (lop_assign (v := .sl _ _) rfl) ?_
      | refine s1 rfl (lop_assign (v := .os _ _ _ _) rfl) ?_
      | refine s1 rfl (lop_assign (v := .z0) rfl) ?_
    refine ops_nil ?_
    refine ok_ret ?_
    have hl0 : l = [] := by cases l with
      | nil => rfl
      | cons x l => simp [NameD.enc] at hnil
    subst hl0
    exact ⟨[.os 500 0 5 0], ⟨[(2, .os 500 0 5 0)], [(500, some (true, []))], 8⟩, le_ren [(500, none)] ⟨rfl, trivial⟩ rfl ⟨⟨rfl, rfl⟩, trivial⟩ rfl rfl rfl, ⟨_, _, rfl, ⟨rfl, rfl⟩, rfl⟩, rfl, rfl, fun i v h => by match i with
                                                                                                                                                                         | 0 => simp at h; subst h; rfl
                                                                                                                                                                         | i + 1 => simp at h⟩
  · refine ops_nil ?_
    refine ok_false rfl rfl ?_
    refine ok_skip ?_
    refine ok_reg ?_
    first
      | refine s1w rfl (lop_buildSlice (t := 5) (cs := []) (f := true) Try.underlying23 Try.sizeOf47 (by decide) Try.zeroValue47 rfl rfl rfl (by decide) rfl (.inl rfl) rfl (fun h => by cases h)) rfl ?_
      | refine s1w rfl (lop_buildSlice (t := 5) (cs := []) (f := false) Try.underlying23 Try.sizeOf47 (by decide) Try.zeroValue47 rfl rfl rfl (by decide) rfl (.inl rfl) rfl (fun _ => rfl)) rfl ?_
    first
      | refine s1 rfl (lop_move (v := .sl _ _) rfl) ?_
      | refine s1 rfl (lop_move (v := .os _ _ _ _) rfl) ?_
      | refine s1 rfl (lop_move (v := .z0) rfl) ?_
    first
      | refine s2w rfl (lop_append_os (t' := 7) (R := []) rfl rfl rfl (by simp) (.sl Try.underlying23 (flat_length NameD.len _)) Try.underlying23 info47 rfl (by omega) (by omega)) rfl ?_
      | refine s1w rfl (lop_append_z0 (t' := 7) (R := []) rfl rfl (.sl Try.underlying23 (flat_length NameD.len _)) Try.underlying23 info47 rfl (by omega) (by omega)) rfl ?_
    first
      | refine s1 rfl (lop_assign (v := .sl _ _) rfl) ?_
      | refine s1 rfl (lop_assign (v := .os _ _ _ _) rfl) ?_
      | refine s1 rfl (lop_assign (v := .z0) rfl) ?_
    refine ops_nil ?_
    refine ok_ret ?_
    exact ⟨[.os 500 0 5 l.length], ⟨[(2, .os 500 0 5 l.length)], [(500, some (true, l.flatMap NameD.enc))], 8⟩, le_ren [(500, some 7)] ⟨congrArg (V.os 7 0 5) (Nat.zero_add _), trivial⟩ rfl ⟨⟨_, rfl, rfl⟩, trivial⟩ rfl rfl rfl, ⟨_, _, rfl, ⟨rfl, rfl⟩, rfl⟩, rfl, rfl, fun i v h => by match i with
                                                                                                                                                                         | 0 => simp at h; subst h; rfl
                                                                                                                                                                         | i + 1 => simp at h⟩

theorem clone_Place_ac {l : List PlD} (hl : l.length ≤ 549755813888) : ACH Try.prog 80 [rowOf PlD.enc l] [] (.os 500 0 2 l.length) [(500, some (true, l.flatMap PlD.enc))] [.undef] := by
  refine ACH.intro Try.func80 rfl (Nat.le_of_ble_eq_true rfl) (Nat.le_of_ble_eq_true rfl) rfl ?_
  refine ok_reg ?_
  first
    | refine s1 rfl (lop_assign (v := .sl _ _) rfl) ?_
    | refine s1 rfl (lop_assign (v := .os _ _ _ _) rfl) ?_
    | refine s1 rfl (lop_assign (v := .z0) rfl) ?_
  refine ops_nil ?_
  refine ok_seq ?_
  refine ok_reg ?_
  first
    | refine s1 rfl (lop_move (v := .sl _ _) rfl) ?_
    | refine s1 rfl (lop_move (v := .os _ _ _ _) rfl) ?_
    | refine s1 rfl (lop_move (v := .z0) rfl) ?_
  refine op_slnil rfl rfl Try.underlying28 (fun hnil => ?_) ?_
  · refine ops_nil ?_
    refine ok_true rfl rfl ?_
    refine ok_reg ?_
    first
      | refine s1 rfl (lop_assign (v := .sl _ _) rfl) ?_
      | refine s1 rfl (lop_assign (v := .os _ _ _ _) rfl) ?_
      | refine s1 rfl (lop_assign (v := .z0) rfl) ?_
    refine ops_nil ?_
    refine ok_ret ?_
    have hl0 : l = [] := by cases l with
      | nil => rfl
      | cons x l => simp [PlD.enc] at hnil
    subst hl0
    exact ⟨[.os 500 0 2 0], ⟨[(2, .os 500 0 2 0)], [(500, some (true, []))], 8⟩, le_ren [(500, none)] ⟨rfl, trivial⟩ rfl ⟨⟨rfl, rfl⟩, trivial⟩ rfl rfl rfl, ⟨_, _, rfl, ⟨rfl, rfl⟩, rfl⟩, rfl, rfl, fun i v h => by match i with
                                                                                                                                                                         | 0 => simp at h; subst h; rfl
                                                                                                                                                                         | i + 1 => simp at h⟩
  · refine ops_nil ?_
    refine ok_false rfl rfl ?_
    refine ok_skip ?_
    refine ok_reg ?_
    first
      | refine s1w rfl (lop_buildSlice (t := 5) (cs := []) (f := true) Try.underlying28 Try.sizeOf57 (by decide) Try.zeroValue57 rfl rfl rfl (by decide) rfl (.inl rfl) rfl (fun h => by cases h)) rfl ?_
      | refine s1w rfl (lop_buildSlice (t := 5) (cs := []) (f := false) Try.underlying28 Try.sizeOf57 (by decide) Try.zeroValue57 rfl rfl rfl (by decide) rfl (.inl rfl) rfl (fun _ => rfl)) rfl ?_
    first
      | refine s1 rfl (lop_move (v := .sl _ _) rfl) ?_
      | refine s1 rfl (lop_move (v := .os _ _ _ _) rfl) ?_
      | refine s1 rfl (lop_move (v := .z0) rfl) ?_
    first
      | refine s2w rfl (lop_append_os (t' := 7) (R := []) rfl rfl rfl (by simp) (.sl Try.underlying28 (flat_length PlD.len _)) Try.underlying28 info57 rfl (by omega) (by omega)) rfl ?_
      | refine s1w rfl (lop_append_z0 (t' := 7) (R := []) rfl rfl (.sl Try.underlying28 (flat_length PlD.len _)) Try.underlying28 info57 rfl (by omega) (by omega)) rfl ?_
    first
      | refine s1 rfl (lop_assign (v := .sl _ _) rfl) ?_
      | refine s1 rfl (lop_assign (v := .os _ _ _ _) rfl) ?_
      | refine s1 rfl (lop_assign (v := .z0) rfl) ?_
    refine ops_nil ?_
    refine ok_ret ?_
    exact ⟨[.os 500 0 2 l.length], ⟨[(2, .os 500 0 2 l.length)], [(500, some (true, l.flatMap PlD.enc))], 8⟩, le_ren [(500, some 7)] ⟨congrArg (V.os 7 0 2) (Nat.zero_add _), trivial⟩ rfl ⟨⟨_, rfl, rfl⟩, trivial⟩ rfl rfl rfl, ⟨_, _, rfl, ⟨rfl, rfl⟩, rfl⟩, rfl, rfl, fun i v h => by match i with
                                                                                                                                                                         | 0 => simp at h; subst h; rfl
                                                                                                                                                                         | i + 1 => simp at h⟩

end Go.Proofs
