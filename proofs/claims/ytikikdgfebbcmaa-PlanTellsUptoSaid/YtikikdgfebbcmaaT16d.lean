/- Chapter 16: walks. Printed by gen.py. -/
import Derived.Test.YtikikdgfebbcmaaT16c
set_option linter.unusedVariables false
set_option linter.unusedSimpArgs false
set_option maxRecDepth 100000
namespace Go.Proofs
open Go.Hg

theorem site_Third_ac (a b : Int) : AC Try.prog 57 [i64 a, i64 b] (.tup [i64 (thirdF a b).1, i64 (thirdF a b).2]) := by
  refine AC.intro Try.func57 rfl (Nat.le_of_ble_eq_true rfl) ?_
  refine ok_reg ?_
  refine s1 rfl (lop_assign (v := .int _ _) rfl) ?_
  refine s1 rfl (lop_assign (v := .int _ _) rfl) ?_
  refine ops_nil ?_
  refine ok_seq ?_
  refine ok_reg ?_
  refine s1 rfl (lop_move (v := .int _ _) rfl) ?_
  refine s1 rfl (lop_call rfl Try.call68 (FrzL.tf rfl) (.inl rfl) (site_region_ac a)) ?_
  refine s1 rfl (lop_not rfl) ?_
  refine s1 rfl (lop_move (v := .bool _) rfl) ?_
  first
    | refine gsplitP 3 rfl rfl (fun g1_3 p1_3 => ?_) (fun g1_3 p1_3 => ?_)
    | refine gsplitB 3 rfl rfl (fun g1_3 p1_3 => ?_) (fun g1_3 p1_3 => ?_)
  · refine n1 rfl rfl g1_3 ?_
    refine n1 rfl rfl g1_3 ?_
    refine n1 rfl rfl g1_3 ?_
    first
      | refine s1 rfl (lop_pick_t (v := .bool _) rfl g1_3 rfl) ?_
      | refine s1 rfl (lop_pick_t (v := .bool _) rfl rfl rfl) ?_
      | refine s1 rfl (lop_pick_f (v := .bool _) rfl rfl rfl) ?_
      | refine s1 rfl (lop_pick rfl rfl rfl) ?_
    refine s1 rfl (lop_move (v := .bool _) rfl) ?_
    refine n1 rfl rfl rfl ?_
    refine n1 rfl rfl rfl ?_
    refine n1 rfl rfl rfl ?_
    first
      | refine s1 rfl (lop_pick_t (v := .bool _) rfl g1_3 rfl) ?_
      | refine s1 rfl (lop_pick_t (v := .bool _) rfl rfl rfl) ?_
      | refine s1 rfl (lop_pick_t (v := .bool _) rfl rfl rfl) ?_
      | refine s1 rfl (lop_pick_f (v := .bool _) rfl rfl rfl) ?_
      | refine s1 rfl (lop_pick rfl rfl rfl) ?_
    refine ops_nil ?_
    refine ok_true rfl rfl ?_
    refine ok_reg ?_
    refine s1 rfl (lop_assign (v := .int _ _) rfl) ?_
    refine s1 rfl (lop_assign (v := .int _ _) rfl) ?_
    refine ops_nil ?_
    refine ok_ret ?_
    exact ret_gen (R := []) ⟨_, _, rfl, ⟨rfl, rfl⟩, _, _, rfl, ⟨rfl, rfl⟩, rfl⟩ (by rw [show thirdF a b = (0, 1) by unfold thirdF; rw [if_neg (by first | omega | (simp at *; omega))]]; exact .tup (.cons (.tf rfl) (.cons (.tf rfl) .nil))) (fun t h => by cases h)
  · refine y1 rfl rfl g1_3 rfl (lop_move (v := .int _ _) rfl) ?_
    refine y1 rfl rfl g1_3 rfl (lop_call rfl Try.call68 (FrzL.tf rfl) (.inl rfl) (site_region_ac b)) ?_
    refine y1 rfl rfl g1_3 rfl (lop_not rfl) ?_
    first
      | refine s1 rfl (lop_pick_f (v := .bool _) rfl g1_3 rfl) ?_
      | refine s1 rfl (lop_pick_t (v := .bool _) rfl rfl rfl) ?_
      | refine s1 rfl (lop_pick_f (v := .bool _) rfl rfl rfl) ?_
      | refine s1 rfl (lop_pick rfl rfl rfl) ?_
    refine s1 rfl (lop_move (v := .bool _) rfl) ?_
    first
      | refine gsplitP 8 rfl rfl (fun g1_8 p1_8 => ?_) (fun g1_8 p1_8 => ?_)
      | refine gsplitB 8 rfl rfl (fun g1_8 p1_8 => ?_) (fun g1_8 p1_8 => ?_)
    · refine n1 rfl rfl g1_8 ?_
      refine n1 rfl rfl g1_8 ?_
      refine n1 rfl rfl g1_8 ?_
      first
        | refine s1 rfl (lop_pick_f (v := .bool _) rfl g1_3 rfl) ?_
        | refine s1 rfl (lop_pick_t (v := .bool _) rfl g1_8 rfl) ?_
        | refine s1 rfl (lop_pick_t (v := .bool _) rfl rfl rfl) ?_
        | refine s1 rfl (lop_pick_f (v := .bool _) rfl rfl rfl) ?_
        | refine s1 rfl (lop_pick rfl rfl rfl) ?_
      refine ops_nil ?_
      refine ok_true rfl rfl ?_
      refine ok_reg ?_
      refine s1 rfl (lop_assign (v := .int _ _) rfl) ?_
      refine s1 rfl (lop_assign (v := .int _ _) rfl) ?_
      refine ops_nil ?_
      refine ok_ret ?_
      exact ret_gen (R := []) ⟨_, _, rfl, ⟨rfl, rfl⟩, _, _, rfl, ⟨rfl, rfl⟩, rfl⟩ (by rw [show thirdF a b = (0, 1) by unfold thirdF; rw [if_neg (by first | omega | (simp at *; omega))]]; exact .tup (.cons (.tf rfl) (.cons (.tf rfl) .nil))) (fun t h => by cases h)
    · refine y1 rfl rfl g1_8 rfl (lop_move (v := .int _ _) rfl) ?_
      refine y1 rfl rfl g1_8 rfl (lop_move (v := .int _ _) rfl) ?_
      refine y1 rfl rfl g1_8 rfl (lop_eql rfl rfl) ?_
      first
        | refine s1 rfl (lop_pick_f (v := .bool _) rfl g1_3 rfl) ?_
        | refine s1 rfl (lop_pick_f (v := .bool _) rfl g1_8 rfl) ?_
        | refine s1 rfl (lop_pick_t (v := .bool _) rfl rfl rfl) ?_
        | refine s1 rfl (lop_pick_f (v := .bool _) rfl rfl rfl) ?_
        | refine s1 rfl (lop_pick rfl rfl rfl) ?_
      refine ops_nil ?_
      first
        | refine ok_if _ rfl rfl (fun h_t18 => ?_) (fun h_t18 => ?_)
        | refine ok_cond rfl rfl (fun h_t18 => ?_) (fun h_t18 => ?_)
      · refine ok_reg ?_
        refine s1 rfl (lop_assign (v := .int _ _) rfl) ?_
        refine s1 rfl (lop_assign (v := .int _ _) rfl) ?_
        refine ops_nil ?_
        refine ok_ret ?_
        exact ret_gen (R := []) ⟨_, _, rfl, ⟨rfl, rfl⟩, _, _, rfl, ⟨rfl, rfl⟩, rfl⟩ (by rw [show thirdF a b = (0, 1) by unfold thirdF; rw [if_neg (by first | omega | (simp at *; omega))]]; exact .tup (.cons (.tf rfl) (.cons (.tf rfl) .nil))) (fun t h => by cases h)
      · refine ok_skip ?_
        refine ok_reg ?_
        refine s1 rfl (lop_move (v := .int _ _) rfl) ?_
        have h3 : 1 ≤ a ∧ a ≤ 3 := by simpa using p1_3
        have h4 : 1 ≤ b ∧ b ≤ 3 := by simpa using p1_8
        refine s1 rfl (lop_bop rfl rfl rfl (bop_sub (by omega) (by omega))) ?_
        refine s1 rfl (lop_move (v := .int _ _) rfl) ?_
        refine s1 rfl (lop_bop rfl rfl rfl (bop_sub (by omega) (by omega))) ?_
        refine s1 rfl (lop_assign (v := .int _ _) rfl) ?_
        refine s1 rfl (lop_assign (v := .int _ _) rfl) ?_
        refine ops_nil ?_
        refine ok_ret ?_
        exact ret_gen (R := []) ⟨_, _, rfl, ⟨rfl, rfl⟩, _, _, rfl, ⟨rfl, rfl⟩, rfl⟩ (by rw [show thirdF a b = (6 - a - b, 0) by unfold thirdF; rw [if_pos (by first | omega | (simp at *; omega))]]; exact .tup (.cons (.tf rfl) (.cons (.tf rfl) .nil))) (fun t h => by cases h)

theorem site_Spread_ac (hR : RingOk) (vol r many nodes : Int) (hv : R64 vol) {live : List Bool} (hl : live.length ≤ 1048576) : AC Try.prog 45 [i64 vol, i64 r, i64 many, i64 nodes, rowOf boolEnc live] (.tup [rowOf PlD.enc (spreadF vol r many nodes live).1, i64 (spreadF vol r many nodes live).2]) := by
  refine AC.intro Try.func45 rfl (Nat.le_of_ble_eq_true rfl) ?_
  refine ok_reg ?_
  first
    | refine s1 rfl (lop_assign (v := .sl _ _) rfl) ?_
    | refine s1 rfl (lop_assign (v := .os _ _ _ _) rfl) ?_
    | refine s1 rfl (lop_assign (v := .z0) rfl) ?_
  refine s1 rfl (lop_assign (v := .int _ _) rfl) ?_
  refine ops_nil ?_
  refine ok_seq ?_
  refine ok_reg ?_
  refine s1 rfl (lop_move (v := .int _ _) rfl) ?_
  refine s1 rfl (lop_call rfl Try.call68 (FrzL.tf rfl) (.inl rfl) (site_region_ac r)) ?_
  refine s1 rfl (lop_not rfl) ?_
  refine s1 rfl (lop_move (v := .bool _) rfl) ?_
  first
    | refine gsplitP 3 rfl rfl (fun g1_3 p1_3 => ?_) (fun g1_3 p1_3 => ?_)
    | refine gsplitB 3 rfl rfl (fun g1_3 p1_3 => ?_) (fun g1_3 p1_3 => ?_)
  · refine n1 rfl rfl g1_3 ?_
    refine n1 rfl rfl g1_3 ?_
    first
      | refine s1 rfl (lop_pick_t (v := .bool _) rfl g1_3 rfl) ?_
      | refine s1 rfl (lop_pick_t (v := .bool _) rfl rfl rfl) ?_
      | refine s1 rfl (lop_pick_f (v := .bool _) rfl rfl rfl) ?_
      | refine s1 rfl (lop_pick rfl rfl rfl) ?_
    refine s1 rfl (lop_move (v := .bool _) rfl) ?_
    refine n1 rfl rfl rfl ?_
    refine n1 rfl rfl rfl ?_
    first
      | refine s1 rfl (lop_pick_t (v := .bool _) rfl g1_3 rfl) ?_
      | refine s1 rfl (lop_pick_t (v := .bool _) rfl rfl rfl) ?_
      | refine s1 rfl (lop_pick_t (v := .bool _) rfl rfl rfl) ?_
      | refine s1 rfl (lop_pick_f (v := .bool _) rfl rfl rfl) ?_
      | refine s1 rfl (lop_pick rfl rfl rfl) ?_
    refine s1 rfl (lop_move (v := .bool _) rfl) ?_
    refine n1 rfl rfl rfl ?_
    refine n1 rfl rfl rfl ?_
    refine n1 rfl rfl rfl ?_
    first
      | refine s1 rfl (lop_pick_t (v := .bool _) rfl g1_3 rfl) ?_
      | refine s1 rfl (lop_pick_t (v := .bool _) rfl rfl rfl) ?_
      | refine s1 rfl (lop_pick_t (v := .bool _) rfl rfl rfl) ?_
      | refine s1 rfl (lop_pick_t (v := .bool _) rfl rfl rfl) ?_
      | refine s1 rfl (lop_pick_f (v := .bool _) rfl rfl rfl) ?_
      | refine s1 rfl (lop_pick rfl rfl rfl) ?_
    refine ops_nil ?_
    refine ok_true rfl rfl ?_
    refine ok_reg ?_
    first
      | refine s1 rfl (lop_assign (v := .sl _ _) rfl) ?_
      | refine s1 rfl (lop_assign (v := .os _ _ _ _) rfl) ?_
      | refine s1 rfl (lop_assign (v := .z0) rfl) ?_
    refine s1 rfl (lop_assign (v := .int _ _) rfl) ?_
    refine ops_nil ?_
    refine ok_ret ?_
    exact ret_gen (R := []) ⟨_, _, rfl, ⟨rfl, rfl⟩, _, _, rfl, ⟨rfl, rfl⟩, rfl⟩ (by rw [show spreadF vol r many nodes live = ([], 1) by unfold spreadF; rw [if_neg (by first | omega | (simp at *; omega))]]; exact .tup (.cons .z (.cons (.tf rfl) .nil))) (fun t h => by cases h)
  · refine y1 rfl rfl g1_3 rfl (lop_move (v := .int _ _) rfl) ?_
    refine y1 rfl rfl g1_3 rfl (lop_lss rfl rfl) ?_
    first
      | refine s1 rfl (lop_pick_f (v := .bool _) rfl g1_3 rfl) ?_
      | refine s1 rfl (lop_pick_t (v := .bool _) rfl rfl rfl) ?_
      | refine s1 rfl (lop_pick_f (v := .bool _) rfl rfl rfl) ?_
      | refine s1 rfl (lop_pick rfl rfl rfl) ?_
    refine s1 rfl (lop_move (v := .bool _) rfl) ?_
    first
      | refine gsplitP 7 rfl rfl (fun g1_7 p1_7 => ?_) (fun g1_7 p1_7 => ?_)
      | refine gsplitB 7 rfl rfl (fun g1_7 p1_7 => ?_) (fun g1_7 p1_7 => ?_)
    · refine n1 rfl rfl g1_7 ?_
      refine n1 rfl rfl g1_7 ?_
      first
        | refine s1 rfl (lop_pick_f (v := .bool _) rfl g1_3 rfl) ?_
        | refine s1 rfl (lop_pick_t (v := .bool _) rfl g1_7 rfl) ?_
        | refine s1 rfl (lop_pick_t (v := .bool _) rfl rfl rfl) ?_
        | refine s1 rfl (lop_pick_f (v := .bool _) rfl rfl rfl) ?_
        | refine s1 rfl (lop_pick rfl rfl rfl) ?_
      refine s1 rfl (lop_move (v := .bool _) rfl) ?_
      refine n1 rfl rfl rfl ?_
      refine n1 rfl rfl rfl ?_
      refine n1 rfl rfl rfl ?_
      first
        | refine s1 rfl (lop_pick_f (v := .bool _) rfl g1_3 rfl) ?_
        | refine s1 rfl (lop_pick_t (v := .bool _) rfl g1_7 rfl) ?_
        | refine s1 rfl (lop_pick_t (v := .bool _) rfl rfl rfl) ?_
        | refine s1 rfl (lop_pick_t (v := .bool _) rfl rfl rfl) ?_
        | refine s1 rfl (lop_pick_f (v := .bool _) rfl rfl rfl) ?_
        | refine s1 rfl (lop_pick rfl rfl rfl) ?_
      refine ops_nil ?_
      refine ok_true rfl rfl ?_
      refine ok_reg ?_
      first
        | refine s1 rfl (lop_assign (v := .sl _ _) rfl) ?_
        | refine s1 rfl (lop_assign (v := .os _ _ _ _) rfl) ?_
        | refine s1 rfl (lop_assign (v := .z0) rfl) ?_
      refine s1 rfl (lop_assign (v := .int _ _) rfl) ?_
      refine ops_nil ?_
      refine ok_ret ?_
      exact ret_gen (R := []) ⟨_, _, rfl, ⟨rfl, rfl⟩, _, _, rfl, ⟨rfl, rfl⟩, rfl⟩ (by rw [show spreadF vol r many nodes live = ([], 1) by unfold spreadF; rw [if_neg (by first | omega | (simp at *; omega))]]; exact .tup (.cons .z (.cons (.tf rfl) .nil))) (fun t h => by cases h)
    · refine y1 rfl rfl g1_7 rfl (lop_move (v := .int _ _) rfl) ?_
      refine y1 rfl rfl g1_7 rfl (lop_lss rfl rfl) ?_
      first
        | refine s1 rfl (lop_pick_f (v := .bool _) rfl g1_3 rfl) ?_
        | refine s1 rfl (lop_pick_f (v := .bool _) rfl g1_7 rfl) ?_
        | refine s1 rfl (lop_pick_t (v := .bool _) rfl rfl rfl) ?_
        | refine s1 rfl (lop_pick_f (v := .bool _) rfl rfl rfl) ?_
        | refine s1 rfl (lop_pick rfl rfl rfl) ?_
      refine s1 rfl (lop_move (v := .bool _) rfl) ?_
      first
        | refine gsplitP 11 rfl rfl (fun g1_11 p1_11 => ?_) (fun g1_11 p1_11 => ?_)
        | refine gsplitB 11 rfl rfl (fun g1_11 p1_11 => ?_) (fun g1_11 p1_11 => ?_)
      · refine n1 rfl rfl g1_11 ?_
        refine n1 rfl rfl g1_11 ?_
        refine n1 rfl rfl g1_11 ?_
        first
          | refine s1 rfl (lop_pick_f (v := .bool _) rfl g1_3 rfl) ?_
          | refine s1 rfl (lop_pick_f (v := .bool _) rfl g1_7 rfl) ?_
          | refine s1 rfl (lop_pick_t (v := .bool _) rfl g1_11 rfl) ?_
          | refine s1 rfl (lop_pick_t (v := .bool _) rfl rfl rfl) ?_
          | refine s1 rfl (lop_pick_f (v := .bool _) rfl rfl rfl) ?_
          | refine s1 rfl (lop_pick rfl rfl rfl) ?_
        refine ops_nil ?_
        refine ok_true rfl rfl ?_
        refine ok_reg ?_
        first
          | refine s1 rfl (lop_assign (v := .sl _ _) rfl) ?_
          | refine s1 rfl (lop_assign (v := .os _ _ _ _) rfl) ?_
          | refine s1 rfl (lop_assign (v := .z0) rfl) ?_
        refine s1 rfl (lop_assign (v := .int _ _) rfl) ?_
        refine ops_nil ?_
        refine ok_ret ?_
        exact ret_gen (R := []) ⟨_, _, rfl, ⟨rfl, rfl⟩, _, _, rfl, ⟨rfl, rfl⟩, rfl⟩ (by rw [show spreadF vol r many nodes live = ([], 1) by unfold spreadF; rw [if_neg (by first | omega | (simp at *; omega))]]; exact .tup (.cons .z (.cons (.tf rfl) .nil))) (fun t h => by cases h)
      · refine y1 rfl rfl g1_11 rfl (lop_move (v := .int _ _) rfl) ?_
        refine y1 rfl rfl g1_11 rfl (lop_call rfl Try.call69 (FrzL.tf rfl) (.inl rfl) (site_may_ac nodes)) ?_
        refine y1 rfl rfl g1_11 rfl (lop_not rfl) ?_
        first
          | refine s1 rfl (lop_pick_f (v := .bool _) rfl g1_3 rfl) ?_
          | refine s1 rfl (lop_pick_f (v := .bool _) rfl g1_7 rfl) ?_
          | refine s1 rfl (lop_pick_f (v := .bool _) rfl g1_11 rfl) ?_
          | refine s1 rfl (lop_pick_t (v := .bool _) rfl rfl rfl) ?_
          | refine s1 rfl (lop_pick_f (v := .bool _) rfl rfl rfl) ?_
          | refine s1 rfl (lop_pick rfl rfl rfl) ?_
        refine ops_nil ?_
        first
          | refine ok_if _ rfl rfl (fun h_t31 => ?_) (fun h_t31 => ?_)
          | refine ok_cond rfl rfl (fun h_t31 => ?_) (fun h_t31 => ?_)
        · refine ok_reg ?_
          first
            | refine s1 rfl (lop_assign (v := .sl _ _) rfl) ?_
            | refine s1 rfl (lop_assign (v := .os _ _ _ _) rfl) ?_
            | refine s1 rfl (lop_assign (v := .z0) rfl) ?_
          refine s1 rfl (lop_assign (v := .int _ _) rfl) ?_
          refine ops_nil ?_
          refine ok_ret ?_
          exact ret_gen (R := []) ⟨_, _, rfl, ⟨rfl, rfl⟩, _, _, rfl, ⟨rfl, rfl⟩, rfl⟩ (by rw [show spreadF vol r many nodes live = ([], 1) by unfold spreadF; rw [if_neg (by first | omega | (simp at *; omega))]]; exact .tup (.cons .z (.cons (.tf rfl) .nil))) (fun t h => by cases h)
        · refine ok_skip ?_
          refine ok_reg ?_
          refine s1 rfl (lop_move (v := .int _ _) rfl) ?_
          refine s1 rfl (lop_move (v := .int _ _) rfl) ?_
          first
            | refine s1 rfl (lop_move (v := .sl _ _) rfl) ?_
            | refine s1 rfl (lop_move (v := .os _ _ _ _) rfl) ?_
            | refine s1 rfl (lop_move (v := .z0) rfl) ?_
          have q1 : 1 ≤ r ∧ r ≤ 3 := by simpa using p1_3
          have q2 : 1 ≤ nodes ∧ nodes ≤ 64 := by simpa using h_t31
          have q3 := ringF_le vol nodes live
          refine s1 rfl (lop_call rfl Try.call70 (FrzL.tf rfl) (.inl rfl) (hR vol nodes live (by omega) hv q2.1 q2.2 hl)) ?_
          first
            | refine s1 rfl (lop_assign (v := .sl _ _) rfl) ?_
            | refine s1 rfl (lop_assign (v := .os _ _ _ _) rfl) ?_
            | refine s1 rfl (lop_assign (v := .z0) rfl) ?_
          refine ops_nil ?_
          refine ok_seq ?_
          refine ok_reg ?_
          first
            | refine s1 rfl (lop_move (v := .sl _ _) rfl) ?_
            | refine s1 rfl (lop_move (v := .os _ _ _ _) rfl) ?_
            | refine s1 rfl (lop_move (v := .z0) rfl) ?_
          refine s1 rfl (lop_len rfl Try.underlying74 ⟨⟨_, rfl⟩, rfl⟩) ?_
          refine s1 rfl (lop_move (v := .int _ _) rfl) ?_
          refine s1 rfl (lop_lss rfl rfl) ?_
          refine ops_nil ?_
          first
            | refine ok_if _ rfl rfl (fun h_t39 => ?_) (fun h_t39 => ?_)
            | refine ok_cond rfl rfl (fun h_t39 => ?_) (fun h_t39 => ?_)
          · refine ok_reg ?_
            first
              | refine s1 rfl (lop_assign (v := .sl _ _) rfl) ?_
              | refine s1 rfl (lop_assign (v := .os _ _ _ _) rfl) ?_
              | refine s1 rfl (lop_assign (v := .z0) rfl) ?_
            refine s1 rfl (lop_assign (v := .int _ _) rfl) ?_
            refine ops_nil ?_
            refine ok_ret ?_
            exact ret_gen (R := []) ⟨_, _, rfl, ⟨rfl, rfl⟩, _, _, rfl, ⟨rfl, rfl⟩, rfl⟩ (by rw [show spreadF vol r many nodes live = ([], 10) by unfold spreadF; rw [if_pos (by omega), if_pos (by omega)]]; exact .tup (.cons .z (.cons (.tf rfl) .nil))) (fun t h => by cases h)
          · refine ok_skip ?_
            refine ok_reg ?_
            first
              | refine s1 rfl (lop_assign (v := .sl _ _) rfl) ?_
              | refine s1 rfl (lop_assign (v := .os _ _ _ _) rfl) ?_
              | refine s1 rfl (lop_assign (v := .z0) rfl) ?_
            refine ops_nil ?_
            refine ok_seq ?_
            refine ok_reg ?_
            first
              | refine s1 rfl (lop_move (v := .sl _ _) rfl) ?_
              | refine s1 rfl (lop_move (v := .os _ _ _ _) rfl) ?_
              | refine s1 rfl (lop_move (v := .z0) rfl) ?_
            refine s1 rfl (lop_move (v := .int _ _) rfl) ?_
            refine s1 rfl (lop_slice_sl (l := 0) (h := many.toNat) (ys := ((ringF vol nodes live).take many.toNat).flatMap intEnc) rfl Try.underlying74 Try.sizeOf3 (by rw [flat_length intEnc_len]) rfl ⟨_, _, rfl, by omega⟩ (Nat.zero_le _) (by omega) (by rw [Nat.zero_mul, List.drop_zero, Nat.sub_zero, flat_take intEnc_len])) ?_
            refine s1 rfl (lop_len rfl Try.underlying74 ⟨⟨_, rfl⟩, rfl⟩) ?_
            refine s1 rfl (lop_move (v := .int _ _) rfl) ?_
            refine ops_nil ?_
            refine ok_block ?_
            refine ok_loop (ι := {i : Nat // i ≤ many.toNat}) (fun i => ⟨[(1, i64 r), (13, .os 100 0 2 i.1), (42, rowOf intEnc ((ringF vol nodes live).take many.toNat)), (43, i64 many.toNat), (44, i64 i.1)], [(100, some (true, (((ringF vol nodes live).take i.1).map (fun n => (⟨r, n⟩ : PlD))).flatMap PlD.enc))], 56⟩) (fun i => many.toNat - i.1) (⟨0, Nat.zero_le _⟩) ?_ ?_
            · exact le_ren [(100, none)] ⟨rfl, rfl, congrArg (fun n => V.sl n _) (by rw [List.length_take]; omega), rfl, rfl, trivial⟩ rfl ⟨⟨rfl, rfl⟩, trivial⟩ rfl rfl rfl
            rintro ⟨i, hi⟩
            dsimp only
            have hlen : ((ringF vol nodes live).take many.toNat).length = many.toNat := by rw [List.length_take]; omega
            have hlen2 : ((ringF vol nodes live).take i).length = i := by rw [List.length_take]; omega
            refine ok_reg ?_
            refine s1 rfl (lop_lss rfl rfl) ?_
            refine ops_nil ?_
            refine ok_seq ?_
            first
              | refine ok_if _ rfl rfl (fun h_t45 => ?_) (fun h_t45 => ?_)
              | refine ok_cond rfl rfl (fun h_t45 => ?_) (fun h_t45 => ?_)
            · have h_t45 : i < ((ringF vol nodes live).take many.toNat).length := by have := Int.ofNat_lt.1 h_t45; omega
              refine ok_skip ?_
              refine ok_seq ?_
              refine ok_block ?_
              refine ok_reg ?_
              first
                | refine s1 rfl (lop_indexAddr_os rfl rfl Try.underlying74 Try.sizeOf3 rfl h_t45) ?_
                | refine s1 rfl (lop_indexAddr_sl rfl rfl Try.underlying74 Try.sizeOf3 rfl h_t45 (flat_at intEnc_len h_t45) (flat_ne intEnc_len (by decide) h_t45)) ?_
              first
                | refine s1 rfl (lop_load_rf rfl rfl Try.isAgg3 rfl) ?_
                | refine s1 rfl (lop_load_fp rfl Try.isAgg3 rfl) ?_
              refine s1 rfl (lop_assign (v := .int _ _) rfl) ?_
              refine ops_nil ?_
              refine ok_region ?_
              first
                | refine s1 rfl (lop_move (v := .sl _ _) rfl) ?_
                | refine s1 rfl (lop_move (v := .os _ _ _ _) rfl) ?_
                | refine s1 rfl (lop_move (v := .z0) rfl) ?_
              refine s1 rfl (lop_move (v := .int _ _) rfl) ?_
              refine s1 rfl (lop_move (v := .int _ _) rfl) ?_
              refine s1 rfl (lop_buildK (cs := [.int _ _, .int _ _]) Try.underlying41 Try.zeroValue41 rfl rfl places41 rfl) ?_
              first
                | refine s1w rfl (lop_buildSlice (t := 52) (cs := [.int _ _, .int _ _]) (f := true) Try.underlying30 Try.sizeOf41 (by decide) Try.zeroValue41 rfl rfl rfl (by decide) rfl (.inr (by decide)) rfl (fun h => by cases h)) rfl ?_
                | refine s1w rfl (lop_buildSlice (t := 52) (cs := [.int _ _, .int _ _]) (f := false) Try.underlying30 Try.sizeOf41 (by decide) Try.zeroValue41 rfl rfl rfl (by decide) rfl (.inr (by decide)) rfl (fun _ => rfl)) rfl ?_
              first
                | refine s2w rfl (lop_append_os (t' := 53) rfl rfl rfl (by rw [flat_length PlD.len, List.length_map, hlen2]) (.os Try.underlying30 (List.mem_singleton.2 rfl) rfl (Nat.le_of_ble_eq_true rfl) rfl) Try.underlying30 info41 rfl (by omega) (by omega)) rfl ?_
                | refine s1w rfl (lop_append_z0 (t' := 53) rfl rfl (.os Try.underlying30 (List.mem_singleton.2 rfl) rfl (Nat.le_of_ble_eq_true rfl) rfl) Try.underlying30 info41 rfl (by omega) (by omega)) rfl ?_
                | refine s2w rfl (lop_append_os (t' := 53) (R := []) rfl rfl rfl (by rw [flat_length PlD.len, List.length_map, hlen2]) (.sl Try.underlying30 rfl) Try.underlying30 info41 rfl (by omega) (by omega)) rfl ?_
                | refine s1w rfl (lop_append_z0 (t' := 53) (R := []) rfl rfl (.sl Try.underlying30 rfl) Try.underlying30 info41 rfl (by omega) (by omega)) rfl ?_
                | refine s2w rfl (lop_append_os (t' := 53) (R := []) rfl rfl rfl (by rw [flat_length PlD.len, List.length_map, hlen2]) (.z0 Try.underlying30) Try.underlying30 info41 rfl (by omega) (by omega)) rfl ?_
                | refine s1w rfl (lop_append_z0 (t' := 53) (R := []) rfl rfl (.z0 Try.underlying30) Try.underlying30 info41 rfl (by omega) (by omega)) rfl ?_
              first
                | refine s1 rfl (lop_assign (v := .sl _ _) rfl) ?_
                | refine s1 rfl (lop_assign (v := .os _ _ _ _) rfl) ?_
                | refine s1 rfl (lop_assign (v := .z0) rfl) ?_
              refine ops_nil ?_
              refine ok_region ?_
              refine s1 rfl (lop_bop rfl rfl rfl (bop_add (by omega) (by omega))) ?_
              refine s1 rfl (lop_move (v := .int _ _) rfl) ?_
              refine ops_nil ?_
              have hri : i < (ringF vol nodes live).length := by omega
              have e1 : (ringF vol nodes live).take (i + 1) = (ringF vol nodes live).take i ++ [((ringF vol nodes live).take many.toNat)[i]] := by rw [List.take_add_one, List.getElem?_eq_getElem hri, List.getElem_take]; rfl
              exact ⟨⟨i + 1, by omega⟩, by simp only; omega, le_ren [(100, some 53)] ⟨rfl, rfl, rfl, rfl, rfl, trivial⟩ rfl ⟨⟨_, rfl, by show _ = List.flatMap _ _; rw [e1, List.map_append, List.flatMap_append]; rfl⟩, trivial⟩ rfl rfl rfl⟩
            · refine ok_exit ?_
              refine ok_reg ?_
              first
                | refine s1 rfl (lop_move (v := .sl _ _) rfl) ?_
                | refine s1 rfl (lop_move (v := .os _ _ _ _) rfl) ?_
                | refine s1 rfl (lop_move (v := .z0) rfl) ?_
              first
                | refine s1 rfl (lop_assign (v := .sl _ _) rfl) ?_
                | refine s1 rfl (lop_assign (v := .os _ _ _ _) rfl) ?_
                | refine s1 rfl (lop_assign (v := .z0) rfl) ?_
              refine s1 rfl (lop_assign (v := .int _ _) rfl) ?_
              refine ops_nil ?_
              refine ok_ret ?_
              have e9 : i = many.toNat := by omega
              subst e9
              have e8 : spreadF vol r many nodes live = (((ringF vol nodes live).take many.toNat).map (fun n => ⟨r, n⟩), 0) := by unfold spreadF; rw [if_pos (by omega), if_neg (by omega)]
              rw [e8]
              exact ret_gen (R := [100]) ⟨_, _, rfl, ⟨rfl, rfl⟩, _, _, rfl, ⟨rfl, rfl⟩, rfl⟩ (.tup (.cons (by unfold rowOf; rw [List.length_map, hlen]; exact .osf (List.mem_singleton.2 rfl) rfl (by rw [flat_length PlD.len, List.length_map, hlen]; omega) (by rw [List.drop_zero, List.take_of_length_le (by rw [flat_length PlD.len, List.length_map, hlen]; omega)])) (.cons (.tf rfl) .nil))) (fun t ht => by simp at ht; subst ht; exact Option.some_ne_none _)

end Go.Proofs
