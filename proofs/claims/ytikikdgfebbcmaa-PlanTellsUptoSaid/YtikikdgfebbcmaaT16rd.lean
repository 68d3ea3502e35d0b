/- Chapter 16: walks. Printed by gen.py. -/
import Derived.Test.YtikikdgfebbcmaaT16rc
set_option linter.unusedVariables false
set_option linter.unusedSimpArgs false
set_option maxRecDepth 100000
namespace Go.Proofs
open Go.Hg

theorem ref11_Spread_ac (vol r many nodes : Int) {live : List Bool} (hl : live.length ≤ 1048576) : AC Try.prog 35 [i64 vol, i64 r, i64 many, i64 nodes, rowOf boolEnc live] (.tup [rowOf PlD.enc (spreadF vol r many nodes live).1, i64 (spreadF vol r many nodes live).2]) := by
  have q3 := ringF_le vol nodes live
  refine AC.intro Try.func35 rfl (Nat.le_of_ble_eq_true rfl) ?_
  refine ok_reg ?_
  first
    | refine s1 rfl (lop_assign (v := .sl _ _) rfl) ?_
    | refine s1 rfl (lop_assign (v := .os _ _ _ _) rfl) ?_
    | refine s1 rfl (lop_assign (v := .z0) rfl) ?_
  refine s1 rfl (lop_assign (v := .int _ _) rfl) ?_
  refine ops_nil ?_
  refine ok_seq ?_
  refine ok_reg ?_
  refine s1 rfl (lop_move (v := .int _ _) rfl) ?_
  refine s1 rfl (lop_lss rfl rfl) ?_
  refine s1 rfl (lop_move (v := .bool _) rfl) ?_
  first
    | refine gsplitP 2 rfl rfl (fun g1_2 p1_2 => ?_) (fun g1_2 p1_2 => ?_)
    | refine gsplitB 2 rfl rfl (fun g1_2 p1_2 => ?_) (fun g1_2 p1_2 => ?_)
  · refine n1 rfl rfl g1_2 ?_
    refine n1 rfl rfl g1_2 ?_
    first
      | refine s1 rfl (lop_pick_t (v := .bool _) rfl g1_2 rfl) ?_
      | refine s1 rfl (lop_pick_t (v := .bool _) rfl rfl rfl) ?_
      | refine s1 rfl (lop_pick_f (v := .bool _) rfl rfl rfl) ?_
      | refine s1 rfl (lop_pick rfl rfl rfl) ?_
    refine s1 rfl (lop_move (v := .bool _) rfl) ?_
    refine n1 rfl rfl rfl ?_
    refine n1 rfl rfl rfl ?_
    first
      | refine s1 rfl (lop_pick_t (v := .bool _) rfl g1_2 rfl) ?_
      | refine s1 rfl (lop_pick_t (v := .bool _) rfl rfl rfl) ?_
      | refine s1 rfl (lop_pick_t (v := .bool _) rfl rfl rfl) ?_
      | refine s1 rfl (lop_pick_f (v := .bool _) rfl rfl rfl) ?_
      | refine s1 rfl (lop_pick rfl rfl rfl) ?_
    refine s1 rfl (lop_move (v := .bool _) rfl) ?_
    refine n1 rfl rfl rfl ?_
    refine n1 rfl rfl rfl ?_
    first
      | refine s1 rfl (lop_pick_t (v := .bool _) rfl g1_2 rfl) ?_
      | refine s1 rfl (lop_pick_t (v := .bool _) rfl rfl rfl) ?_
      | refine s1 rfl (lop_pick_t (v := .bool _) rfl rfl rfl) ?_
      | refine s1 rfl (lop_pick_t (v := .bool _) rfl rfl rfl) ?_
      | refine s1 rfl (lop_pick_f (v := .bool _) rfl rfl rfl) ?_
      | refine s1 rfl (lop_pick rfl rfl rfl) ?_
    refine s1 rfl (lop_move (v := .bool _) rfl) ?_
    refine n1 rfl rfl rfl ?_
    refine n1 rfl rfl rfl ?_
    first
      | refine s1 rfl (lop_pick_t (v := .bool _) rfl g1_2 rfl) ?_
      | refine s1 rfl (lop_pick_t (v := .bool _) rfl rfl rfl) ?_
      | refine s1 rfl (lop_pick_t (v := .bool _) rfl rfl rfl) ?_
      | refine s1 rfl (lop_pick_t (v := .bool _) rfl rfl rfl) ?_
      | refine s1 rfl (lop_pick_t (v := .bool _) rfl rfl rfl) ?_
      | refine s1 rfl (lop_pick_f (v := .bool _) rfl rfl rfl) ?_
      | refine s1 rfl (lop_pick rfl rfl rfl) ?_
    refine s1 rfl (lop_move (v := .bool _) rfl) ?_
    refine n1 rfl rfl rfl ?_
    refine n1 rfl rfl rfl ?_
    first
      | refine s1 rfl (lop_pick_t (v := .bool _) rfl g1_2 rfl) ?_
      | refine s1 rfl (lop_pick_t (v := .bool _) rfl rfl rfl) ?_
      | refine s1 rfl (lop_pick_t (v := .bool _) rfl rfl rfl) ?_
      | refine s1 rfl (lop_pick_t (v := .bool _) rfl rfl rfl) ?_
      | refine s1 rfl (lop_pick_t (v := .bool _) rfl rfl rfl) ?_
      | refine s1 rfl (lop_pick_t (v := .bool _) rfl rfl rfl) ?_
      | refine s1 rfl (lop_pick_f (v := .bool _) rfl rfl rfl) ?_
      | refine s1 rfl (lop_pick rfl rfl rfl) ?_
    refine ops_nil ?_
    refine ok_true rfl rfl ?_
    refine ok_reg ?_
    first
      | refine s1 rfl (lop_assign (v := .sl _ _) rfl) ?_
      | refine s1 rfl (lop_assign (v := .os _ _ _ _) rfl) ?_
      | refine s1 rfl (lop_assign (v := .z0) rfl) ?_
    refine s1 rfl (lop_assign (v := .int _ _) rfl) ?_
    refine ops_nil ?_
    refine ok_ret ?_
    exact ret_gen (R := []) ⟨_, _, rfl, ⟨rfl, rfl⟩, _, _, rfl, ⟨rfl, rfl⟩, rfl⟩ (by rw [show spreadF vol r many nodes live = ([], 1) by unfold spreadF; rw [if_neg (by first | omega | (simp at *; omega))]]; exact .tup (.cons .z (.cons (.tf rfl) .nil))) (fun t h => by cases h)
  · refine y1 rfl rfl g1_2 rfl (lop_move (v := .int _ _) rfl) ?_
    refine y1 rfl rfl g1_2 rfl (lop_gtr rfl rfl) ?_
    first
      | refine s1 rfl (lop_pick_f (v := .bool _) rfl g1_2 rfl) ?_
      | refine s1 rfl (lop_pick_t (v := .bool _) rfl rfl rfl) ?_
      | refine s1 rfl (lop_pick_f (v := .bool _) rfl rfl rfl) ?_
      | refine s1 rfl (lop_pick rfl rfl rfl) ?_
    refine s1 rfl (lop_move (v := .bool _) rfl) ?_
    first
      | refine gsplitP 6 rfl rfl (fun g1_6 p1_6 => ?_) (fun g1_6 p1_6 => ?_)
      | refine gsplitB 6 rfl rfl (fun g1_6 p1_6 => ?_) (fun g1_6 p1_6 => ?_)
    · refine n1 rfl rfl g1_6 ?_
      refine n1 rfl rfl g1_6 ?_
      first
        | refine s1 rfl (lop_pick_f (v := .bool _) rfl g1_2 rfl) ?_
        | refine s1 rfl (lop_pick_t (v := .bool _) rfl g1_6 rfl) ?_
        | refine s1 rfl (lop_pick_t (v := .bool _) rfl rfl rfl) ?_
        | refine s1 rfl (lop_pick_f (v := .bool _) rfl rfl rfl) ?_
        | refine s1 rfl (lop_pick rfl rfl rfl) ?_
      refine s1 rfl (lop_move (v := .bool _) rfl) ?_
      refine n1 rfl rfl rfl ?_
      refine n1 rfl rfl rfl ?_
      first
        | refine s1 rfl (lop_pick_f (v := .bool _) rfl g1_2 rfl) ?_
        | refine s1 rfl (lop_pick_t (v := .bool _) rfl g1_6 rfl) ?_
        | refine s1 rfl (lop_pick_t (v := .bool _) rfl rfl rfl) ?_
        | refine s1 rfl (lop_pick_t (v := .bool _) rfl rfl rfl) ?_
        | refine s1 rfl (lop_pick_f (v := .bool _) rfl rfl rfl) ?_
        | refine s1 rfl (lop_pick rfl rfl rfl) ?_
      refine s1 rfl (lop_move (v := .bool _) rfl) ?_
      refine n1 rfl rfl rfl ?_
      refine n1 rfl rfl rfl ?_
      first
        | refine s1 rfl (lop_pick_f (v := .bool _) rfl g1_2 rfl) ?_
        | refine s1 rfl (lop_pick_t (v := .bool _) rfl g1_6 rfl) ?_
        | refine s1 rfl (lop_pick_t (v := .bool _) rfl rfl rfl) ?_
        | refine s1 rfl (lop_pick_t (v := .bool _) rfl rfl rfl) ?_
        | refine s1 rfl (lop_pick_t (v := .bool _) rfl rfl rfl) ?_
        | refine s1 rfl (lop_pick_f (v := .bool _) rfl rfl rfl) ?_
        | refine s1 rfl (lop_pick rfl rfl rfl) ?_
      refine s1 rfl (lop_move (v := .bool _) rfl) ?_
      refine n1 rfl rfl rfl ?_
      refine n1 rfl rfl rfl ?_
      first
        | refine s1 rfl (lop_pick_f (v := .bool _) rfl g1_2 rfl) ?_
        | refine s1 rfl (lop_pick_t (v := .bool _) rfl g1_6 rfl) ?_
        | refine s1 rfl (lop_pick_t (v := .bool _) rfl rfl rfl) ?_
        | refine s1 rfl (lop_pick_t (v := .bool _) rfl rfl rfl) ?_
        | refine s1 rfl (lop_pick_t (v := .bool _) rfl rfl rfl) ?_
        | refine s1 rfl (lop_pick_t (v := .bool _) rfl rfl rfl) ?_
        | refine s1 rfl (lop_pick_f (v := .bool _) rfl rfl rfl) ?_
        | refine s1 rfl (lop_pick rfl rfl rfl) ?_
      refine ops_nil ?_
      refine ok_true rfl rfl ?_
      refine ok_reg ?_
      first
        | refine s1 rfl (lop_assign (v := .sl _ _) rfl) ?_
        | refine s1 rfl (lop_assign (v := .os _ _ _ _) rfl) ?_
        | refine s1 rfl (lop_assign (v := .z0) rfl) ?_
      refine s1 rfl (lop_assign (v := .int _ _) rfl) ?_
      refine ops_nil ?_
      refine ok_ret ?_
      exact ret_gen (R := []) ⟨_, _, rfl, ⟨rfl, rfl⟩, _, _, rfl, ⟨rfl, rfl⟩, rfl⟩ (by rw [show spreadF vol r many nodes live = ([], 1) by unfold spreadF; rw [if_neg (by first | omega | (simp at *; omega))]]; exact .tup (.cons .z (.cons (.tf rfl) .nil))) (fun t h => by cases h)
    · refine y1 rfl rfl g1_6 rfl (lop_move (v := .int _ _) rfl) ?_
      refine y1 rfl rfl g1_6 rfl (lop_lss rfl rfl) ?_
      first
        | refine s1 rfl (lop_pick_f (v := .bool _) rfl g1_2 rfl) ?_
        | refine s1 rfl (lop_pick_f (v := .bool _) rfl g1_6 rfl) ?_
        | refine s1 rfl (lop_pick_t (v := .bool _) rfl rfl rfl) ?_
        | refine s1 rfl (lop_pick_f (v := .bool _) rfl rfl rfl) ?_
        | refine s1 rfl (lop_pick rfl rfl rfl) ?_
      refine s1 rfl (lop_move (v := .bool _) rfl) ?_
      first
        | refine gsplitP 10 rfl rfl (fun g1_10 p1_10 => ?_) (fun g1_10 p1_10 => ?_)
        | refine gsplitB 10 rfl rfl (fun g1_10 p1_10 => ?_) (fun g1_10 p1_10 => ?_)
      · refine n1 rfl rfl g1_10 ?_
        refine n1 rfl rfl g1_10 ?_
        first
          | refine s1 rfl (lop_pick_f (v := .bool _) rfl g1_2 rfl) ?_
          | refine s1 rfl (lop_pick_f (v := .bool _) rfl g1_6 rfl) ?_
          | refine s1 rfl (lop_pick_t (v := .bool _) rfl g1_10 rfl) ?_
          | refine s1 rfl (lop_pick_t (v := .bool _) rfl rfl rfl) ?_
          | refine s1 rfl (lop_pick_f (v := .bool _) rfl rfl rfl) ?_
          | refine s1 rfl (lop_pick rfl rfl rfl) ?_
        refine s1 rfl (lop_move (v := .bool _) rfl) ?_
        refine n1 rfl rfl rfl ?_
        refine n1 rfl rfl rfl ?_
        first
          | refine s1 rfl (lop_pick_f (v := .bool _) rfl g1_2 rfl) ?_
          | refine s1 rfl (lop_pick_f (v := .bool _) rfl g1_6 rfl) ?_
          | refine s1 rfl (lop_pick_t (v := .bool _) rfl g1_10 rfl) ?_
          | refine s1 rfl (lop_pick_t (v := .bool _) rfl rfl rfl) ?_
          | refine s1 rfl (lop_pick_t (v := .bool _) rfl rfl rfl) ?_
          | refine s1 rfl (lop_pick_f (v := .bool _) rfl rfl rfl) ?_
          | refine s1 rfl (lop_pick rfl rfl rfl) ?_
        refine s1 rfl (lop_move (v := .bool _) rfl) ?_
        refine n1 rfl rfl rfl ?_
        refine n1 rfl rfl rfl ?_
        first
          | refine s1 rfl (lop_pick_f (v := .bool _) rfl g1_2 rfl) ?_
          | refine s1 rfl (lop_pick_f (v := .bool _) rfl g1_6 rfl) ?_
          | refine s1 rfl (lop_pick_t (v := .bool _) rfl g1_10 rfl) ?_
          | refine s1 rfl (lop_pick_t (v := .bool _) rfl rfl rfl) ?_
          | refine s1 rfl (lop_pick_t (v := .bool _) rfl rfl rfl) ?_
          | refine s1 rfl (lop_pick_t (v := .bool _) rfl rfl rfl) ?_
          | refine s1 rfl (lop_pick_f (v := .bool _) rfl rfl rfl) ?_
          | refine s1 rfl (lop_pick rfl rfl rfl) ?_
        refine ops_nil ?_
        refine ok_true rfl rfl ?_
        refine ok_reg ?_
        first
          | refine s1 rfl (lop_assign (v := .sl _ _) rfl) ?_
          | refine s1 rfl (lop_assign (v := .os _ _ _ _) rfl) ?_
          | refine s1 rfl (lop_assign (v := .z0) rfl) ?_
        refine s1 rfl (lop_assign (v := .int _ _) rfl) ?_
        refine ops_nil ?_
        refine ok_ret ?_
        exact ret_gen (R := []) ⟨_, _, rfl, ⟨rfl, rfl⟩, _, _, rfl, ⟨rfl, rfl⟩, rfl⟩ (by rw [show spreadF vol r many nodes live = ([], 1) by unfold spreadF; rw [if_neg (by first | omega | (simp at *; omega))]]; exact .tup (.cons .z (.cons (.tf rfl) .nil))) (fun t h => by cases h)
      · refine y1 rfl rfl g1_10 rfl (lop_move (v := .int _ _) rfl) ?_
        refine y1 rfl rfl g1_10 rfl (lop_lss rfl rfl) ?_
        first
          | refine s1 rfl (lop_pick_f (v := .bool _) rfl g1_2 rfl) ?_
          | refine s1 rfl (lop_pick_f (v := .bool _) rfl g1_6 rfl) ?_
          | refine s1 rfl (lop_pick_f (v := .bool _) rfl g1_10 rfl) ?_
          | refine s1 rfl (lop_pick_t (v := .bool _) rfl rfl rfl) ?_
          | refine s1 rfl (lop_pick_f (v := .bool _) rfl rfl rfl) ?_
          | refine s1 rfl (lop_pick rfl rfl rfl) ?_
        refine s1 rfl (lop_move (v := .bool _) rfl) ?_
        first
          | refine gsplitP 14 rfl rfl (fun g1_14 p1_14 => ?_) (fun g1_14 p1_14 => ?_)
          | refine gsplitB 14 rfl rfl (fun g1_14 p1_14 => ?_) (fun g1_14 p1_14 => ?_)
        · refine n1 rfl rfl g1_14 ?_
          refine n1 rfl rfl g1_14 ?_
          first
            | refine s1 rfl (lop_pick_f (v := .bool _) rfl g1_2 rfl) ?_
            | refine s1 rfl (lop_pick_f (v := .bool _) rfl g1_6 rfl) ?_
            | refine s1 rfl (lop_pick_f (v := .bool _) rfl g1_10 rfl) ?_
            | refine s1 rfl (lop_pick_t (v := .bool _) rfl g1_14 rfl) ?_
            | refine s1 rfl (lop_pick_t (v := .bool _) rfl rfl rfl) ?_
            | refine s1 rfl (lop_pick_f (v := .bool _) rfl rfl rfl) ?_
            | refine s1 rfl (lop_pick rfl rfl rfl) ?_
          refine s1 rfl (lop_move (v := .bool _) rfl) ?_
          refine n1 rfl rfl rfl ?_
          refine n1 rfl rfl rfl ?_
          first
            | refine s1 rfl (lop_pick_f (v := .bool _) rfl g1_2 rfl) ?_
            | refine s1 rfl (lop_pick_f (v := .bool _) rfl g1_6 rfl) ?_
            | refine s1 rfl (lop_pick_f (v := .bool _) rfl g1_10 rfl) ?_
            | refine s1 rfl (lop_pick_t (v := .bool _) rfl g1_14 rfl) ?_
            | refine s1 rfl (lop_pick_t (v := .bool _) rfl rfl rfl) ?_
            | refine s1 rfl (lop_pick_t (v := .bool _) rfl rfl rfl) ?_
            | refine s1 rfl (lop_pick_f (v := .bool _) rfl rfl rfl) ?_
            | refine s1 rfl (lop_pick rfl rfl rfl) ?_
          refine ops_nil ?_
          refine ok_true rfl rfl ?_
          refine ok_reg ?_
          first
            | refine s1 rfl (lop_assign (v := .sl _ _) rfl) ?_
            | refine s1 rfl (lop_assign (v := .os _ _ _ _) rfl) ?_
            | refine s1 rfl (lop_assign (v := .z0) rfl) ?_
          refine s1 rfl (lop_assign (v := .int _ _) rfl) ?_
          refine ops_nil ?_
          refine ok_ret ?_
          exact ret_gen (R := []) ⟨_, _, rfl, ⟨rfl, rfl⟩, _, _, rfl, ⟨rfl, rfl⟩, rfl⟩ (by rw [show spreadF vol r many nodes live = ([], 1) by unfold spreadF; rw [if_neg (by first | omega | (simp at *; omega))]]; exact .tup (.cons .z (.cons (.tf rfl) .nil))) (fun t h => by cases h)
        · refine y1 rfl rfl g1_14 rfl (lop_move (v := .int _ _) rfl) ?_
          refine y1 rfl rfl g1_14 rfl (lop_lss rfl rfl) ?_
          first
            | refine s1 rfl (lop_pick_f (v := .bool _) rfl g1_2 rfl) ?_
            | refine s1 rfl (lop_pick_f (v := .bool _) rfl g1_6 rfl) ?_
            | refine s1 rfl (lop_pick_f (v := .bool _) rfl g1_10 rfl) ?_
            | refine s1 rfl (lop_pick_f (v := .bool _) rfl g1_14 rfl) ?_
            | refine s1 rfl (lop_pick_t (v := .bool _) rfl rfl rfl) ?_
            | refine s1 rfl (lop_pick_f (v := .bool _) rfl rfl rfl) ?_
            | refine s1 rfl (lop_pick rfl rfl rfl) ?_
          refine s1 rfl (lop_move (v := .bool _) rfl) ?_
          first
            | refine gsplitP 18 rfl rfl (fun g1_18 p1_18 => ?_) (fun g1_18 p1_18 => ?_)
            | refine gsplitB 18 rfl rfl (fun g1_18 p1_18 => ?_) (fun g1_18 p1_18 => ?_)
          · refine n1 rfl rfl g1_18 ?_
            refine n1 rfl rfl g1_18 ?_
            first
              | refine s1 rfl (lop_pick_f (v := .bool _) rfl g1_2 rfl) ?_
              | refine s1 rfl (lop_pick_f (v := .bool _) rfl g1_6 rfl) ?_
              | refine s1 rfl (lop_pick_f (v := .bool _) rfl g1_10 rfl) ?_
              | refine s1 rfl (lop_pick_f (v := .bool _) rfl g1_14 rfl) ?_
              | refine s1 rfl (lop_pick_t (v := .bool _) rfl g1_18 rfl) ?_
              | refine s1 rfl (lop_pick_t (v := .bool _) rfl rfl rfl) ?_
              | refine s1 rfl (lop_pick_f (v := .bool _) rfl rfl rfl) ?_
              | refine s1 rfl (lop_pick rfl rfl rfl) ?_
            refine ops_nil ?_
            refine ok_true rfl rfl ?_
            refine ok_reg ?_
            first
              | refine s1 rfl (lop_assign (v := .sl _ _) rfl) ?_
              | refine s1 rfl (lop_assign (v := .os _ _ _ _) rfl) ?_
              | refine s1 rfl (lop_assign (v := .z0) rfl) ?_
            refine s1 rfl (lop_assign (v := .int _ _) rfl) ?_
            refine ops_nil ?_
            refine ok_ret ?_
            exact ret_gen (R := []) ⟨_, _, rfl, ⟨rfl, rfl⟩, _, _, rfl, ⟨rfl, rfl⟩, rfl⟩ (by rw [show spreadF vol r many nodes live = ([], 1) by unfold spreadF; rw [if_neg (by first | omega | (simp at *; omega))]]; exact .tup (.cons .z (.cons (.tf rfl) .nil))) (fun t h => by cases h)
          · refine y1 rfl rfl g1_18 rfl (lop_move (v := .int _ _) rfl) ?_
            refine y1 rfl rfl g1_18 rfl (lop_gtr rfl rfl) ?_
            first
              | refine s1 rfl (lop_pick_f (v := .bool _) rfl g1_2 rfl) ?_
              | refine s1 rfl (lop_pick_f (v := .bool _) rfl g1_6 rfl) ?_
              | refine s1 rfl (lop_pick_f (v := .bool _) rfl g1_10 rfl) ?_
              | refine s1 rfl (lop_pick_f (v := .bool _) rfl g1_14 rfl) ?_
              | refine s1 rfl (lop_pick_f (v := .bool _) rfl g1_18 rfl) ?_
              | refine s1 rfl (lop_pick_t (v := .bool _) rfl rfl rfl) ?_
              | refine s1 rfl (lop_pick_f (v := .bool _) rfl rfl rfl) ?_
              | refine s1 rfl (lop_pick rfl rfl rfl) ?_
            refine ops_nil ?_
            first
              | refine ok_if _ rfl rfl (fun h_t36 => ?_) (fun h_t36 => ?_)
              | refine ok_cond rfl rfl (fun h_t36 => ?_) (fun h_t36 => ?_)
            · refine ok_reg ?_
              first
                | refine s1 rfl (lop_assign (v := .sl _ _) rfl) ?_
                | refine s1 rfl (lop_assign (v := .os _ _ _ _) rfl) ?_
                | refine s1 rfl (lop_assign (v := .z0) rfl) ?_
              refine s1 rfl (lop_assign (v := .int _ _) rfl) ?_
              refine ops_nil ?_
              refine ok_ret ?_
              exact ret_gen (R := []) ⟨_, _, rfl, ⟨rfl, rfl⟩, _, _, rfl, ⟨rfl, rfl⟩, rfl⟩ (by rw [show spreadF vol r many nodes live = ([], 1) by unfold spreadF; rw [if_neg (by first | omega | (simp at *; omega))]]; exact .tup (.cons .z (.cons (.tf rfl) .nil))) (fun t h => by cases h)
            · refine ok_skip ?_
              refine ok_reg ?_
              refine s1 rfl (lop_move (v := .int _ _) rfl) ?_
              refine s1 rfl (lop_move (v := .int _ _) rfl) ?_
              first
                | refine s1 rfl (lop_move (v := .sl _ _) rfl) ?_
                | refine s1 rfl (lop_move (v := .os _ _ _ _) rfl) ?_
                | refine s1 rfl (lop_move (v := .z0) rfl) ?_
              refine s1 rfl (lop_call rfl Try.call58 (FrzL.tf rfl) (.inl rfl) (ref11_Ring_ac vol nodes hl (by omega) (by omega) (by omega))) ?_
              first
                | refine s1 rfl (lop_assign (v := .sl _ _) rfl) ?_
                | refine s1 rfl (lop_assign (v := .os _ _ _ _) rfl) ?_
                | refine s1 rfl (lop_assign (v := .z0) rfl) ?_
              refine ops_nil ?_
              refine ok_seq ?_
              refine ok_reg ?_
              first
                | refine s1 rfl (lop_move (v := .sl _ _) rfl) ?_
                | refine s1 rfl (lop_move (v := .os _ _ _ _) rfl) ?_
                | refine s1 rfl (lop_move (v := .z0) rfl) ?_
              refine s1 rfl (lop_len rfl Try.underlying74 ⟨⟨_, rfl⟩, rfl⟩) ?_
              refine s1 rfl (lop_move (v := .int _ _) rfl) ?_
              refine s1 rfl (lop_lss rfl rfl) ?_
              refine ops_nil ?_
              first
                | refine ok_if _ rfl rfl (fun h_t44 => ?_) (fun h_t44 => ?_)
                | refine ok_cond rfl rfl (fun h_t44 => ?_) (fun h_t44 => ?_)
              · refine ok_reg ?_
                first
                  | refine s1 rfl (lop_assign (v := .sl _ _) rfl) ?_
                  | refine s1 rfl (lop_assign (v := .os _ _ _ _) rfl) ?_
                  | refine s1 rfl (lop_assign (v := .z0) rfl) ?_
                refine s1 rfl (lop_assign (v := .int _ _) rfl) ?_
                refine ops_nil ?_
                refine ok_ret ?_
                exact ret_gen (R := []) ⟨_, _, rfl, ⟨rfl, rfl⟩, _, _, rfl, ⟨rfl, rfl⟩, rfl⟩ (by rw [show spreadF vol r many nodes live = ([], 10) by unfold spreadF; rw [if_pos (by omega), if_pos (by omega)]]; exact .tup (.cons .z (.cons (.tf rfl) .nil))) (fun t h => by cases h)
              · refine ok_skip ?_
                refine ok_reg ?_
                first
                  | refine s1 rfl (lop_assign (v := .sl _ _) rfl) ?_
                  | refine s1 rfl (lop_assign (v := .os _ _ _ _) rfl) ?_
                  | refine s1 rfl (lop_assign (v := .z0) rfl) ?_
                refine ops_nil ?_
                refine ok_seq ?_
                refine ok_reg ?_
                refine s1 rfl (lop_assign (v := .int _ _) rfl) ?_
                refine ops_nil ?_
                refine ok_block ?_
                refine ok_loop (ι := {i : Nat // i ≤ many.toNat}) (fun i => ⟨[(1, i64 r), (2, i64 many), (12, rowOf intEnc (ringF vol nodes live)), (13, .os 100 0 2 i.1), (14, i64 i.1)], [(100, some (true, (((ringF vol nodes live).take i.1).map (fun n => (⟨r, n⟩ : PlD))).flatMap PlD.enc))], 60⟩) (fun i => many.toNat - i.1) (⟨0, Nat.zero_le _⟩) ?_ ?_
                · exact le_ren [(100, none)] ⟨rfl, rfl, rfl, rfl, rfl, trivial⟩ rfl ⟨⟨rfl, rfl⟩, trivial⟩ rfl rfl rfl
                rintro ⟨i, hi⟩
                dsimp only
                have hlen2 : ((ringF vol nodes live).take i).length = i := by rw [List.length_take]; omega
                refine ok_seq ?_
                refine ok_reg ?_
                refine s1 rfl (lop_move (v := .int _ _) rfl) ?_
                refine s1 rfl (lop_move (v := .int _ _) rfl) ?_
                refine s1 rfl (lop_lss rfl rfl) ?_
                refine ops_nil ?_
                first
                  | refine ok_if _ rfl rfl (fun h_t47 => ?_) (fun h_t47 => ?_)
                  | refine ok_cond rfl rfl (fun h_t47 => ?_) (fun h_t47 => ?_)
                · have hri : i < (ringF vol nodes live).length := by omega
                  refine ok_skip ?_
                  refine ok_seq ?_
                  refine ok_block ?_
                  refine ok_region ?_
                  first
                    | refine s1 rfl (lop_move (v := .sl _ _) rfl) ?_
                    | refine s1 rfl (lop_move (v := .os _ _ _ _) rfl) ?_
                    | refine s1 rfl (lop_move (v := .z0) rfl) ?_
                  refine s1 rfl (lop_move (v := .int _ _) rfl) ?_
                  first
                    | refine s1 rfl (lop_move (v := .sl _ _) rfl) ?_
                    | refine s1 rfl (lop_move (v := .os _ _ _ _) rfl) ?_
                    | refine s1 rfl (lop_move (v := .z0) rfl) ?_
                  refine s1 rfl (lop_move (v := .int _ _) rfl) ?_
                  first
                    | refine s1 rfl (lop_indexAddr_os rfl rfl Try.underlying74 Try.sizeOf3 rfl hri) ?_
                    | refine s1 rfl (lop_indexAddr_sl rfl rfl Try.underlying74 Try.sizeOf3 rfl hri (flat_at intEnc_len hri) (flat_ne intEnc_len (by decide) hri)) ?_
                  refine s1 rfl (lop_load_fp (v := i64 (ringF vol nodes live)[i]) rfl Try.isAgg3 rfl) ?_
                  refine s1 rfl (lop_buildK (cs := [.int _ _, .int _ _]) Try.underlying41 Try.zeroValue41 rfl rfl places41 rfl) ?_
                  first
                    | refine s1w rfl (lop_buildSlice (t := 57) (cs := [.int _ _, .int _ _]) (f := true) Try.underlying30 Try.sizeOf41 (by decide) Try.zeroValue41 rfl rfl rfl (by decide) rfl (.inr (by decide)) rfl (fun h => by cases h)) rfl ?_
                    | refine s1w rfl (lop_buildSlice (t := 57) (cs := [.int _ _, .int _ _]) (f := false) Try.underlying30 Try.sizeOf41 (by decide) Try.zeroValue41 rfl rfl rfl (by decide) rfl (.inr (by decide)) rfl (fun _ => rfl)) rfl ?_
                  first
                    | refine s2w rfl (lop_append_os (t' := 58) rfl rfl rfl (by rw [flat_length PlD.len, List.length_map, hlen2]) (.os Try.underlying30 (List.mem_singleton.2 rfl) rfl (Nat.le_of_ble_eq_true rfl) rfl) Try.underlying30 info41 rfl (by omega) (by omega)) rfl ?_
                    | refine s1w rfl (lop_append_z0 (t' := 58) rfl rfl (.os Try.underlying30 (List.mem_singleton.2 rfl) rfl (Nat.le_of_ble_eq_true rfl) rfl) Try.underlying30 info41 rfl (by omega) (by omega)) rfl ?_
                    | refine s2w rfl (lop_append_os (t' := 58) (R := []) rfl rfl rfl (by rw [flat_length PlD.len, List.length_map, hlen2]) (.sl Try.underlying30 rfl) Try.underlying30 info41 rfl (by omega) (by omega)) rfl ?_
                    | refine s1w rfl (lop_append_z0 (t' := 58) (R := []) rfl rfl (.sl Try.underlying30 rfl) Try.underlying30 info41 rfl (by omega) (by omega)) rfl ?_
                    | refine s2w rfl (lop_append_os (t' := 58) (R := []) rfl rfl rfl (by rw [flat_length PlD.len, List.length_map, hlen2]) (.z0 Try.underlying30) Try.underlying30 info41 rfl (by omega) (by omega)) rfl ?_
                    | refine s1w rfl (lop_append_z0 (t' := 58) (R := []) rfl rfl (.z0 Try.underlying30) Try.underlying30 info41 rfl (by omega) (by omega)) rfl ?_
                  first
                    | refine s1 rfl (lop_assign (v := .sl _ _) rfl) ?_
                    | refine s1 rfl (lop_assign (v := .os _ _ _ _) rfl) ?_
                    | refine s1 rfl (lop_assign (v := .z0) rfl) ?_
                  refine ops_nil ?_
                  refine ok_region ?_
                  refine s1 rfl (lop_move (v := .int _ _) rfl) ?_
                  refine s1 rfl (lop_bop rfl rfl rfl (bop_add (by omega) (by omega))) ?_
                  refine s1 rfl (lop_assign (v := .int _ _) rfl) ?_
                  refine ops_nil ?_
                  have e1 : (ringF vol nodes live).take (i + 1) = (ringF vol nodes live).take i ++ [(ringF vol nodes live)[i]] := by rw [List.take_add_one, List.getElem?_eq_getElem hri]; rfl
                  exact ⟨⟨i + 1, by omega⟩, by simp only; omega, le_ren [(100, some 58)] ⟨rfl, rfl, rfl, rfl, rfl, trivial⟩ rfl ⟨⟨_, rfl, by show _ = List.flatMap _ _; rw [e1, List.map_append, List.flatMap_append]; rfl⟩, trivial⟩ rfl rfl rfl⟩
                · refine ok_exit ?_
                  refine ok_reg ?_
                  first
                    | refine s1 rfl (lop_move (v := .sl _ _) rfl) ?_
                    | refine s1 rfl (lop_move (v := .os _ _ _ _) rfl) ?_
                    | refine s1 rfl (lop_move (v := .z0) rfl) ?_
                  first
                    | refine s1 rfl (lop_assign (v := .sl _ _) rfl) ?_
                    | refine s1 rfl (lop_assign (v := .os _ _ _ _) rfl) ?_
                    | refine s1 rfl (lop_assign (v := .z0) rfl) ?_
                  refine s1 rfl (lop_assign (v := .int _ _) rfl) ?_
                  refine ops_nil ?_
                  refine ok_ret ?_
                  have e9 : i = many.toNat := by omega
                  subst e9
                  have e8 : spreadF vol r many nodes live = (((ringF vol nodes live).take many.toNat).map (fun n => ⟨r, n⟩), 0) := by unfold spreadF; rw [if_pos (by omega), if_neg (by omega)]
                  rw [e8]
                  exact ret_gen (R := [100]) ⟨_, _, rfl, ⟨rfl, rfl⟩, _, _, rfl, ⟨rfl, rfl⟩, rfl⟩ (.tup (.cons (by unfold rowOf; rw [List.length_map, hlen2]; exact .osf (List.mem_singleton.2 rfl) rfl (by rw [flat_length PlD.len, List.length_map, hlen2]; omega) (by rw [List.drop_zero, List.take_of_length_le (by rw [flat_length PlD.len, List.length_map, hlen2]; omega)])) (.cons (.tf rfl) .nil))) (fun t ht => by simp at ht; subst ht; exact Option.some_ne_none _)

def anyN (l : List PlD) (x : Int) (k : Nat) : Bool := (l.take k).any (fun p => decide (p.n = x))
theorem anyN_succ {l : List PlD} {x : Int} {k : Nat} (h : k < l.length) : anyN l x (k + 1) = (anyN l x k || decide (l[k].n = x)) := by
  unfold anyN
  rw [List.take_add_one, List.getElem?_eq_getElem h, List.any_append]
  simp
theorem contB_anyN {l : List PlD} (h0 : 0 < l.length) (hall : ∀ j, (h : j < l.length) → l[j].r = l[0].r) (x : Int) : contB l x = anyN l x l.length := by
  unfold contB anyN
  rw [List.take_length, getD_at _ h0, ← any_contB]
  rw [Bool.eq_iff_iff, List.any_eq_true, List.any_eq_true]
  constructor
  · rintro ⟨p, hp, h⟩
    simp only [decide_eq_true_eq] at h
    exact ⟨p, hp, by rw [h]; simp⟩
  · rintro ⟨p, hp, h⟩
    simp only [decide_eq_true_eq] at h
    refine ⟨p, hp, ?_⟩
    obtain ⟨j, hj, rfl⟩ := List.getElem_of_mem hp
    have := hall j hj
    simp only [decide_eq_true_eq]
    exact (PlD.eq_iff _ _).1 ⟨this, h⟩
theorem idxOf_ge {α : Type} {p : α → Bool} {l : List α} {i : Nat} (h : i < l.length) (hp : p l[i] = true) : 0 ≤ idxOf p l := by
  rcases idxOf_cases p l with ⟨_, h2⟩ | ⟨j, _, h2, _⟩
  · have := h2 _ (List.getElem_mem h)
    rw [hp] at this; cases this
  · omega
theorem idxOf_lt {α : Type} {p : α → Bool} {l : List α} (h : ∀ j, (h : j < l.length) → p l[j] = false) : idxOf p l < 0 := by
  rw [← idxOf_no h]; decide
theorem same_step {l : List PlD} {i : Nat} (h0 : 0 < l.length) (hn : ∀ j, (h : j < l.length) → j < i → l[j].r = l[0].r) (hi : i < l.length) (h : l[i].r = l[0].r) : ∀ j, (h : j < l.length) → j < i + 1 → l[j].r = l[0].r := by
  intro j hj hlt
  rcases Nat.lt_or_ge j i with h1 | h1
  · exact hn j hj h1
  · have : j = i := by omega
    subst this; exact h
theorem nextF_at {l : List PlD} {nodes : Int} {live : List Bool} (hl0 : 0 < l.length) (hn1 : 1 ≤ nodes) (hn2 : nodes ≤ 64) (hany : idxOf (fun p : PlD => decide (p.r ≠ l[0].r)) l < 0) {fr : Int}
    (hfr : (if l[l.length - 1].n.tmod nodes < 0 then 0 else l[l.length - 1].n.tmod nodes) = fr) {i : Nat} (hi : i < (ringF fr nodes live).length) (hn : ∀ j, (h : j < (ringF fr nodes live).length) → j < i → contB l (ringF fr nodes live)[j] = true) (hx : contB l (ringF fr nodes live)[i] = false) :
    nextF l nodes live = (⟨l[0].r, (ringF fr nodes live)[i]⟩, 0) := by
  refine nextF_some hl0 hn1 hn2 hany hfr (pre := (ringF fr nodes live).take i) ?_ ?_ hx
  · have e : (ringF fr nodes live).take (i + 1) = (ringF fr nodes live).take i ++ [(ringF fr nodes live)[i]] := by rw [List.take_add_one, List.getElem?_eq_getElem hi]; rfl
    rw [← e]
    exact List.take_prefix _ _
  · intro x hx
    obtain ⟨j, hj, rfl⟩ := List.getElem_of_mem hx
    rw [List.length_take] at hj
    rw [List.getElem_take]
    exact hn j (by omega) (by omega)

theorem ref11_Next_ac {l : List PlD} {nodes : Int} {live : List Bool} (hl : l.length ≤ 1048577) (hp : ∀ p ∈ l, R64 p.n) (hll : live.length ≤ 1048576) : AC Try.prog 34 [rowOf PlD.enc l, i64 nodes, rowOf boolEnc live] (.tup [.agg (nextF l nodes live).1.enc, i64 (nextF l nodes live).2]) := by
  refine AC.intro Try.func34 rfl (Nat.le_of_ble_eq_true rfl) ?_
  refine ok_reg ?_
  refine s1w rfl (lop_new (t := 6) (cs := [.int _ _, .int _ _]) Try.zeroValue41 rfl rfl rfl rfl) rfl ?_
  refine s1 rfl (lop_assign (v := .int _ _) rfl) ?_
  refine ops_nil ?_
  refine ok_seq ?_
  refine ok_reg ?_
  first
    | refine s1 rfl (lop_move (v := .sl _ _) rfl) ?_
    | refine s1 rfl (lop_move (v := .os _ _ _ _) rfl) ?_
    | refine s1 rfl (lop_move (v := .z0) rfl) ?_
  refine s1 rfl (lop_len rfl Try.underlying30 ⟨⟨_, rfl⟩, rfl⟩) ?_
  refine s1 rfl (lop_eql rfl rfl) ?_
  refine s1 rfl (lop_move (v := .bool _) rfl) ?_
  first
    | refine gsplitP 3 rfl rfl (fun g1_3 p1_3 => ?_) (fun g1_3 p1_3 => ?_)
    | refine gsplitB 3 rfl rfl (fun g1_3 p1_3 => ?_) (fun g1_3 p1_3 => ?_)
  · refine n1 rfl rfl g1_3 ?_
    refine n1 rfl rfl g1_3 ?_
    first
      | refine s1 rfl (lop_pick_t (v := .bool _) rfl g1_3 rfl) ?_
      | refine s1 rfl (lop_pick_t (v := .bool _) rfl rfl rfl) ?_
      | refine s1 rfl (lop_pick_f (v := .bool _) rfl rfl rfl) ?_
      | refine s1 rfl (lop_pick rfl rfl rfl) ?_
    refine s1 rfl (lop_move (v := .bool _) rfl) ?_
    refine n1 rfl rfl rfl ?_
    refine n1 rfl rfl rfl ?_
    first
      | refine s1 rfl (lop_pick_t (v := .bool _) rfl g1_3 rfl) ?_
      | refine s1 rfl (lop_pick_t (v := .bool _) rfl rfl rfl) ?_
      | refine s1 rfl (lop_pick_t (v := .bool _) rfl rfl rfl) ?_
      | refine s1 rfl (lop_pick_f (v := .bool _) rfl rfl rfl) ?_
      | refine s1 rfl (lop_pick rfl rfl rfl) ?_
    refine ops_nil ?_
    refine ok_true rfl rfl ?_
    refine ok_reg ?_
    refine s1 rfl (lop_buildK (cs := [.int _ _, .int _ _]) Try.underlying41 Try.zeroValue41 rfl rfl places41 rfl) ?_
    first
      | refine s0w rfl (lop_storeK (v := .agg [.int _ _, .int _ _]) (cs' := [.int _ _, .int _ _]) (f' := true) rfl rfl rfl Try.sizeOf41 rfl rfl rfl rfl rfl) ?_
      | refine s0w rfl (lop_storeK (v := .agg [.int _ _, .int _ _]) (cs' := [.int _ _, .int _ _]) (f' := false) rfl rfl rfl Try.sizeOf41 rfl rfl rfl rfl rfl) ?_
    refine s1 rfl (lop_assign (v := .int _ _) rfl) ?_
    refine ops_nil ?_
    refine ok_ret ?_
    rw [nextF_early (.inl (List.eq_nil_of_length_eq_zero (by omega)))]
    exact ret_gen (R := [6]) ⟨_, _, rfl, ⟨rfl, 6, 0, _, _, rfl, rfl, .inl ⟨2, Try.isAgg41, Try.sizeOf41, Nat.le_of_ble_eq_true rfl, rfl⟩⟩, _, _, rfl, ⟨rfl, rfl⟩, rfl⟩ (.tup (.cons (.agg (FrzL.tf rfl)) (.cons (.tf rfl) .nil))) (fun t ht => by simp at ht; subst ht; exact Option.some_ne_none _)
  · refine y1 rfl rfl g1_3 rfl (lop_move (v := .int _ _) rfl) ?_
    refine y1 rfl rfl g1_3 rfl (lop_lss rfl rfl) ?_
    first
      | refine s1 rfl (lop_pick_f (v := .bool _) rfl g1_3 rfl) ?_
      | refine s1 rfl (lop_pick_t (v := .bool _) rfl rfl rfl) ?_
      | refine s1 rfl (lop_pick_f (v := .bool _) rfl rfl rfl) ?_
      | refine s1 rfl (lop_pick rfl rfl rfl) ?_
    refine s1 rfl (lop_move (v := .bool _) rfl) ?_
    first
      | refine gsplitP 7 rfl rfl (fun g1_7 p1_7 => ?_) (fun g1_7 p1_7 => ?_)
      | refine gsplitB 7 rfl rfl (fun g1_7 p1_7 => ?_) (fun g1_7 p1_7 => ?_)
    · refine n1 rfl rfl g1_7 ?_
      refine n1 rfl rfl g1_7 ?_
      first
        | refine s1 rfl (lop_pick_f (v := .bool _) rfl g1_3 rfl) ?_
        | refine s1 rfl (lop_pick_t (v := .bool _) rfl g1_7 rfl) ?_
        | refine s1 rfl (lop_pick_t (v := .bool _) rfl rfl rfl) ?_
        | refine s1 rfl (lop_pick_f (v := .bool _) rfl rfl rfl) ?_
        | refine s1 rfl (lop_pick rfl rfl rfl) ?_
      refine ops_nil ?_
      refine ok_true rfl rfl ?_
      refine ok_reg ?_
      refine s1 rfl (lop_buildK (cs := [.int _ _, .int _ _]) Try.underlying41 Try.zeroValue41 rfl rfl places41 rfl) ?_
      first
        | refine s0w rfl (lop_storeK (v := .agg [.int _ _, .int _ _]) (cs' := [.int _ _, .int _ _]) (f' := true) rfl rfl rfl Try.sizeOf41 rfl rfl rfl rfl rfl) ?_
        | refine s0w rfl (lop_storeK (v := .agg [.int _ _, .int _ _]) (cs' := [.int _ _, .int _ _]) (f' := false) rfl rfl rfl Try.sizeOf41 rfl rfl rfl rfl rfl) ?_
      refine s1 rfl (lop_assign (v := .int _ _) rfl) ?_
      refine ops_nil ?_
      refine ok_ret ?_
      rw [nextF_early (.inr (.inl (by omega)))]
      exact ret_gen (R := [6]) ⟨_, _, rfl, ⟨rfl, 6, 0, _, _, rfl, rfl, .inl ⟨2, Try.isAgg41, Try.sizeOf41, Nat.le_of_ble_eq_true rfl, rfl⟩⟩, _, _, rfl, ⟨rfl, rfl⟩, rfl⟩ (.tup (.cons (.agg (FrzL.tf rfl)) (.cons (.tf rfl) .nil))) (fun t ht => by simp at ht; subst ht; exact Option.some_ne_none _)
    · refine y1 rfl rfl g1_7 rfl (lop_move (v := .int _ _) rfl) ?_
      refine y1 rfl rfl g1_7 rfl (lop_gtr rfl rfl) ?_
      first
        | refine s1 rfl (lop_pick_f (v := .bool _) rfl g1_3 rfl) ?_
        | refine s1 rfl (lop_pick_f (v := .bool _) rfl g1_7 rfl) ?_
        | refine s1 rfl (lop_pick_t (v := .bool _) rfl rfl rfl) ?_
        | refine s1 rfl (lop_pick_f (v := .bool _) rfl rfl rfl) ?_
        | refine s1 rfl (lop_pick rfl rfl rfl) ?_
      refine ops_nil ?_
      first
        | refine ok_if _ rfl rfl (fun h_t24 => ?_) (fun h_t24 => ?_)
        | refine ok_cond rfl rfl (fun h_t24 => ?_) (fun h_t24 => ?_)
      · refine ok_reg ?_
        refine s1 rfl (lop_buildK (cs := [.int _ _, .int _ _]) Try.underlying41 Try.zeroValue41 rfl rfl places41 rfl) ?_
        first
          | refine s0w rfl (lop_storeK (v := .agg [.int _ _, .int _ _]) (cs' := [.int _ _, .int _ _]) (f' := true) rfl rfl rfl Try.sizeOf41 rfl rfl rfl rfl rfl) ?_
          | refine s0w rfl (lop_storeK (v := .agg [.int _ _, .int _ _]) (cs' := [.int _ _, .int _ _]) (f' := false) rfl rfl rfl Try.sizeOf41 rfl rfl rfl rfl rfl) ?_
        refine s1 rfl (lop_assign (v := .int _ _) rfl) ?_
        refine ops_nil ?_
        refine ok_ret ?_
        rw [nextF_early (.inr (.inl (by simp at *; omega)))]
        exact ret_gen (R := [6]) ⟨_, _, rfl, ⟨rfl, 6, 0, _, _, rfl, rfl, .inl ⟨2, Try.isAgg41, Try.sizeOf41, Nat.le_of_ble_eq_true rfl, rfl⟩⟩, _, _, rfl, ⟨rfl, rfl⟩, rfl⟩ (.tup (.cons (.agg (FrzL.tf rfl)) (.cons (.tf rfl) .nil))) (fun t ht => by simp at ht; subst ht; exact Option.some_ne_none _)
      · have hl0 : 0 < l.length := by omega
        have hn1 : 1 ≤ nodes := by simp at *; omega
        have hn2 : nodes ≤ 64 := by simp at *; omega
        refine ok_skip ?_
        refine ok_seq ?_
        refine ok_reg ?_
        refine s1 rfl (lop_assign (v := .int _ _) rfl) ?_
        refine ops_nil ?_
        refine ok_block ?_
        refine ok_loop (ι := {i : Nat // i ≤ l.length ∧ ∀ j, (h : j < l.length) → j < i → l[j].r = l[0].r}) (fun i => ⟨[(0, rowOf PlD.enc l), (1, i64 nodes), (2, rowOf boolEnc live), (6, .rf 6 0), (8, i64 i.1)], [(6, some (true, [i64 0, i64 0]))], 95⟩) (fun i => l.length - i.1) (⟨0, Nat.zero_le _, fun _ _ h => absurd h (Nat.not_lt_zero _)⟩) ?_ ?_
        · exact le_mk ⟨rfl, rfl, rfl, rfl, rfl, trivial⟩ ⟨.inr rfl, trivial⟩ rfl
        rintro ⟨i, hi, hn⟩
        dsimp only
        refine ok_seq ?_
        refine ok_reg ?_
        refine s1 rfl (lop_move (v := .int _ _) rfl) ?_
        first
          | refine s1 rfl (lop_move (v := .sl _ _) rfl) ?_
          | refine s1 rfl (lop_move (v := .os _ _ _ _) rfl) ?_
          | refine s1 rfl (lop_move (v := .z0) rfl) ?_
        refine s1 rfl (lop_len rfl Try.underlying30 ⟨⟨_, rfl⟩, rfl⟩) ?_
        refine s1 rfl (lop_lss rfl rfl) ?_
        refine ops_nil ?_
        first
          | refine ok_if _ rfl rfl (fun h_t29 => ?_) (fun h_t29 => ?_)
          | refine ok_cond rfl rfl (fun h_t29 => ?_) (fun h_t29 => ?_)
        · have h_t29 : i < l.length := Int.ofNat_lt.1 h_t29
          refine ok_skip ?_
          refine ok_seq ?_
          refine ok_block ?_
          refine ok_drw Try.mixed ?_
          first
            | refine d1 rfl rfl (lop_move (v := .sl _ _) rfl) ?_
            | refine d1 rfl rfl (lop_move (v := .os _ _ _ _) rfl) ?_
            | refine d1 rfl rfl (lop_move (v := .z0) rfl) ?_
          refine d1 rfl rfl (lop_move (v := .int _ _) rfl) ?_
          first
            | refine d1 rfl rfl (lop_indexAddr_os rfl rfl Try.underlying30 Try.sizeOf41 rfl h_t29) ?_
            | refine d1 rfl rfl (lop_indexAddr_sl rfl rfl Try.underlying30 Try.sizeOf41 rfl h_t29 (flat_at PlD.len h_t29) (flat_ne PlD.len (by decide) h_t29)) ?_
          first
            | refine d1 rfl rfl (lop_fieldAddr_rf (fo := 0) rfl Try.underlying41 rfl rfl Try.sizeOf3 (by decide)) ?_
            | refine d1 rfl rfl (lop_fieldAddr_fp (fo := 0) rfl Try.underlying41 rfl rfl Try.sizeOf3 (by decide) rfl) ?_
          first
            | refine d1 rfl rfl (lop_load_rf rfl rfl Try.isAgg3 rfl) ?_
            | refine d1 rfl rfl (lop_load_fp rfl Try.isAgg3 rfl) ?_
          first
            | refine d1 rfl rfl (lop_move (v := .sl _ _) rfl) ?_
            | refine d1 rfl rfl (lop_move (v := .os _ _ _ _) rfl) ?_
            | refine d1 rfl rfl (lop_move (v := .z0) rfl) ?_
          refine d1 rfl rfl (lop_indexAddr_sl (i := 0) rfl rfl Try.underlying30 Try.sizeOf41 rfl hl0 (flat_at PlD.len hl0) (flat_ne PlD.len (by decide) hl0)) ?_
          first
            | refine d1 rfl rfl (lop_fieldAddr_rf (fo := 0) rfl Try.underlying41 rfl rfl Try.sizeOf3 (by decide)) ?_
            | refine d1 rfl rfl (lop_fieldAddr_fp (fo := 0) rfl Try.underlying41 rfl rfl Try.sizeOf3 (by decide) rfl) ?_
          first
            | refine d1 rfl rfl (lop_load_rf rfl rfl Try.isAgg3 rfl) ?_
            | refine d1 rfl rfl (lop_load_fp rfl Try.isAgg3 rfl) ?_
          refine d1 rfl rfl (lop_neq rfl rfl) ?_
          refine dr_nil (by kernel_rfl) ?_
          first
            | refine ok_if _ rfl rfl (fun h_t41 => ?_) (fun h_t41 => ?_)
            | refine ok_cond rfl rfl (fun h_t41 => ?_) (fun h_t41 => ?_)
          · refine ok_reg ?_
            refine s1 rfl (lop_buildK (cs := [.int _ _, .int _ _]) Try.underlying41 Try.zeroValue41 rfl rfl places41 rfl) ?_
            first
              | refine s0w rfl (lop_storeK (v := .agg [.int _ _, .int _ _]) (cs' := [.int _ _, .int _ _]) (f' := true) rfl rfl rfl Try.sizeOf41 rfl rfl rfl rfl rfl) ?_
              | refine s0w rfl (lop_storeK (v := .agg [.int _ _, .int _ _]) (cs' := [.int _ _, .int _ _]) (f' := false) rfl rfl rfl Try.sizeOf41 rfl rfl rfl rfl rfl) ?_
            refine s1 rfl (lop_assign (v := .int _ _) rfl) ?_
            refine ops_nil ?_
            refine ok_ret ?_
            rw [nextF_early (.inr (.inr ⟨hl0, idxOf_ge h_t29 (by simpa using h_t41)⟩))]
            exact ret_gen (R := [6]) ⟨_, _, rfl, ⟨rfl, 6, 0, _, _, rfl, rfl, .inl ⟨2, Try.isAgg41, Try.sizeOf41, Nat.le_of_ble_eq_true rfl, rfl⟩⟩, _, _, rfl, ⟨rfl, rfl⟩, rfl⟩ (.tup (.cons (.agg (FrzL.tf rfl)) (.cons (.tf rfl) .nil))) (fun t ht => by simp at ht; subst ht; exact Option.some_ne_none _)
          · refine ok_skip ?_
            refine ok_region ?_
            refine s1 rfl (lop_move (v := .int _ _) rfl) ?_
            refine s1 rfl (lop_bop rfl rfl rfl (bop_add (by omega) (by omega))) ?_
            refine s1 rfl (lop_assign (v := .int _ _) rfl) ?_
            refine ops_nil ?_
            exact ⟨⟨i + 1, by omega, same_step hl0 hn h_t29 (by simpa using h_t41)⟩, by simp only; omega, le_mk ⟨rfl, rfl, rfl, rfl, rfl, trivial⟩ ⟨.inr rfl, trivial⟩ rfl⟩
        · have hall : ∀ j, (h : j < l.length) → l[j].r = l[0].r := fun j hj => hn j hj (by omega)
          have hany : idxOf (fun p : PlD => decide (p.r ≠ l[0].r)) l < 0 := idxOf_lt (fun j hj => by simp [hall j hj])
          have hzr : R64 l[l.length - 1].n := hp _ (List.getElem_mem _)
          refine ok_exit ?_
          refine ok_reg ?_
          first
            | refine s1 rfl (lop_move (v := .sl _ _) rfl) ?_
            | refine s1 rfl (lop_move (v := .os _ _ _ _) rfl) ?_
            | refine s1 rfl (lop_move (v := .z0) rfl) ?_
          first
            | refine s1 rfl (lop_move (v := .sl _ _) rfl) ?_
            | refine s1 rfl (lop_move (v := .os _ _ _ _) rfl) ?_
            | refine s1 rfl (lop_move (v := .z0) rfl) ?_
          refine s1 rfl (lop_len rfl Try.underlying30 ⟨⟨_, rfl⟩, rfl⟩) ?_
          refine s1 rfl (lop_bop rfl rfl rfl (bop_sub (by omega) (by omega))) ?_
          refine s1 rfl (lop_indexAddr_sl (i := l.length - 1) rfl rfl Try.underlying30 Try.sizeOf41 (by omega) (show l.length - 1 < l.length by omega) (flat_at PlD.len (show l.length - 1 < l.length by omega)) (flat_ne PlD.len (by decide) hl0)) ?_
          first
            | refine s1 rfl (lop_fieldAddr_rf (fo := 1) rfl Try.underlying41 rfl rfl Try.sizeOf3 (by decide)) ?_
            | refine s1 rfl (lop_fieldAddr_fp (fo := 1) rfl Try.underlying41 rfl rfl Try.sizeOf3 (by decide) rfl) ?_
          first
            | refine s1 rfl (lop_load_rf rfl rfl Try.isAgg3 rfl) ?_
            | refine s1 rfl (lop_load_fp rfl Try.isAgg3 rfl) ?_
          refine s1 rfl (lop_move (v := .int _ _) rfl) ?_
          refine s1 rfl (lop_rem rfl rfl (by omega) rfl) ?_
          refine s1 rfl (lop_assign (v := .int _ _) rfl) ?_
          refine ops_nil ?_
          refine ok_seq_cut (ι := {fr : Int // (if l[l.length - 1].n.tmod nodes < 0 then 0 else l[l.length - 1].n.tmod nodes) = fr ∧ 0 ≤ fr}) (fun fr => ⟨[(0, rowOf PlD.enc l), (1, i64 nodes), (2, rowOf boolEnc live), (6, .rf 6 0), (9, i64 fr.1)], [(6, some (true, [i64 0, i64 0]))], 95⟩) ?_ ?_
          · refine ok_reg ?_
            refine s1 rfl (lop_move (v := .int _ _) rfl) ?_
            refine s1 rfl (lop_lss rfl rfl) ?_
            refine ops_nil ?_
            first
              | refine ok_if _ rfl rfl (fun h_t53 => ?_) (fun h_t53 => ?_)
              | refine ok_cond rfl rfl (fun h_t53 => ?_) (fun h_t53 => ?_)
            · refine ok_region ?_
              refine s1 rfl (lop_assign (v := .int _ _) rfl) ?_
              refine ops_nil ?_
              exact ⟨⟨0, if_pos h_t53, Int.le_refl _⟩, le_mk ⟨rfl, rfl, rfl, rfl, rfl, trivial⟩ ⟨.inr rfl, trivial⟩ rfl⟩
            · refine ok_skip ?_
              exact ⟨⟨_, if_neg h_t53, by omega⟩, le_mk ⟨rfl, rfl, rfl, rfl, rfl, trivial⟩ ⟨.inr rfl, trivial⟩ rfl⟩
          · rintro ⟨fr, hfr, hfr0⟩
            dsimp only
            have hrl := ringF_le fr nodes live
            refine ok_reg ?_
            refine s1 rfl (lop_move (v := .int _ _) rfl) ?_
            refine s1 rfl (lop_move (v := .int _ _) rfl) ?_
            first
              | refine s1 rfl (lop_move (v := .sl _ _) rfl) ?_
              | refine s1 rfl (lop_move (v := .os _ _ _ _) rfl) ?_
              | refine s1 rfl (lop_move (v := .z0) rfl) ?_
            refine s1 rfl (lop_call rfl Try.call58 (FrzL.tf rfl) (.inl rfl) (ref11_Ring_ac fr nodes hll hfr0 hn1 hn2)) ?_
            first
              | refine s1 rfl (lop_assign (v := .sl _ _) rfl) ?_
              | refine s1 rfl (lop_assign (v := .os _ _ _ _) rfl) ?_
              | refine s1 rfl (lop_assign (v := .z0) rfl) ?_
            refine ops_nil ?_
            refine ok_seq ?_
            refine ok_reg ?_
            refine s1 rfl (lop_assign (v := .int _ _) rfl) ?_
            refine ops_nil ?_
            refine ok_block ?_
            refine ok_loop (ι := {i : Nat // i ≤ (ringF fr nodes live).length ∧ ∀ j, (h : j < (ringF fr nodes live).length) → j < i → contB l (ringF fr nodes live)[j] = true}) (fun i => ⟨[(0, rowOf PlD.enc l), (6, .rf 6 0), (10, rowOf intEnc (ringF fr nodes live)), (11, i64 i.1)], [(6, some (true, [i64 0, i64 0]))], 95⟩) (fun i => (ringF fr nodes live).length - i.1) (⟨0, Nat.zero_le _, fun _ _ h => absurd h (Nat.not_lt_zero _)⟩) ?_ ?_
            · exact le_mk ⟨rfl, rfl, rfl, rfl, trivial⟩ ⟨.inr rfl, trivial⟩ rfl
            rintro ⟨m, hm, hmn⟩
            dsimp only
            refine ok_seq ?_
            refine ok_reg ?_
            refine s1 rfl (lop_move (v := .int _ _) rfl) ?_
            first
              | refine s1 rfl (lop_move (v := .sl _ _) rfl) ?_
              | refine s1 rfl (lop_move (v := .os _ _ _ _) rfl) ?_
              | refine s1 rfl (lop_move (v := .z0) rfl) ?_
            refine s1 rfl (lop_len rfl Try.underlying74 ⟨⟨_, rfl⟩, rfl⟩) ?_
            refine s1 rfl (lop_lss rfl rfl) ?_
            refine ops_nil ?_
            first
              | refine ok_if _ rfl rfl (fun h_t61 => ?_) (fun h_t61 => ?_)
              | refine ok_cond rfl rfl (fun h_t61 => ?_) (fun h_t61 => ?_)
            · have h_t61 : m < (ringF fr nodes live).length := Int.ofNat_lt.1 h_t61
              refine ok_skip ?_
              refine ok_seq ?_
              refine ok_block ?_
              refine ok_reg ?_
              refine s1 rfl (lop_assign (v := .bool _) rfl) ?_
              refine ops_nil ?_
              refine ok_seq ?_
              refine ok_reg ?_
              refine s1 rfl (lop_assign (v := .int _ _) rfl) ?_
              refine ops_nil ?_
              refine ok_block ?_
              refine ok_loop (ι := {k : Nat // k ≤ l.length}) (fun k => ⟨[(0, rowOf PlD.enc l), (6, .rf 6 0), (10, rowOf intEnc (ringF fr nodes live)), (11, i64 m), (12, .bool (anyN l (ringF fr nodes live)[m] k.1)), (13, i64 k.1)], [(6, some (true, [i64 0, i64 0]))], 95⟩) (fun k => l.length - k.1) (⟨0, Nat.zero_le _⟩) ?_ ?_
              · exact le_mk ⟨rfl, rfl, rfl, rfl, rfl, rfl, trivial⟩ ⟨.inr rfl, trivial⟩ rfl
              rintro ⟨k, hk⟩
              dsimp only
              refine ok_seq ?_
              refine ok_reg ?_
              refine s1 rfl (lop_move (v := .int _ _) rfl) ?_
              first
                | refine s1 rfl (lop_move (v := .sl _ _) rfl) ?_
                | refine s1 rfl (lop_move (v := .os _ _ _ _) rfl) ?_
                | refine s1 rfl (lop_move (v := .z0) rfl) ?_
              refine s1 rfl (lop_len rfl Try.underlying30 ⟨⟨_, rfl⟩, rfl⟩) ?_
              refine s1 rfl (lop_lss rfl rfl) ?_
              refine ops_nil ?_
              first
                | refine ok_if _ rfl rfl (fun h_t67 => ?_) (fun h_t67 => ?_)
                | refine ok_cond rfl rfl (fun h_t67 => ?_) (fun h_t67 => ?_)
              · have h_t67 : k < l.length := Int.ofNat_lt.1 h_t67
                refine ok_skip ?_
                refine ok_seq ?_
                refine ok_block ?_
                refine ok_draw Try.mixed ?_
                refine d1 rfl rfl (lop_move (v := .bool _) rfl) ?_
                refine d1 rfl rfl (lop_move (v := .bool _) rfl) ?_
                first
                  | refine dsplitP 1 rfl rfl (fun g19_1 p19_1 => ?_) (fun g19_1 p19_1 => ?_)
                  | refine dsplitB 1 rfl rfl (fun g19_1 p19_1 => ?_) (fun g19_1 p19_1 => ?_)
                · refine dn1 rfl rfl g19_1 rfl ?_
                  refine dn1 rfl rfl g19_1 rfl ?_
                  refine dn1 rfl rfl g19_1 rfl ?_
                  refine dn1 rfl rfl g19_1 rfl ?_
                  refine dn1 rfl rfl g19_1 rfl ?_
                  refine dn1 rfl rfl g19_1 rfl ?_
                  refine dn1 rfl rfl g19_1 rfl ?_
                  refine dn1 rfl rfl g19_1 rfl ?_
                  refine dn1 rfl rfl g19_1 rfl ?_
                  refine dn1 rfl rfl g19_1 rfl ?_
                  first
                    | refine d1 rfl rfl (lop_pick_t (v := .bool _) rfl g19_1 rfl) ?_
                    | refine d1 rfl rfl (lop_pick_t (v := .bool _) rfl rfl rfl) ?_
                    | refine d1 rfl rfl (lop_pick_f (v := .bool _) rfl rfl rfl) ?_
                    | refine d1 rfl rfl (lop_pick rfl rfl rfl) ?_
                  refine d1 rfl rfl (lop_assign (v := .bool _) rfl) ?_
                  refine dr_nil (by kernel_rfl) ?_
                  refine ok_region ?_
                  refine s1 rfl (lop_move (v := .int _ _) rfl) ?_
                  refine s1 rfl (lop_bop rfl rfl rfl (bop_add (by omega) (by omega))) ?_
                  refine s1 rfl (lop_assign (v := .int _ _) rfl) ?_
                  refine ops_nil ?_
                  exact ⟨⟨k + 1, by omega⟩, by simp only; omega, le_mk ⟨rfl, rfl, rfl, rfl, congrArg V.bool (by rw [anyN_succ h_t67, g19_1]; rfl), rfl, trivial⟩ ⟨.inr rfl, trivial⟩ rfl⟩
                · first
                    | refine dy1 rfl rfl g19_1 rfl rfl (lop_move (v := .sl _ _) rfl) ?_
                    | refine dy1 rfl rfl g19_1 rfl rfl (lop_move (v := .os _ _ _ _) rfl) ?_
                    | refine dy1 rfl rfl g19_1 rfl rfl (lop_move (v := .z0) rfl) ?_
                  refine dy1 rfl rfl g19_1 rfl rfl (lop_move (v := .int _ _) rfl) ?_
                  first
                    | refine dy1 rfl rfl g19_1 rfl rfl (lop_indexAddr_os rfl rfl Try.underlying30 Try.sizeOf41 rfl h_t67) ?_
                    | refine dy1 rfl rfl g19_1 rfl rfl (lop_indexAddr_sl rfl rfl Try.underlying30 Try.sizeOf41 rfl h_t67 (flat_at PlD.len h_t67) (flat_ne PlD.len (by decide) h_t67)) ?_
                  first
                    | refine dy1 rfl rfl g19_1 rfl rfl (lop_fieldAddr_rf (fo := 1) rfl Try.underlying41 rfl rfl Try.sizeOf3 (by decide)) ?_
                    | refine dy1 rfl rfl g19_1 rfl rfl (lop_fieldAddr_fp (fo := 1) rfl Try.underlying41 rfl rfl Try.sizeOf3 (by decide) rfl) ?_
                  first
                    | refine dy1 rfl rfl g19_1 rfl rfl (lop_load_rf rfl rfl Try.isAgg3 rfl) ?_
                    | refine dy1 rfl rfl g19_1 rfl rfl (lop_load_fp rfl Try.isAgg3 rfl) ?_
                  first
                    | refine dy1 rfl rfl g19_1 rfl rfl (lop_move (v := .sl _ _) rfl) ?_
                    | refine dy1 rfl rfl g19_1 rfl rfl (lop_move (v := .os _ _ _ _) rfl) ?_
                    | refine dy1 rfl rfl g19_1 rfl rfl (lop_move (v := .z0) rfl) ?_
                  refine dy1 rfl rfl g19_1 rfl rfl (lop_move (v := .int _ _) rfl) ?_
                  first
                    | refine dy1 rfl rfl g19_1 rfl rfl (lop_indexAddr_os rfl rfl Try.underlying74 Try.sizeOf3 rfl h_t61) ?_
                    | refine dy1 rfl rfl g19_1 rfl rfl (lop_indexAddr_sl rfl rfl Try.underlying74 Try.sizeOf3 rfl h_t61 (flat_at intEnc_len h_t61) (flat_ne intEnc_len (by decide) h_t61)) ?_
                  refine dy1 rfl rfl g19_1 rfl rfl (lop_load_fp (v := i64 (ringF fr nodes live)[m]) rfl Try.isAgg3 rfl) ?_
                  refine dy1 rfl rfl g19_1 rfl rfl (lop_eql rfl rfl) ?_
                  first
                    | refine d1 rfl rfl (lop_pick_f (v := .bool _) rfl g19_1 rfl) ?_
                    | refine d1 rfl rfl (lop_pick_t (v := .bool _) rfl rfl rfl) ?_
                    | refine d1 rfl rfl (lop_pick_f (v := .bool _) rfl rfl rfl) ?_
                    | refine d1 rfl rfl (lop_pick rfl rfl rfl) ?_
                  refine d1 rfl rfl (lop_assign (v := .bool _) rfl) ?_
                  refine dr_nil (by kernel_rfl) ?_
                  refine ok_region ?_
                  refine s1 rfl (lop_move (v := .int _ _) rfl) ?_
                  refine s1 rfl (lop_bop rfl rfl rfl (bop_add (by omega) (by omega))) ?_
                  refine s1 rfl (lop_assign (v := .int _ _) rfl) ?_
                  refine ops_nil ?_
                  exact ⟨⟨k + 1, by omega⟩, by simp only; omega, le_mk ⟨rfl, rfl, rfl, rfl, congrArg V.bool (by rw [anyN_succ h_t67, g19_1]; rfl), rfl, trivial⟩ ⟨.inr rfl, trivial⟩ rfl⟩
              · have hkl : k = l.length := by omega
                subst hkl
                refine ok_exit ?_
                refine ok_reg ?_
                refine s1 rfl (lop_move (v := .bool _) rfl) ?_
                refine s1 rfl (lop_not rfl) ?_
                refine ops_nil ?_
                first
                  | refine ok_if _ rfl rfl (fun h_t84 => ?_) (fun h_t84 => ?_)
                  | refine ok_cond rfl rfl (fun h_t84 => ?_) (fun h_t84 => ?_)
                · refine ok_drw Try.mixed ?_
                  first
                    | refine d1 rfl rfl (lop_move (v := .sl _ _) rfl) ?_
                    | refine d1 rfl rfl (lop_move (v := .os _ _ _ _) rfl) ?_
                    | refine d1 rfl rfl (lop_move (v := .z0) rfl) ?_
                  refine d1 rfl rfl (lop_indexAddr_sl (i := 0) rfl rfl Try.underlying30 Try.sizeOf41 rfl hl0 (flat_at PlD.len hl0) (flat_ne PlD.len (by decide) hl0)) ?_
                  first
                    | refine d1 rfl rfl (lop_fieldAddr_rf (fo := 0) rfl Try.underlying41 rfl rfl Try.sizeOf3 (by decide)) ?_
                    | refine d1 rfl rfl (lop_fieldAddr_fp (fo := 0) rfl Try.underlying41 rfl rfl Try.sizeOf3 (by decide) rfl) ?_
                  first
                    | refine d1 rfl rfl (lop_load_rf rfl rfl Try.isAgg3 rfl) ?_
                    | refine d1 rfl rfl (lop_load_fp rfl Try.isAgg3 rfl) ?_
                  first
                    | refine d1 rfl rfl (lop_move (v := .sl _ _) rfl) ?_
                    | refine d1 rfl rfl (lop_move (v := .os _ _ _ _) rfl) ?_
                    | refine d1 rfl rfl (lop_move (v := .z0) rfl) ?_
                  refine d1 rfl rfl (lop_move (v := .int _ _) rfl) ?_
                  first
                    | refine d1 rfl rfl (lop_indexAddr_os rfl rfl Try.underlying74 Try.sizeOf3 rfl h_t61) ?_
                    | refine d1 rfl rfl (lop_indexAddr_sl rfl rfl Try.underlying74 Try.sizeOf3 rfl h_t61 (flat_at intEnc_len h_t61) (flat_ne intEnc_len (by decide) h_t61)) ?_
                  refine d1 rfl rfl (lop_load_fp (v := i64 (ringF fr nodes live)[m]) rfl Try.isAgg3 rfl) ?_
                  refine d1 rfl rfl (lop_buildK (cs := [.int _ _, .int _ _]) Try.underlying41 Try.zeroValue41 rfl rfl places41 rfl) ?_
                  first
                    | refine d0w rfl rfl (lop_storeK (v := .agg [.int _ _, .int _ _]) (cs' := [.int _ _, .int _ _]) (f' := true) rfl rfl rfl Try.sizeOf41 rfl rfl rfl rfl rfl) ?_
                    | refine d0w rfl rfl (lop_storeK (v := .agg [.int _ _, .int _ _]) (cs' := [.int _ _, .int _ _]) (f' := false) rfl rfl rfl Try.sizeOf41 rfl rfl rfl rfl rfl) ?_
                  refine d1 rfl rfl (lop_assign (v := .int _ _) rfl) ?_
                  refine dr_nil (by kernel_rfl) ?_
                  refine ok_ret ?_
                  rw [nextF_at hl0 hn1 hn2 hany hfr h_t61 hmn (by rw [contB_anyN hl0 hall]; simpa using h_t84)]
                  exact ret_gen (R := [6]) ⟨_, _, rfl, ⟨rfl, 6, 0, _, _, rfl, rfl, .inl ⟨2, Try.isAgg41, Try.sizeOf41, Nat.le_of_ble_eq_true rfl, rfl⟩⟩, _, _, rfl, ⟨rfl, rfl⟩, rfl⟩ (.tup (.cons (.agg (FrzL.tf rfl)) (.cons (.tf rfl) .nil))) (fun t ht => by simp at ht; subst ht; exact Option.some_ne_none _)
                · refine ok_skip ?_
                  refine ok_region ?_
                  refine s1 rfl (lop_move (v := .int _ _) rfl) ?_
                  refine s1 rfl (lop_bop rfl rfl rfl (bop_add (by omega) (by omega))) ?_
                  refine s1 rfl (lop_assign (v := .int _ _) rfl) ?_
                  refine ops_nil ?_
                  exact ⟨⟨m + 1, by omega, fun j hj hlt => by
                    rcases Nat.lt_or_ge j m with h1 | h1
                    · exact hmn j hj h1
                    · have : j = m := by omega
                      subst this; rw [contB_anyN hl0 hall]; simpa using h_t84⟩, by simp only; omega, le_mk ⟨rfl, rfl, rfl, rfl, trivial⟩ ⟨.inr rfl, trivial⟩ rfl⟩
            · refine ok_exit ?_
              refine ok_reg ?_
              refine s1 rfl (lop_buildK (cs := [.int _ _, .int _ _]) Try.underlying41 Try.zeroValue41 rfl rfl places41 rfl) ?_
              first
                | refine s0w rfl (lop_storeK (v := .agg [.int _ _, .int _ _]) (cs' := [.int _ _, .int _ _]) (f' := true) rfl rfl rfl Try.sizeOf41 rfl rfl rfl rfl rfl) ?_
                | refine s0w rfl (lop_storeK (v := .agg [.int _ _, .int _ _]) (cs' := [.int _ _, .int _ _]) (f' := false) rfl rfl rfl Try.sizeOf41 rfl rfl rfl rfl rfl) ?_
              refine s1 rfl (lop_assign (v := .int _ _) rfl) ?_
              refine ops_nil ?_
              refine ok_ret ?_
              rw [nextF_none hl0 hn1 hn2 hany hfr (fun x hx => by obtain ⟨j, hj, rfl⟩ := List.getElem_of_mem hx; exact hmn j hj (by omega))]
              exact ret_gen (R := [6]) ⟨_, _, rfl, ⟨rfl, 6, 0, _, _, rfl, rfl, .inl ⟨2, Try.isAgg41, Try.sizeOf41, Nat.le_of_ble_eq_true rfl, rfl⟩⟩, _, _, rfl, ⟨rfl, rfl⟩, rfl⟩ (.tup (.cons (.agg (FrzL.tf rfl)) (.cons (.tf rfl) .nil))) (fun t ht => by simp at ht; subst ht; exact Option.some_ne_none _)

end Go.Proofs
