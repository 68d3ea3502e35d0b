/- Chapter 16: walks. Printed by gen.py. -/
import Derived.Test.YtikikdgfebbcmaaT16ha
import Derived.Test.YtikikdgfebbcmaaT16re
set_option linter.unusedVariables false
set_option linter.unusedSimpArgs false
set_option maxRecDepth 100000
namespace Go.Proofs
open Go.Hg

def hN (id nodes : Int) (i : Nat) : Int := (id.tmod nodes + (i : Int)).tmod nodes
theorem ringF_all {id nodes : Int} (h0 : 0 ≤ id) (h1 : 1 ≤ nodes) (h2 : nodes ≤ 64) : ringF id nodes (List.replicate (clampF nodes) true) = (List.range nodes.toNat).map (hN id nodes) := by
  unfold ringF
  rw [List.filter_eq_self.2]
  · rfl
  · intro n hn
    obtain ⟨i, hi, rfl⟩ := List.mem_map.1 hn
    have e : clampF nodes = nodes.toNat := by unfold clampF; omega
    have a1 : 0 ≤ id.tmod nodes := Int.tmod_nonneg _ h0
    have a2 : 0 ≤ (id.tmod nodes + (i : Int)).tmod nodes := Int.tmod_nonneg _ (by omega)
    have a3 := Int.tmod_lt_of_pos (id.tmod nodes + (i : Int)) (show 0 < nodes by omega)
    unfold livesB
    rw [List.length_replicate, e]
    rw [List.getD_eq_getElem?_getD, List.getElem?_replicate, if_pos (by omega)]
    simp only [Option.getD_some, Bool.and_true, decide_eq_true_eq]
    omega
theorem spreadF_all {id nodes r : Int} (hr : 1 ≤ r ∧ r ≤ 3) (h0 : 0 ≤ id) (h1 : 2 ≤ nodes) (h2 : nodes ≤ 64) : (spreadF id r 2 nodes (List.replicate (clampF nodes) true)).1 = [⟨r, hN id nodes 0⟩, ⟨r, hN id nodes 1⟩] := by
  unfold spreadF
  rw [if_pos (by omega), ringF_all h0 (by omega) h2, if_neg (by rw [List.length_map, List.length_range]; omega)]
  obtain ⟨k, hk⟩ : ∃ k, nodes.toNat = k + 2 := ⟨nodes.toNat - 2, by omega⟩
  rw [hk, List.range_succ_eq_map, List.range_succ_eq_map]
  rfl
theorem hN_ne {id nodes : Int} (h0 : 0 ≤ id) (h1 : 2 ≤ nodes) : hN id nodes 0 ≠ hN id nodes 1 := by
  unfold hN
  have a1 : 0 ≤ id.tmod nodes := Int.tmod_nonneg _ h0
  have a2 := Int.tmod_lt_of_pos id (show 0 < nodes by omega)
  generalize id.tmod nodes = m at *
  simp only [Int.natCast_zero, Int.add_zero, Int.natCast_one] at *
  rw [Int.tmod_eq_of_lt a1 a2]
  rcases Int.lt_or_le (m + 1) nodes with h | h
  · rw [Int.tmod_eq_of_lt (by omega) h]; omega
  · have : m + 1 = nodes := by omega
    rw [this, Int.tmod_self]; omega
theorem homesF_all {v : VolD} {nodes : Int} (hh : 1 ≤ v.home ∧ v.home ≤ 3) (hm : 1 ≤ v.mate ∧ v.mate ≤ 3) (h0 : 0 ≤ v.id) (h1 : 2 ≤ nodes) (h2 : nodes ≤ 64) : rowOf PlD.enc (homesF v nodes 2) = .sl 4 [i64 v.home, i64 (hN v.id nodes 0), i64 v.home, i64 (hN v.id nodes 1), i64 v.mate, i64 (hN v.id nodes 0), i64 v.mate, i64 (hN v.id nodes 1)] := by
  simp only [homesF, hmF, if_pos, Nat.one_ne_zero, if_false]
  rw [spreadF_all hh h0 h1 h2, spreadF_all hm h0 h1 h2]
  rfl

theorem PlanHomes_ac {v : VolD} (hv : v.ok) (nodes : Int) : AC Try.prog 7 [.agg v.enc, i64 nodes] (.bool true) := by
  refine AC.intro Try.func7 rfl (Nat.le_of_ble_eq_true rfl) ?_
  refine ok_reg ?_
  first
    | refine s1w rfl (lop_box (t := 2) (v := .agg [.int _ _, .int _ _, .int _ _, .int _ _, .int _ _, _, _, .int _ _, .int _ _]) (f := true) (cs := [.int _ _, .int _ _, .int _ _, .int _ _, .int _ _, _, _, .int _ _, .int _ _]) rfl rfl rfl rfl (fun h => by cases h)) rfl ?_
    | refine s1w rfl (lop_box (t := 2) (v := .agg [.int _ _, .int _ _, .int _ _, .int _ _, .int _ _, _, _, .int _ _, .int _ _]) (f := false) (cs := [.int _ _, .int _ _, .int _ _, .int _ _, .int _ _, _, _, .int _ _, .int _ _]) rfl rfl rfl rfl (fun _ => rfl)) rfl ?_
  refine s1 rfl (lop_assign (v := .bool _) rfl) ?_
  refine ops_nil ?_
  refine ok_reg ?_
  refine s1 rfl (lop_call rfl Try.call9 (FrzL.tf rfl) (.inl rfl) shown_ac) ?_
  refine s1 rfl (lop_assign (v := .bool _) rfl) ?_
  refine ops_nil ?_
  refine ok_reg ?_
  first
    | refine s1 rfl (lop_load_rf_agg (ys := [.int _ _, .int _ _, .int _ _, .int _ _, .int _ _, _, _, .int _ _, .int _ _]) rfl rfl Try.isAgg39 Try.sizeOf39 (Nat.le_of_ble_eq_true rfl) rfl) ?_
    | refine s1 rfl (lop_load_fp_agg (ys := [.int _ _, .int _ _, .int _ _, .int _ _, .int _ _, _, _, .int _ _, .int _ _]) rfl Try.isAgg39 Try.sizeOf39 (Nat.le_of_ble_eq_true rfl) rfl) ?_
  refine s1 rfl (lop_move (v := .int _ _) rfl) ?_
  refine s1 rfl (lop_call rfl Try.call16 (FrzL.tf rfl) (.inl rfl) (plan_Homes_ac v hv.id nodes)) ?_
  first
    | refine s1 rfl (lop_assign (v := .sl _ _) rfl) ?_
    | refine s1 rfl (lop_assign (v := .os _ _ _ _) rfl) ?_
    | refine s1 rfl (lop_assign (v := .z0) rfl) ?_
  refine ops_nil ?_
  refine ok_seq ?_
  refine ok_reg ?_
  first
    | refine s1 rfl (lop_fieldAddr_rf (fo := 1) rfl Try.underlying39 rfl rfl Try.sizeOf3 (by decide)) ?_
    | refine s1 rfl (lop_fieldAddr_fp (fo := 1) rfl Try.underlying39 rfl rfl Try.sizeOf3 (by decide) rfl) ?_
  first
    | refine s1 rfl (lop_load_rf rfl rfl Try.isAgg3 rfl) ?_
    | refine s1 rfl (lop_load_fp rfl Try.isAgg3 rfl) ?_
  refine s1 rfl (lop_lss rfl rfl) ?_
  refine s1 rfl (lop_move (v := .bool _) rfl) ?_
  first
    | refine gsplitP 3 rfl rfl (fun g3_3 p3_3 => ?_) (fun g3_3 p3_3 => ?_)
    | refine gsplitB 3 rfl rfl (fun g3_3 p3_3 => ?_) (fun g3_3 p3_3 => ?_)
  · refine n1 rfl rfl g3_3 ?_
    refine n1 rfl rfl g3_3 ?_
    refine n1 rfl rfl g3_3 ?_
    first
      | refine s1 rfl (lop_pick_t (v := .bool _) rfl g3_3 rfl) ?_
      | refine s1 rfl (lop_pick_t (v := .bool _) rfl rfl rfl) ?_
      | refine s1 rfl (lop_pick_f (v := .bool _) rfl rfl rfl) ?_
      | refine s1 rfl (lop_pick rfl rfl rfl) ?_
    refine s1 rfl (lop_move (v := .bool _) rfl) ?_
    refine n1 rfl rfl rfl ?_
    refine n1 rfl rfl rfl ?_
    refine n1 rfl rfl rfl ?_
    first
      | refine s1 rfl (lop_pick_t (v := .bool _) rfl g3_3 rfl) ?_
      | refine s1 rfl (lop_pick_t (v := .bool _) rfl rfl rfl) ?_
      | refine s1 rfl (lop_pick_t (v := .bool _) rfl rfl rfl) ?_
      | refine s1 rfl (lop_pick_f (v := .bool _) rfl rfl rfl) ?_
      | refine s1 rfl (lop_pick rfl rfl rfl) ?_
    refine s1 rfl (lop_move (v := .bool _) rfl) ?_
    refine n1 rfl rfl rfl ?_
    refine n1 rfl rfl rfl ?_
    refine n1 rfl rfl rfl ?_
    first
      | refine s1 rfl (lop_pick_t (v := .bool _) rfl g3_3 rfl) ?_
      | refine s1 rfl (lop_pick_t (v := .bool _) rfl rfl rfl) ?_
      | refine s1 rfl (lop_pick_t (v := .bool _) rfl rfl rfl) ?_
      | refine s1 rfl (lop_pick_t (v := .bool _) rfl rfl rfl) ?_
      | refine s1 rfl (lop_pick_f (v := .bool _) rfl rfl rfl) ?_
      | refine s1 rfl (lop_pick rfl rfl rfl) ?_
    refine s1 rfl (lop_move (v := .bool _) rfl) ?_
    refine n1 rfl rfl rfl ?_
    refine n1 rfl rfl rfl ?_
    refine n1 rfl rfl rfl ?_
    refine n1 rfl rfl rfl ?_
    refine n1 rfl rfl rfl ?_
    first
      | refine s1 rfl (lop_pick_t (v := .bool _) rfl g3_3 rfl) ?_
      | refine s1 rfl (lop_pick_t (v := .bool _) rfl rfl rfl) ?_
      | refine s1 rfl (lop_pick_t (v := .bool _) rfl rfl rfl) ?_
      | refine s1 rfl (lop_pick_t (v := .bool _) rfl rfl rfl) ?_
      | refine s1 rfl (lop_pick_t (v := .bool _) rfl rfl rfl) ?_
      | refine s1 rfl (lop_pick_f (v := .bool _) rfl rfl rfl) ?_
      | refine s1 rfl (lop_pick rfl rfl rfl) ?_
    refine s1 rfl (lop_move (v := .bool _) rfl) ?_
    refine n1 rfl rfl rfl ?_
    refine n1 rfl rfl rfl ?_
    refine n1 rfl rfl rfl ?_
    first
      | refine s1 rfl (lop_pick_t (v := .bool _) rfl g3_3 rfl) ?_
      | refine s1 rfl (lop_pick_t (v := .bool _) rfl rfl rfl) ?_
      | refine s1 rfl (lop_pick_t (v := .bool _) rfl rfl rfl) ?_
      | refine s1 rfl (lop_pick_t (v := .bool _) rfl rfl rfl) ?_
      | refine s1 rfl (lop_pick_t (v := .bool _) rfl rfl rfl) ?_
      | refine s1 rfl (lop_pick_t (v := .bool _) rfl rfl rfl) ?_
      | refine s1 rfl (lop_pick_f (v := .bool _) rfl rfl rfl) ?_
      | refine s1 rfl (lop_pick rfl rfl rfl) ?_
    refine s1 rfl (lop_move (v := .bool _) rfl) ?_
    refine n1 rfl rfl rfl ?_
    refine n1 rfl rfl rfl ?_
    first
      | refine s1 rfl (lop_pick_t (v := .bool _) rfl g3_3 rfl) ?_
      | refine s1 rfl (lop_pick_t (v := .bool _) rfl rfl rfl) ?_
      | refine s1 rfl (lop_pick_t (v := .bool _) rfl rfl rfl) ?_
      | refine s1 rfl (lop_pick_t (v := .bool _) rfl rfl rfl) ?_
      | refine s1 rfl (lop_pick_t (v := .bool _) rfl rfl rfl) ?_
      | refine s1 rfl (lop_pick_t (v := .bool _) rfl rfl rfl) ?_
      | refine s1 rfl (lop_pick_t (v := .bool _) rfl rfl rfl) ?_
      | refine s1 rfl (lop_pick_f (v := .bool _) rfl rfl rfl) ?_
      | refine s1 rfl (lop_pick rfl rfl rfl) ?_
    refine s1 rfl (lop_move (v := .bool _) rfl) ?_
    refine n1 rfl rfl rfl ?_
    refine n1 rfl rfl rfl ?_
    first
      | refine s1 rfl (lop_pick_t (v := .bool _) rfl g3_3 rfl) ?_
      | refine s1 rfl (lop_pick_t (v := .bool _) rfl rfl rfl) ?_
      | refine s1 rfl (lop_pick_t (v := .bool _) rfl rfl rfl) ?_
      | refine s1 rfl (lop_pick_t (v := .bool _) rfl rfl rfl) ?_
      | refine s1 rfl (lop_pick_t (v := .bool _) rfl rfl rfl) ?_
      | refine s1 rfl (lop_pick_t (v := .bool _) rfl rfl rfl) ?_
      | refine s1 rfl (lop_pick_t (v := .bool _) rfl rfl rfl) ?_
      | refine s1 rfl (lop_pick_t (v := .bool _) rfl rfl rfl) ?_
      | refine s1 rfl (lop_pick_f (v := .bool _) rfl rfl rfl) ?_
      | refine s1 rfl (lop_pick rfl rfl rfl) ?_
    refine ops_nil ?_
    refine ok_true rfl rfl ?_
    refine ok_reg ?_
    refine s1 rfl (lop_move (v := .bool _) rfl) ?_
    refine s1 rfl (lop_assign (v := .bool _) rfl) ?_
    refine ops_nil ?_
    refine ok_ret ?_
    first | exact ret_one rfl rfl rfl rfl rfl | exact ret_one rfl rfl rfl rfl (congrArg V.bool (decide_eq_true (fun h => hN_ne (by omega) (by omega) h.2)))
  · first
      | refine y1 rfl rfl g3_3 rfl (lop_fieldAddr_rf (fo := 1) rfl Try.underlying39 rfl rfl Try.sizeOf3 (by decide)) ?_
      | refine y1 rfl rfl g3_3 rfl (lop_fieldAddr_fp (fo := 1) rfl Try.underlying39 rfl rfl Try.sizeOf3 (by decide) rfl) ?_
    first
      | refine y1 rfl rfl g3_3 rfl (lop_load_rf rfl rfl Try.isAgg3 rfl) ?_
      | refine y1 rfl rfl g3_3 rfl (lop_load_fp rfl Try.isAgg3 rfl) ?_
    refine y1 rfl rfl g3_3 rfl (lop_gtr rfl rfl) ?_
    first
      | refine s1 rfl (lop_pick_f (v := .bool _) rfl g3_3 rfl) ?_
      | refine s1 rfl (lop_pick_t (v := .bool _) rfl rfl rfl) ?_
      | refine s1 rfl (lop_pick_f (v := .bool _) rfl rfl rfl) ?_
      | refine s1 rfl (lop_pick rfl rfl rfl) ?_
    refine s1 rfl (lop_move (v := .bool _) rfl) ?_
    first
      | refine gsplitP 8 rfl rfl (fun g3_8 p3_8 => ?_) (fun g3_8 p3_8 => ?_)
      | refine gsplitB 8 rfl rfl (fun g3_8 p3_8 => ?_) (fun g3_8 p3_8 => ?_)
    · refine n1 rfl rfl g3_8 ?_
      refine n1 rfl rfl g3_8 ?_
      refine n1 rfl rfl g3_8 ?_
      first
        | refine s1 rfl (lop_pick_f (v := .bool _) rfl g3_3 rfl) ?_
        | refine s1 rfl (lop_pick_t (v := .bool _) rfl g3_8 rfl) ?_
        | refine s1 rfl (lop_pick_t (v := .bool _) rfl rfl rfl) ?_
        | refine s1 rfl (lop_pick_f (v := .bool _) rfl rfl rfl) ?_
        | refine s1 rfl (lop_pick rfl rfl rfl) ?_
      refine s1 rfl (lop_move (v := .bool _) rfl) ?_
      refine n1 rfl rfl rfl ?_
      refine n1 rfl rfl rfl ?_
      refine n1 rfl rfl rfl ?_
      first
        | refine s1 rfl (lop_pick_f (v := .bool _) rfl g3_3 rfl) ?_
        | refine s1 rfl (lop_pick_t (v := .bool _) rfl g3_8 rfl) ?_
        | refine s1 rfl (lop_pick_t (v := .bool _) rfl rfl rfl) ?_
        | refine s1 rfl (lop_pick_t (v := .bool _) rfl rfl rfl) ?_
        | refine s1 rfl (lop_pick_f (v := .bool _) rfl rfl rfl) ?_
        | refine s1 rfl (lop_pick rfl rfl rfl) ?_
      refine s1 rfl (lop_move (v := .bool _) rfl) ?_
      refine n1 rfl rfl rfl ?_
      refine n1 rfl rfl rfl ?_
      refine n1 rfl rfl rfl ?_
      refine n1 rfl rfl rfl ?_
      refine n1 rfl rfl rfl ?_
      first
        | refine s1 rfl (lop_pick_f (v := .bool _) rfl g3_3 rfl) ?_
        | refine s1 rfl (lop_pick_t (v := .bool _) rfl g3_8 rfl) ?_
        | refine s1 rfl (lop_pick_t (v := .bool _) rfl rfl rfl) ?_
        | refine s1 rfl (lop_pick_t (v := .bool _) rfl rfl rfl) ?_
        | refine s1 rfl (lop_pick_t (v := .bool _) rfl rfl rfl) ?_
        | refine s1 rfl (lop_pick_f (v := .bool _) rfl rfl rfl) ?_
        | refine s1 rfl (lop_pick rfl rfl rfl) ?_
      refine s1 rfl (lop_move (v := .bool _) rfl) ?_
      refine n1 rfl rfl rfl ?_
      refine n1 rfl rfl rfl ?_
      refine n1 rfl rfl rfl ?_
      first
        | refine s1 rfl (lop_pick_f (v := .bool _) rfl g3_3 rfl) ?_
        | refine s1 rfl (lop_pick_t (v := .bool _) rfl g3_8 rfl) ?_
        | refine s1 rfl (lop_pick_t (v := .bool _) rfl rfl rfl) ?_
        | refine s1 rfl (lop_pick_t (v := .bool _) rfl rfl rfl) ?_
        | refine s1 rfl (lop_pick_t (v := .bool _) rfl rfl rfl) ?_
        | refine s1 rfl (lop_pick_t (v := .bool _) rfl rfl rfl) ?_
        | refine s1 rfl (lop_pick_f (v := .bool _) rfl rfl rfl) ?_
        | refine s1 rfl (lop_pick rfl rfl rfl) ?_
      refine s1 rfl (lop_move (v := .bool _) rfl) ?_
      refine n1 rfl rfl rfl ?_
      refine n1 rfl rfl rfl ?_
      first
        | refine s1 rfl (lop_pick_f (v := .bool _) rfl g3_3 rfl) ?_
        | refine s1 rfl (lop_pick_t (v := .bool _) rfl g3_8 rfl) ?_
        | refine s1 rfl (lop_pick_t (v := .bool _) rfl rfl rfl) ?_
        | refine s1 rfl (lop_pick_t (v := .bool _) rfl rfl rfl) ?_
        | refine s1 rfl (lop_pick_t (v := .bool _) rfl rfl rfl) ?_
        | refine s1 rfl (lop_pick_t (v := .bool _) rfl rfl rfl) ?_
        | refine s1 rfl (lop_pick_t (v := .bool _) rfl rfl rfl) ?_
        | refine s1 rfl (lop_pick_f (v := .bool _) rfl rfl rfl) ?_
        | refine s1 rfl (lop_pick rfl rfl rfl) ?_
      refine s1 rfl (lop_move (v := .bool _) rfl) ?_
      refine n1 rfl rfl rfl ?_
      refine n1 rfl rfl rfl ?_
      first
        | refine s1 rfl (lop_pick_f (v := .bool _) rfl g3_3 rfl) ?_
        | refine s1 rfl (lop_pick_t (v := .bool _) rfl g3_8 rfl) ?_
        | refine s1 rfl (lop_pick_t (v := .bool _) rfl rfl rfl) ?_
        | refine s1 rfl (lop_pick_t (v := .bool _) rfl rfl rfl) ?_
        | refine s1 rfl (lop_pick_t (v := .bool _) rfl rfl rfl) ?_
        | refine s1 rfl (lop_pick_t (v := .bool _) rfl rfl rfl) ?_
        | refine s1 rfl (lop_pick_t (v := .bool _) rfl rfl rfl) ?_
        | refine s1 rfl (lop_pick_t (v := .bool _) rfl rfl rfl) ?_
        | refine s1 rfl (lop_pick_f (v := .bool _) rfl rfl rfl) ?_
        | refine s1 rfl (lop_pick rfl rfl rfl) ?_
      refine ops_nil ?_
      refine ok_true rfl rfl ?_
      refine ok_reg ?_
      refine s1 rfl (lop_move (v := .bool _) rfl) ?_
      refine s1 rfl (lop_assign (v := .bool _) rfl) ?_
      refine ops_nil ?_
      refine ok_ret ?_
      first | exact ret_one rfl rfl rfl rfl rfl | exact ret_one rfl rfl rfl rfl (congrArg V.bool (decide_eq_true (fun h => hN_ne (by omega) (by omega) h.2)))
    · first
        | refine y1 rfl rfl g3_8 rfl (lop_fieldAddr_rf (fo := 2) rfl Try.underlying39 rfl rfl Try.sizeOf3 (by decide)) ?_
        | refine y1 rfl rfl g3_8 rfl (lop_fieldAddr_fp (fo := 2) rfl Try.underlying39 rfl rfl Try.sizeOf3 (by decide) rfl) ?_
      first
        | refine y1 rfl rfl g3_8 rfl (lop_load_rf rfl rfl Try.isAgg3 rfl) ?_
        | refine y1 rfl rfl g3_8 rfl (lop_load_fp rfl Try.isAgg3 rfl) ?_
      refine y1 rfl rfl g3_8 rfl (lop_lss rfl rfl) ?_
      first
        | refine s1 rfl (lop_pick_f (v := .bool _) rfl g3_3 rfl) ?_
        | refine s1 rfl (lop_pick_f (v := .bool _) rfl g3_8 rfl) ?_
        | refine s1 rfl (lop_pick_t (v := .bool _) rfl rfl rfl) ?_
        | refine s1 rfl (lop_pick_f (v := .bool _) rfl rfl rfl) ?_
        | refine s1 rfl (lop_pick rfl rfl rfl) ?_
      refine s1 rfl (lop_move (v := .bool _) rfl) ?_
      first
        | refine gsplitP 13 rfl rfl (fun g3_13 p3_13 => ?_) (fun g3_13 p3_13 => ?_)
        | refine gsplitB 13 rfl rfl (fun g3_13 p3_13 => ?_) (fun g3_13 p3_13 => ?_)
      · refine n1 rfl rfl g3_13 ?_
        refine n1 rfl rfl g3_13 ?_
        refine n1 rfl rfl g3_13 ?_
        first
          | refine s1 rfl (lop_pick_f (v := .bool _) rfl g3_3 rfl) ?_
          | refine s1 rfl (lop_pick_f (v := .bool _) rfl g3_8 rfl) ?_
          | refine s1 rfl (lop_pick_t (v := .bool _) rfl g3_13 rfl) ?_
          | refine s1 rfl (lop_pick_t (v := .bool _) rfl rfl rfl) ?_
          | refine s1 rfl (lop_pick_f (v := .bool _) rfl rfl rfl) ?_
          | refine s1 rfl (lop_pick rfl rfl rfl) ?_
        refine s1 rfl (lop_move (v := .bool _) rfl) ?_
        refine n1 rfl rfl rfl ?_
        refine n1 rfl rfl rfl ?_
        refine n1 rfl rfl rfl ?_
        refine n1 rfl rfl rfl ?_
        refine n1 rfl rfl rfl ?_
        first
          | refine s1 rfl (lop_pick_f (v := .bool _) rfl g3_3 rfl) ?_
          | refine s1 rfl (lop_pick_f (v := .bool _) rfl g3_8 rfl) ?_
          | refine s1 rfl (lop_pick_t (v := .bool _) rfl g3_13 rfl) ?_
          | refine s1 rfl (lop_pick_t (v := .bool _) rfl rfl rfl) ?_
          | refine s1 rfl (lop_pick_t (v := .bool _) rfl rfl rfl) ?_
          | refine s1 rfl (lop_pick_f (v := .bool _) rfl rfl rfl) ?_
          | refine s1 rfl (lop_pick rfl rfl rfl) ?_
        refine s1 rfl (lop_move (v := .bool _) rfl) ?_
        refine n1 rfl rfl rfl ?_
        refine n1 rfl rfl rfl ?_
        refine n1 rfl rfl rfl ?_
        first
          | refine s1 rfl (lop_pick_f (v := .bool _) rfl g3_3 rfl) ?_
          | refine s1 rfl (lop_pick_f (v := .bool _) rfl g3_8 rfl) ?_
          | refine s1 rfl (lop_pick_t (v := .bool _) rfl g3_13 rfl) ?_
          | refine s1 rfl (lop_pick_t (v := .bool _) rfl rfl rfl) ?_
          | refine s1 rfl (lop_pick_t (v := .bool _) rfl rfl rfl) ?_
          | refine s1 rfl (lop_pick_t (v := .bool _) rfl rfl rfl) ?_
          | refine s1 rfl (lop_pick_f (v := .bool _) rfl rfl rfl) ?_
          | refine s1 rfl (lop_pick rfl rfl rfl) ?_
        refine s1 rfl (lop_move (v := .bool _) rfl) ?_
        refine n1 rfl rfl rfl ?_
        refine n1 rfl rfl rfl ?_
        first
          | refine s1 rfl (lop_pick_f (v := .bool _) rfl g3_3 rfl) ?_
          | refine s1 rfl (lop_pick_f (v := .bool _) rfl g3_8 rfl) ?_
          | refine s1 rfl (lop_pick_t (v := .bool _) rfl g3_13 rfl) ?_
          | refine s1 rfl (lop_pick_t (v := .bool _) rfl rfl rfl) ?_
          | refine s1 rfl (lop_pick_t (v := .bool _) rfl rfl rfl) ?_
          | refine s1 rfl (lop_pick_t (v := .bool _) rfl rfl rfl) ?_
          | refine s1 rfl (lop_pick_t (v := .bool _) rfl rfl rfl) ?_
          | refine s1 rfl (lop_pick_f (v := .bool _) rfl rfl rfl) ?_
          | refine s1 rfl (lop_pick rfl rfl rfl) ?_
        refine s1 rfl (lop_move (v := .bool _) rfl) ?_
        refine n1 rfl rfl rfl ?_
        refine n1 rfl rfl rfl ?_
        first
          | refine s1 rfl (lop_pick_f (v := .bool _) rfl g3_3 rfl) ?_
          | refine s1 rfl (lop_pick_f (v := .bool _) rfl g3_8 rfl) ?_
          | refine s1 rfl (lop_pick_t (v := .bool _) rfl g3_13 rfl) ?_
          | refine s1 rfl (lop_pick_t (v := .bool _) rfl rfl rfl) ?_
          | refine s1 rfl (lop_pick_t (v := .bool _) rfl rfl rfl) ?_
          | refine s1 rfl (lop_pick_t (v := .bool _) rfl rfl rfl) ?_
          | refine s1 rfl (lop_pick_t (v := .bool _) rfl rfl rfl) ?_
          | refine s1 rfl (lop_pick_t (v := .bool _) rfl rfl rfl) ?_
          | refine s1 rfl (lop_pick_f (v := .bool _) rfl rfl rfl) ?_
          | refine s1 rfl (lop_pick rfl rfl rfl) ?_
        refine ops_nil ?_
        refine ok_true rfl rfl ?_
        refine ok_reg ?_
        refine s1 rfl (lop_move (v := .bool _) rfl) ?_
        refine s1 rfl (lop_assign (v := .bool _) rfl) ?_
        refine ops_nil ?_
        refine ok_ret ?_
        first | exact ret_one rfl rfl rfl rfl rfl | exact ret_one rfl rfl rfl rfl (congrArg V.bool (decide_eq_true (fun h => hN_ne (by omega) (by omega) h.2)))
      · first
          | refine y1 rfl rfl g3_13 rfl (lop_fieldAddr_rf (fo := 2) rfl Try.underlying39 rfl rfl Try.sizeOf3 (by decide)) ?_
          | refine y1 rfl rfl g3_13 rfl (lop_fieldAddr_fp (fo := 2) rfl Try.underlying39 rfl rfl Try.sizeOf3 (by decide) rfl) ?_
        first
          | refine y1 rfl rfl g3_13 rfl (lop_load_rf rfl rfl Try.isAgg3 rfl) ?_
          | refine y1 rfl rfl g3_13 rfl (lop_load_fp rfl Try.isAgg3 rfl) ?_
        refine y1 rfl rfl g3_13 rfl (lop_gtr rfl rfl) ?_
        first
          | refine s1 rfl (lop_pick_f (v := .bool _) rfl g3_3 rfl) ?_
          | refine s1 rfl (lop_pick_f (v := .bool _) rfl g3_8 rfl) ?_
          | refine s1 rfl (lop_pick_f (v := .bool _) rfl g3_13 rfl) ?_
          | refine s1 rfl (lop_pick_t (v := .bool _) rfl rfl rfl) ?_
          | refine s1 rfl (lop_pick_f (v := .bool _) rfl rfl rfl) ?_
          | refine s1 rfl (lop_pick rfl rfl rfl) ?_
        refine s1 rfl (lop_move (v := .bool _) rfl) ?_
        first
          | refine gsplitP 18 rfl rfl (fun g3_18 p3_18 => ?_) (fun g3_18 p3_18 => ?_)
          | refine gsplitB 18 rfl rfl (fun g3_18 p3_18 => ?_) (fun g3_18 p3_18 => ?_)
        · refine n1 rfl rfl g3_18 ?_
          refine n1 rfl rfl g3_18 ?_
          refine n1 rfl rfl g3_18 ?_
          refine n1 rfl rfl g3_18 ?_
          refine n1 rfl rfl g3_18 ?_
          first
            | refine s1 rfl (lop_pick_f (v := .bool _) rfl g3_3 rfl) ?_
            | refine s1 rfl (lop_pick_f (v := .bool _) rfl g3_8 rfl) ?_
            | refine s1 rfl (lop_pick_f (v := .bool _) rfl g3_13 rfl) ?_
            | refine s1 rfl (lop_pick_t (v := .bool _) rfl g3_18 rfl) ?_
            | refine s1 rfl (lop_pick_t (v := .bool _) rfl rfl rfl) ?_
            | refine s1 rfl (lop_pick_f (v := .bool _) rfl rfl rfl) ?_
            | refine s1 rfl (lop_pick rfl rfl rfl) ?_
          refine s1 rfl (lop_move (v := .bool _) rfl) ?_
          refine n1 rfl rfl rfl ?_
          refine n1 rfl rfl rfl ?_
          refine n1 rfl rfl rfl ?_
          first
            | refine s1 rfl (lop_pick_f (v := .bool _) rfl g3_3 rfl) ?_
            | refine s1 rfl (lop_pick_f (v := .bool _) rfl g3_8 rfl) ?_
            | refine s1 rfl (lop_pick_f (v := .bool _) rfl g3_13 rfl) ?_
            | refine s1 rfl (lop_pick_t (v := .bool _) rfl g3_18 rfl) ?_
            | refine s1 rfl (lop_pick_t (v := .bool _) rfl rfl rfl) ?_
            | refine s1 rfl (lop_pick_t (v := .bool _) rfl rfl rfl) ?_
            | refine s1 rfl (lop_pick_f (v := .bool _) rfl rfl rfl) ?_
            | refine s1 rfl (lop_pick rfl rfl rfl) ?_
          refine s1 rfl (lop_move (v := .bool _) rfl) ?_
          refine n1 rfl rfl rfl ?_
          refine n1 rfl rfl rfl ?_
          first
            | refine s1 rfl (lop_pick_f (v := .bool _) rfl g3_3 rfl) ?_
            | refine s1 rfl (lop_pick_f (v := .bool _) rfl g3_8 rfl) ?_
            | refine s1 rfl (lop_pick_f (v := .bool _) rfl g3_13 rfl) ?_
            | refine s1 rfl (lop_pick_t (v := .bool _) rfl g3_18 rfl) ?_
            | refine s1 rfl (lop_pick_t (v := .bool _) rfl rfl rfl) ?_
            | refine s1 rfl (lop_pick_t (v := .bool _) rfl rfl rfl) ?_
            | refine s1 rfl (lop_pick_t (v := .bool _) rfl rfl rfl) ?_
            | refine s1 rfl (lop_pick_f (v := .bool _) rfl rfl rfl) ?_
            | refine s1 rfl (lop_pick rfl rfl rfl) ?_
          refine s1 rfl (lop_move (v := .bool _) rfl) ?_
          refine n1 rfl rfl rfl ?_
          refine n1 rfl rfl rfl ?_
          first
            | refine s1 rfl (lop_pick_f (v := .bool _) rfl g3_3 rfl) ?_
            | refine s1 rfl (lop_pick_f (v := .bool _) rfl g3_8 rfl) ?_
            | refine s1 rfl (lop_pick_f (v := .bool _) rfl g3_13 rfl) ?_
            | refine s1 rfl (lop_pick_t (v := .bool _) rfl g3_18 rfl) ?_
            | refine s1 rfl (lop_pick_t (v := .bool _) rfl rfl rfl) ?_
            | refine s1 rfl (lop_pick_t (v := .bool _) rfl rfl rfl) ?_
            | refine s1 rfl (lop_pick_t (v := .bool _) rfl rfl rfl) ?_
            | refine s1 rfl (lop_pick_t (v := .bool _) rfl rfl rfl) ?_
            | refine s1 rfl (lop_pick_f (v := .bool _) rfl rfl rfl) ?_
            | refine s1 rfl (lop_pick rfl rfl rfl) ?_
          refine ops_nil ?_
          refine ok_true rfl rfl ?_
          refine ok_reg ?_
          refine s1 rfl (lop_move (v := .bool _) rfl) ?_
          refine s1 rfl (lop_assign (v := .bool _) rfl) ?_
          refine ops_nil ?_
          refine ok_ret ?_
          first | exact ret_one rfl rfl rfl rfl rfl | exact ret_one rfl rfl rfl rfl (congrArg V.bool (decide_eq_true (fun h => hN_ne (by omega) (by omega) h.2)))
        · first
            | refine y1 rfl rfl g3_18 rfl (lop_fieldAddr_rf (fo := 1) rfl Try.underlying39 rfl rfl Try.sizeOf3 (by decide)) ?_
            | refine y1 rfl rfl g3_18 rfl (lop_fieldAddr_fp (fo := 1) rfl Try.underlying39 rfl rfl Try.sizeOf3 (by decide) rfl) ?_
          first
            | refine y1 rfl rfl g3_18 rfl (lop_load_rf rfl rfl Try.isAgg3 rfl) ?_
            | refine y1 rfl rfl g3_18 rfl (lop_load_fp rfl Try.isAgg3 rfl) ?_
          first
            | refine y1 rfl rfl g3_18 rfl (lop_fieldAddr_rf (fo := 2) rfl Try.underlying39 rfl rfl Try.sizeOf3 (by decide)) ?_
            | refine y1 rfl rfl g3_18 rfl (lop_fieldAddr_fp (fo := 2) rfl Try.underlying39 rfl rfl Try.sizeOf3 (by decide) rfl) ?_
          first
            | refine y1 rfl rfl g3_18 rfl (lop_load_rf rfl rfl Try.isAgg3 rfl) ?_
            | refine y1 rfl rfl g3_18 rfl (lop_load_fp rfl Try.isAgg3 rfl) ?_
          refine y1 rfl rfl g3_18 rfl (lop_eql rfl rfl) ?_
          first
            | refine s1 rfl (lop_pick_f (v := .bool _) rfl g3_3 rfl) ?_
            | refine s1 rfl (lop_pick_f (v := .bool _) rfl g3_8 rfl) ?_
            | refine s1 rfl (lop_pick_f (v := .bool _) rfl g3_13 rfl) ?_
            | refine s1 rfl (lop_pick_f (v := .bool _) rfl g3_18 rfl) ?_
            | refine s1 rfl (lop_pick_t (v := .bool _) rfl rfl rfl) ?_
            | refine s1 rfl (lop_pick_f (v := .bool _) rfl rfl rfl) ?_
            | refine s1 rfl (lop_pick rfl rfl rfl) ?_
          refine s1 rfl (lop_move (v := .bool _) rfl) ?_
          first
            | refine gsplitP 25 rfl rfl (fun g3_25 p3_25 => ?_) (fun g3_25 p3_25 => ?_)
            | refine gsplitB 25 rfl rfl (fun g3_25 p3_25 => ?_) (fun g3_25 p3_25 => ?_)
          · refine n1 rfl rfl g3_25 ?_
            refine n1 rfl rfl g3_25 ?_
            refine n1 rfl rfl g3_25 ?_
            first
              | refine s1 rfl (lop_pick_f (v := .bool _) rfl g3_3 rfl) ?_
              | refine s1 rfl (lop_pick_f (v := .bool _) rfl g3_8 rfl) ?_
              | refine s1 rfl (lop_pick_f (v := .bool _) rfl g3_13 rfl) ?_
              | refine s1 rfl (lop_pick_f (v := .bool _) rfl g3_18 rfl) ?_
              | refine s1 rfl (lop_pick_t (v := .bool _) rfl g3_25 rfl) ?_
              | refine s1 rfl (lop_pick_t (v := .bool _) rfl rfl rfl) ?_
              | refine s1 rfl (lop_pick_f (v := .bool _) rfl rfl rfl) ?_
              | refine s1 rfl (lop_pick rfl rfl rfl) ?_
            refine s1 rfl (lop_move (v := .bool _) rfl) ?_
            refine n1 rfl rfl rfl ?_
            refine n1 rfl rfl rfl ?_
            first
              | refine s1 rfl (lop_pick_f (v := .bool _) rfl g3_3 rfl) ?_
              | refine s1 rfl (lop_pick_f (v := .bool _) rfl g3_8 rfl) ?_
              | refine s1 rfl (lop_pick_f (v := .bool _) rfl g3_13 rfl) ?_
              | refine s1 rfl (lop_pick_f (v := .bool _) rfl g3_18 rfl) ?_
              | refine s1 rfl (lop_pick_t (v := .bool _) rfl g3_25 rfl) ?_
              | refine s1 rfl (lop_pick_t (v := .bool _) rfl rfl rfl) ?_
              | refine s1 rfl (lop_pick_t (v := .bool _) rfl rfl rfl) ?_
              | refine s1 rfl (lop_pick_f (v := .bool _) rfl rfl rfl) ?_
              | refine s1 rfl (lop_pick rfl rfl rfl) ?_
            refine s1 rfl (lop_move (v := .bool _) rfl) ?_
            refine n1 rfl rfl rfl ?_
            refine n1 rfl rfl rfl ?_
            first
              | refine s1 rfl (lop_pick_f (v := .bool _) rfl g3_3 rfl) ?_
              | refine s1 rfl (lop_pick_f (v := .bool _) rfl g3_8 rfl) ?_
              | refine s1 rfl (lop_pick_f (v := .bool _) rfl g3_13 rfl) ?_
              | refine s1 rfl (lop_pick_f (v := .bool _) rfl g3_18 rfl) ?_
              | refine s1 rfl (lop_pick_t (v := .bool _) rfl g3_25 rfl) ?_
              | refine s1 rfl (lop_pick_t (v := .bool _) rfl rfl rfl) ?_
              | refine s1 rfl (lop_pick_t (v := .bool _) rfl rfl rfl) ?_
              | refine s1 rfl (lop_pick_t (v := .bool _) rfl rfl rfl) ?_
              | refine s1 rfl (lop_pick_f (v := .bool _) rfl rfl rfl) ?_
              | refine s1 rfl (lop_pick rfl rfl rfl) ?_
            refine ops_nil ?_
            refine ok_true rfl rfl ?_
            refine ok_reg ?_
            refine s1 rfl (lop_move (v := .bool _) rfl) ?_
            refine s1 rfl (lop_assign (v := .bool _) rfl) ?_
            refine ops_nil ?_
            refine ok_ret ?_
            first | exact ret_one rfl rfl rfl rfl rfl | exact ret_one rfl rfl rfl rfl (congrArg V.bool (decide_eq_true (fun h => hN_ne (by omega) (by omega) h.2)))
          · first
              | refine y1 rfl rfl g3_25 rfl (lop_fieldAddr_rf (fo := 0) rfl Try.underlying39 rfl rfl Try.sizeOf3 (by decide)) ?_
              | refine y1 rfl rfl g3_25 rfl (lop_fieldAddr_fp (fo := 0) rfl Try.underlying39 rfl rfl Try.sizeOf3 (by decide) rfl) ?_
            first
              | refine y1 rfl rfl g3_25 rfl (lop_load_rf rfl rfl Try.isAgg3 rfl) ?_
              | refine y1 rfl rfl g3_25 rfl (lop_load_fp rfl Try.isAgg3 rfl) ?_
            refine y1 rfl rfl g3_25 rfl (lop_lss rfl rfl) ?_
            first
              | refine s1 rfl (lop_pick_f (v := .bool _) rfl g3_3 rfl) ?_
              | refine s1 rfl (lop_pick_f (v := .bool _) rfl g3_8 rfl) ?_
              | refine s1 rfl (lop_pick_f (v := .bool _) rfl g3_13 rfl) ?_
              | refine s1 rfl (lop_pick_f (v := .bool _) rfl g3_18 rfl) ?_
              | refine s1 rfl (lop_pick_f (v := .bool _) rfl g3_25 rfl) ?_
              | refine s1 rfl (lop_pick_t (v := .bool _) rfl rfl rfl) ?_
              | refine s1 rfl (lop_pick_f (v := .bool _) rfl rfl rfl) ?_
              | refine s1 rfl (lop_pick rfl rfl rfl) ?_
            refine s1 rfl (lop_move (v := .bool _) rfl) ?_
            first
              | refine gsplitP 30 rfl rfl (fun g3_30 p3_30 => ?_) (fun g3_30 p3_30 => ?_)
              | refine gsplitB 30 rfl rfl (fun g3_30 p3_30 => ?_) (fun g3_30 p3_30 => ?_)
            · refine n1 rfl rfl g3_30 ?_
              refine n1 rfl rfl g3_30 ?_
              first
                | refine s1 rfl (lop_pick_f (v := .bool _) rfl g3_3 rfl) ?_
                | refine s1 rfl (lop_pick_f (v := .bool _) rfl g3_8 rfl) ?_
                | refine s1 rfl (lop_pick_f (v := .bool _) rfl g3_13 rfl) ?_
                | refine s1 rfl (lop_pick_f (v := .bool _) rfl g3_18 rfl) ?_
                | refine s1 rfl (lop_pick_f (v := .bool _) rfl g3_25 rfl) ?_
                | refine s1 rfl (lop_pick_t (v := .bool _) rfl g3_30 rfl) ?_
                | refine s1 rfl (lop_pick_t (v := .bool _) rfl rfl rfl) ?_
                | refine s1 rfl (lop_pick_f (v := .bool _) rfl rfl rfl) ?_
                | refine s1 rfl (lop_pick rfl rfl rfl) ?_
              refine s1 rfl (lop_move (v := .bool _) rfl) ?_
              refine n1 rfl rfl rfl ?_
              refine n1 rfl rfl rfl ?_
              first
                | refine s1 rfl (lop_pick_f (v := .bool _) rfl g3_3 rfl) ?_
                | refine s1 rfl (lop_pick_f (v := .bool _) rfl g3_8 rfl) ?_
                | refine s1 rfl (lop_pick_f (v := .bool _) rfl g3_13 rfl) ?_
                | refine s1 rfl (lop_pick_f (v := .bool _) rfl g3_18 rfl) ?_
                | refine s1 rfl (lop_pick_f (v := .bool _) rfl g3_25 rfl) ?_
                | refine s1 rfl (lop_pick_t (v := .bool _) rfl g3_30 rfl) ?_
                | refine s1 rfl (lop_pick_t (v := .bool _) rfl rfl rfl) ?_
                | refine s1 rfl (lop_pick_t (v := .bool _) rfl rfl rfl) ?_
                | refine s1 rfl (lop_pick_f (v := .bool _) rfl rfl rfl) ?_
                | refine s1 rfl (lop_pick rfl rfl rfl) ?_
              refine ops_nil ?_
              refine ok_true rfl rfl ?_
              refine ok_reg ?_
              refine s1 rfl (lop_move (v := .bool _) rfl) ?_
              refine s1 rfl (lop_assign (v := .bool _) rfl) ?_
              refine ops_nil ?_
              refine ok_ret ?_
              first | exact ret_one rfl rfl rfl rfl rfl | exact ret_one rfl rfl rfl rfl (congrArg V.bool (decide_eq_true (fun h => hN_ne (by omega) (by omega) h.2)))
            · refine y1 rfl rfl g3_30 rfl (lop_move (v := .int _ _) rfl) ?_
              refine y1 rfl rfl g3_30 rfl (lop_lss rfl rfl) ?_
              first
                | refine s1 rfl (lop_pick_f (v := .bool _) rfl g3_3 rfl) ?_
                | refine s1 rfl (lop_pick_f (v := .bool _) rfl g3_8 rfl) ?_
                | refine s1 rfl (lop_pick_f (v := .bool _) rfl g3_13 rfl) ?_
                | refine s1 rfl (lop_pick_f (v := .bool _) rfl g3_18 rfl) ?_
                | refine s1 rfl (lop_pick_f (v := .bool _) rfl g3_25 rfl) ?_
                | refine s1 rfl (lop_pick_f (v := .bool _) rfl g3_30 rfl) ?_
                | refine s1 rfl (lop_pick_t (v := .bool _) rfl rfl rfl) ?_
                | refine s1 rfl (lop_pick_f (v := .bool _) rfl rfl rfl) ?_
                | refine s1 rfl (lop_pick rfl rfl rfl) ?_
              refine s1 rfl (lop_move (v := .bool _) rfl) ?_
              first
                | refine gsplitP 34 rfl rfl (fun g3_34 p3_34 => ?_) (fun g3_34 p3_34 => ?_)
                | refine gsplitB 34 rfl rfl (fun g3_34 p3_34 => ?_) (fun g3_34 p3_34 => ?_)
              · refine n1 rfl rfl g3_34 ?_
                refine n1 rfl rfl g3_34 ?_
                first
                  | refine s1 rfl (lop_pick_f (v := .bool _) rfl g3_3 rfl) ?_
                  | refine s1 rfl (lop_pick_f (v := .bool _) rfl g3_8 rfl) ?_
                  | refine s1 rfl (lop_pick_f (v := .bool _) rfl g3_13 rfl) ?_
                  | refine s1 rfl (lop_pick_f (v := .bool _) rfl g3_18 rfl) ?_
                  | refine s1 rfl (lop_pick_f (v := .bool _) rfl g3_25 rfl) ?_
                  | refine s1 rfl (lop_pick_f (v := .bool _) rfl g3_30 rfl) ?_
                  | refine s1 rfl (lop_pick_t (v := .bool _) rfl g3_34 rfl) ?_
                  | refine s1 rfl (lop_pick_t (v := .bool _) rfl rfl rfl) ?_
                  | refine s1 rfl (lop_pick_f (v := .bool _) rfl rfl rfl) ?_
                  | refine s1 rfl (lop_pick rfl rfl rfl) ?_
                refine ops_nil ?_
                refine ok_true rfl rfl ?_
                refine ok_reg ?_
                refine s1 rfl (lop_move (v := .bool _) rfl) ?_
                refine s1 rfl (lop_assign (v := .bool _) rfl) ?_
                refine ops_nil ?_
                refine ok_ret ?_
                first | exact ret_one rfl rfl rfl rfl rfl | exact ret_one rfl rfl rfl rfl (congrArg V.bool (decide_eq_true (fun h => hN_ne (by omega) (by omega) h.2)))
              · refine y1 rfl rfl g3_34 rfl (lop_move (v := .int _ _) rfl) ?_
                refine y1 rfl rfl g3_34 rfl (lop_gtr rfl rfl) ?_
                first
                  | refine s1 rfl (lop_pick_f (v := .bool _) rfl g3_3 rfl) ?_
                  | refine s1 rfl (lop_pick_f (v := .bool _) rfl g3_8 rfl) ?_
                  | refine s1 rfl (lop_pick_f (v := .bool _) rfl g3_13 rfl) ?_
                  | refine s1 rfl (lop_pick_f (v := .bool _) rfl g3_18 rfl) ?_
                  | refine s1 rfl (lop_pick_f (v := .bool _) rfl g3_25 rfl) ?_
                  | refine s1 rfl (lop_pick_f (v := .bool _) rfl g3_30 rfl) ?_
                  | refine s1 rfl (lop_pick_f (v := .bool _) rfl g3_34 rfl) ?_
                  | refine s1 rfl (lop_pick_t (v := .bool _) rfl rfl rfl) ?_
                  | refine s1 rfl (lop_pick_f (v := .bool _) rfl rfl rfl) ?_
                  | refine s1 rfl (lop_pick rfl rfl rfl) ?_
                refine ops_nil ?_
                first
                  | refine ok_if _ rfl rfl (fun h_t48 => ?_) (fun h_t48 => ?_)
                  | refine ok_cond rfl rfl (fun h_t48 => ?_) (fun h_t48 => ?_)
                · refine ok_reg ?_
                  refine s1 rfl (lop_move (v := .bool _) rfl) ?_
                  refine s1 rfl (lop_assign (v := .bool _) rfl) ?_
                  refine ops_nil ?_
                  refine ok_ret ?_
                  first | exact ret_one rfl rfl rfl rfl rfl | exact ret_one rfl rfl rfl rfl (congrArg V.bool (decide_eq_true (fun h => hN_ne (by omega) (by omega) h.2)))
                · have eH := homesF_all (v := v) (nodes := nodes) (by omega) (by omega) (by omega) (by omega) (by omega)
                  have eH := (V.sl.injEq _ _ _ _).mp eH
                  rw [eH.1, eH.2]
                  refine ok_skip ?_
                  refine ok_seq ?_
                  refine ok_drw Try.mixed ?_
                  first
                    | refine d1 rfl rfl (lop_move (v := .sl _ _) rfl) ?_
                    | refine d1 rfl rfl (lop_move (v := .os _ _ _ _) rfl) ?_
                    | refine d1 rfl rfl (lop_move (v := .z0) rfl) ?_
                  refine d1 rfl rfl (lop_len rfl Try.underlying30 ⟨⟨_, rfl⟩, rfl⟩) ?_
                  refine d1 rfl rfl (lop_neq rfl rfl) ?_
                  refine d1 rfl rfl (lop_move (v := .bool _) rfl) ?_
                  first
                    | refine dy1 rfl rfl rfl rfl rfl (lop_move (v := .sl _ _) rfl) ?_
                    | refine dy1 rfl rfl rfl rfl rfl (lop_move (v := .os _ _ _ _) rfl) ?_
                    | refine dy1 rfl rfl rfl rfl rfl (lop_move (v := .z0) rfl) ?_
                  refine dy1 rfl rfl rfl rfl rfl (lop_indexAddr_sl (i := 0) (n := 4) (cs := [i64 v.home, i64 (hN v.id nodes 0), i64 v.home, i64 (hN v.id nodes 1), i64 v.mate, i64 (hN v.id nodes 0), i64 v.mate, i64 (hN v.id nodes 1)]) (ys := [i64 v.home, i64 (hN v.id nodes 0), i64 v.home, i64 (hN v.id nodes 1), i64 v.mate, i64 (hN v.id nodes 0), i64 v.mate, i64 (hN v.id nodes 1)]) rfl rfl Try.underlying30 Try.sizeOf41 rfl (by decide) rfl (by intro h; cases h)) ?_
                  first
                    | refine dy1 rfl rfl rfl rfl rfl (lop_fieldAddr_rf (fo := 0) rfl Try.underlying41 rfl rfl Try.sizeOf3 (by decide)) ?_
                    | refine dy1 rfl rfl rfl rfl rfl (lop_fieldAddr_fp (fo := 0) rfl Try.underlying41 rfl rfl Try.sizeOf3 (by decide) rfl) ?_
                  first
                    | refine dy1 rfl rfl rfl rfl rfl (lop_load_rf rfl rfl Try.isAgg3 rfl) ?_
                    | refine dy1 rfl rfl rfl rfl rfl (lop_load_fp rfl Try.isAgg3 rfl) ?_
                  first
                    | refine dy1 rfl rfl rfl rfl rfl (lop_fieldAddr_rf (fo := 1) rfl Try.underlying39 rfl rfl Try.sizeOf3 (by decide)) ?_
                    | refine dy1 rfl rfl rfl rfl rfl (lop_fieldAddr_fp (fo := 1) rfl Try.underlying39 rfl rfl Try.sizeOf3 (by decide) rfl) ?_
                  first
                    | refine dy1 rfl rfl rfl rfl rfl (lop_load_rf rfl rfl Try.isAgg3 rfl) ?_
                    | refine dy1 rfl rfl rfl rfl rfl (lop_load_fp rfl Try.isAgg3 rfl) ?_
                  refine dy1 rfl rfl rfl rfl rfl (lop_neq rfl rfl) ?_
                  first
                    | refine d1 rfl rfl (lop_pick_f (v := .bool _) rfl rfl rfl) ?_
                    | refine d1 rfl rfl (lop_pick_t (v := .bool _) rfl rfl rfl) ?_
                    | refine d1 rfl rfl (lop_pick_f (v := .bool _) rfl rfl rfl) ?_
                    | refine d1 rfl rfl (lop_pick rfl rfl rfl) ?_
                  refine d1 rfl rfl (lop_move (v := .bool _) rfl) ?_
                  first
                    | refine dsplitP 12 rfl rfl (fun g5_12 p5_12 => ?_) (fun g5_12 p5_12 => ?_)
                    | refine dsplitB 12 rfl rfl (fun g5_12 p5_12 => ?_) (fun g5_12 p5_12 => ?_)
                  · exact absurd rfl p5_12
                  · first
                      | refine dy1 rfl rfl g5_12 rfl rfl (lop_move (v := .sl _ _) rfl) ?_
                      | refine dy1 rfl rfl g5_12 rfl rfl (lop_move (v := .os _ _ _ _) rfl) ?_
                      | refine dy1 rfl rfl g5_12 rfl rfl (lop_move (v := .z0) rfl) ?_
                    refine dy1 rfl rfl g5_12 rfl rfl (lop_indexAddr_sl (i := 1) (n := 4) (cs := [i64 v.home, i64 (hN v.id nodes 0), i64 v.home, i64 (hN v.id nodes 1), i64 v.mate, i64 (hN v.id nodes 0), i64 v.mate, i64 (hN v.id nodes 1)]) (ys := [i64 v.home, i64 (hN v.id nodes 1), i64 v.mate, i64 (hN v.id nodes 0), i64 v.mate, i64 (hN v.id nodes 1)]) rfl rfl Try.underlying30 Try.sizeOf41 rfl (by decide) rfl (by intro h; cases h)) ?_
                    first
                      | refine dy1 rfl rfl g5_12 rfl rfl (lop_fieldAddr_rf (fo := 0) rfl Try.underlying41 rfl rfl Try.sizeOf3 (by decide)) ?_
                      | refine dy1 rfl rfl g5_12 rfl rfl (lop_fieldAddr_fp (fo := 0) rfl Try.underlying41 rfl rfl Try.sizeOf3 (by decide) rfl) ?_
                    first
                      | refine dy1 rfl rfl g5_12 rfl rfl (lop_load_rf rfl rfl Try.isAgg3 rfl) ?_
                      | refine dy1 rfl rfl g5_12 rfl rfl (lop_load_fp rfl Try.isAgg3 rfl) ?_
                    first
                      | refine dy1 rfl rfl g5_12 rfl rfl (lop_fieldAddr_rf (fo := 1) rfl Try.underlying39 rfl rfl Try.sizeOf3 (by decide)) ?_
                      | refine dy1 rfl rfl g5_12 rfl rfl (lop_fieldAddr_fp (fo := 1) rfl Try.underlying39 rfl rfl Try.sizeOf3 (by decide) rfl) ?_
                    first
                      | refine dy1 rfl rfl g5_12 rfl rfl (lop_load_rf rfl rfl Try.isAgg3 rfl) ?_
                      | refine dy1 rfl rfl g5_12 rfl rfl (lop_load_fp rfl Try.isAgg3 rfl) ?_
                    refine dy1 rfl rfl g5_12 rfl rfl (lop_neq rfl rfl) ?_
                    first
                      | refine d1 rfl rfl (lop_pick_f (v := .bool _) rfl rfl rfl) ?_
                      | refine d1 rfl rfl (lop_pick_f (v := .bool _) rfl g5_12 rfl) ?_
                      | refine d1 rfl rfl (lop_pick_t (v := .bool _) rfl rfl rfl) ?_
                      | refine d1 rfl rfl (lop_pick_f (v := .bool _) rfl rfl rfl) ?_
                      | refine d1 rfl rfl (lop_pick rfl rfl rfl) ?_
                    refine d1 rfl rfl (lop_move (v := .bool _) rfl) ?_
                    first
                      | refine dsplitP 21 rfl rfl (fun g5_21 p5_21 => ?_) (fun g5_21 p5_21 => ?_)
                      | refine dsplitB 21 rfl rfl (fun g5_21 p5_21 => ?_) (fun g5_21 p5_21 => ?_)
                    · exact absurd rfl p5_21
                    · first
                        | refine dy1 rfl rfl g5_21 rfl rfl (lop_move (v := .sl _ _) rfl) ?_
                        | refine dy1 rfl rfl g5_21 rfl rfl (lop_move (v := .os _ _ _ _) rfl) ?_
                        | refine dy1 rfl rfl g5_21 rfl rfl (lop_move (v := .z0) rfl) ?_
                      refine dy1 rfl rfl g5_21 rfl rfl (lop_indexAddr_sl (i := 2) (n := 4) (cs := [i64 v.home, i64 (hN v.id nodes 0), i64 v.home, i64 (hN v.id nodes 1), i64 v.mate, i64 (hN v.id nodes 0), i64 v.mate, i64 (hN v.id nodes 1)]) (ys := [i64 v.mate, i64 (hN v.id nodes 0), i64 v.mate, i64 (hN v.id nodes 1)]) rfl rfl Try.underlying30 Try.sizeOf41 rfl (by decide) rfl (by intro h; cases h)) ?_
                      first
                        | refine dy1 rfl rfl g5_21 rfl rfl (lop_fieldAddr_rf (fo := 0) rfl Try.underlying41 rfl rfl Try.sizeOf3 (by decide)) ?_
                        | refine dy1 rfl rfl g5_21 rfl rfl (lop_fieldAddr_fp (fo := 0) rfl Try.underlying41 rfl rfl Try.sizeOf3 (by decide) rfl) ?_
                      first
                        | refine dy1 rfl rfl g5_21 rfl rfl (lop_load_rf rfl rfl Try.isAgg3 rfl) ?_
                        | refine dy1 rfl rfl g5_21 rfl rfl (lop_load_fp rfl Try.isAgg3 rfl) ?_
                      first
                        | refine dy1 rfl rfl g5_21 rfl rfl (lop_fieldAddr_rf (fo := 2) rfl Try.underlying39 rfl rfl Try.sizeOf3 (by decide)) ?_
                        | refine dy1 rfl rfl g5_21 rfl rfl (lop_fieldAddr_fp (fo := 2) rfl Try.underlying39 rfl rfl Try.sizeOf3 (by decide) rfl) ?_
                      first
                        | refine dy1 rfl rfl g5_21 rfl rfl (lop_load_rf rfl rfl Try.isAgg3 rfl) ?_
                        | refine dy1 rfl rfl g5_21 rfl rfl (lop_load_fp rfl Try.isAgg3 rfl) ?_
                      refine dy1 rfl rfl g5_21 rfl rfl (lop_neq rfl rfl) ?_
                      first
                        | refine d1 rfl rfl (lop_pick_f (v := .bool _) rfl rfl rfl) ?_
                        | refine d1 rfl rfl (lop_pick_f (v := .bool _) rfl g5_12 rfl) ?_
                        | refine d1 rfl rfl (lop_pick_f (v := .bool _) rfl g5_21 rfl) ?_
                        | refine d1 rfl rfl (lop_pick_t (v := .bool _) rfl rfl rfl) ?_
                        | refine d1 rfl rfl (lop_pick_f (v := .bool _) rfl rfl rfl) ?_
                        | refine d1 rfl rfl (lop_pick rfl rfl rfl) ?_
                      refine d1 rfl rfl (lop_move (v := .bool _) rfl) ?_
                      first
                        | refine dsplitP 30 rfl rfl (fun g5_30 p5_30 => ?_) (fun g5_30 p5_30 => ?_)
                        | refine dsplitB 30 rfl rfl (fun g5_30 p5_30 => ?_) (fun g5_30 p5_30 => ?_)
                      · exact absurd rfl p5_30
                      · first
                          | refine dy1 rfl rfl g5_30 rfl rfl (lop_move (v := .sl _ _) rfl) ?_
                          | refine dy1 rfl rfl g5_30 rfl rfl (lop_move (v := .os _ _ _ _) rfl) ?_
                          | refine dy1 rfl rfl g5_30 rfl rfl (lop_move (v := .z0) rfl) ?_
                        refine dy1 rfl rfl g5_30 rfl rfl (lop_indexAddr_sl (i := 3) (n := 4) (cs := [i64 v.home, i64 (hN v.id nodes 0), i64 v.home, i64 (hN v.id nodes 1), i64 v.mate, i64 (hN v.id nodes 0), i64 v.mate, i64 (hN v.id nodes 1)]) (ys := [i64 v.mate, i64 (hN v.id nodes 1)]) rfl rfl Try.underlying30 Try.sizeOf41 rfl (by decide) rfl (by intro h; cases h)) ?_
                        first
                          | refine dy1 rfl rfl g5_30 rfl rfl (lop_fieldAddr_rf (fo := 0) rfl Try.underlying41 rfl rfl Try.sizeOf3 (by decide)) ?_
                          | refine dy1 rfl rfl g5_30 rfl rfl (lop_fieldAddr_fp (fo := 0) rfl Try.underlying41 rfl rfl Try.sizeOf3 (by decide) rfl) ?_
                        first
                          | refine dy1 rfl rfl g5_30 rfl rfl (lop_load_rf rfl rfl Try.isAgg3 rfl) ?_
                          | refine dy1 rfl rfl g5_30 rfl rfl (lop_load_fp rfl Try.isAgg3 rfl) ?_
                        first
                          | refine dy1 rfl rfl g5_30 rfl rfl (lop_fieldAddr_rf (fo := 2) rfl Try.underlying39 rfl rfl Try.sizeOf3 (by decide)) ?_
                          | refine dy1 rfl rfl g5_30 rfl rfl (lop_fieldAddr_fp (fo := 2) rfl Try.underlying39 rfl rfl Try.sizeOf3 (by decide) rfl) ?_
                        first
                          | refine dy1 rfl rfl g5_30 rfl rfl (lop_load_rf rfl rfl Try.isAgg3 rfl) ?_
                          | refine dy1 rfl rfl g5_30 rfl rfl (lop_load_fp rfl Try.isAgg3 rfl) ?_
                        refine dy1 rfl rfl g5_30 rfl rfl (lop_neq rfl rfl) ?_
                        first
                          | refine d1 rfl rfl (lop_pick_f (v := .bool _) rfl rfl rfl) ?_
                          | refine d1 rfl rfl (lop_pick_f (v := .bool _) rfl g5_12 rfl) ?_
                          | refine d1 rfl rfl (lop_pick_f (v := .bool _) rfl g5_21 rfl) ?_
                          | refine d1 rfl rfl (lop_pick_f (v := .bool _) rfl g5_30 rfl) ?_
                          | refine d1 rfl rfl (lop_pick_t (v := .bool _) rfl rfl rfl) ?_
                          | refine d1 rfl rfl (lop_pick_f (v := .bool _) rfl rfl rfl) ?_
                          | refine d1 rfl rfl (lop_pick rfl rfl rfl) ?_
                        refine dr_nil (by kernel_rfl) ?_
                        first
                          | refine ok_if _ rfl rfl (fun h_t88 => ?_) (fun h_t88 => ?_)
                          | refine ok_cond rfl rfl (fun h_t88 => ?_) (fun h_t88 => ?_)
                        · exact absurd rfl h_t88
                        · refine ok_skip ?_
                          refine ok_drw Try.mixed ?_
                          refine d1 rfl rfl (lop_move (v := .bool _) rfl) ?_
                          refine d1 rfl rfl (lop_move (v := .bool _) rfl) ?_
                          first
                            | refine dy1 rfl rfl rfl rfl rfl (lop_move (v := .sl _ _) rfl) ?_
                            | refine dy1 rfl rfl rfl rfl rfl (lop_move (v := .os _ _ _ _) rfl) ?_
                            | refine dy1 rfl rfl rfl rfl rfl (lop_move (v := .z0) rfl) ?_
                          refine dy1 rfl rfl rfl rfl rfl (lop_indexAddr_sl (i := 0) (n := 4) (cs := [i64 v.home, i64 (hN v.id nodes 0), i64 v.home, i64 (hN v.id nodes 1), i64 v.mate, i64 (hN v.id nodes 0), i64 v.mate, i64 (hN v.id nodes 1)]) (ys := [i64 v.home, i64 (hN v.id nodes 0), i64 v.home, i64 (hN v.id nodes 1), i64 v.mate, i64 (hN v.id nodes 0), i64 v.mate, i64 (hN v.id nodes 1)]) rfl rfl Try.underlying30 Try.sizeOf41 rfl (by decide) rfl (by intro h; cases h)) ?_
                          first
                            | refine dy1 rfl rfl rfl rfl rfl (lop_load_rf_agg (ys := [.int _ _, .int _ _]) rfl rfl Try.isAgg41 Try.sizeOf41 (Nat.le_of_ble_eq_true rfl) rfl) ?_
                            | refine dy1 rfl rfl rfl rfl rfl (lop_load_fp_agg (ys := [.int _ _, .int _ _]) rfl Try.isAgg41 Try.sizeOf41 (Nat.le_of_ble_eq_true rfl) rfl) ?_
                          first
                            | refine dy1 rfl rfl rfl rfl rfl (lop_move (v := .sl _ _) rfl) ?_
                            | refine dy1 rfl rfl rfl rfl rfl (lop_move (v := .os _ _ _ _) rfl) ?_
                            | refine dy1 rfl rfl rfl rfl rfl (lop_move (v := .z0) rfl) ?_
                          refine dy1 rfl rfl rfl rfl rfl (lop_indexAddr_sl (i := 1) (n := 4) (cs := [i64 v.home, i64 (hN v.id nodes 0), i64 v.home, i64 (hN v.id nodes 1), i64 v.mate, i64 (hN v.id nodes 0), i64 v.mate, i64 (hN v.id nodes 1)]) (ys := [i64 v.home, i64 (hN v.id nodes 1), i64 v.mate, i64 (hN v.id nodes 0), i64 v.mate, i64 (hN v.id nodes 1)]) rfl rfl Try.underlying30 Try.sizeOf41 rfl (by decide) rfl (by intro h; cases h)) ?_
                          first
                            | refine dy1 rfl rfl rfl rfl rfl (lop_load_rf_agg (ys := [.int _ _, .int _ _]) rfl rfl Try.isAgg41 Try.sizeOf41 (Nat.le_of_ble_eq_true rfl) rfl) ?_
                            | refine dy1 rfl rfl rfl rfl rfl (lop_load_fp_agg (ys := [.int _ _, .int _ _]) rfl Try.isAgg41 Try.sizeOf41 (Nat.le_of_ble_eq_true rfl) rfl) ?_
                          refine dy1 rfl rfl rfl rfl rfl (lop_aneq rfl rfl rfl rfl eqg41 (ne41 _ _ _ _)) ?_
                          first
                            | refine d1 rfl rfl (lop_pick_t (v := .bool _) rfl rfl rfl) ?_
                            | refine d1 rfl rfl (lop_pick_t (v := .bool _) rfl rfl rfl) ?_
                            | refine d1 rfl rfl (lop_pick_f (v := .bool _) rfl rfl rfl) ?_
                            | refine d1 rfl rfl (lop_pick rfl rfl rfl) ?_
                          refine d1 rfl rfl (lop_move (v := .bool _) rfl) ?_
                          first
                            | refine dsplitP 10 rfl rfl (fun g7_10 p7_10 => ?_) (fun g7_10 p7_10 => ?_)
                            | refine dsplitB 10 rfl rfl (fun g7_10 p7_10 => ?_) (fun g7_10 p7_10 => ?_)
                          · first
                              | refine dy1 rfl rfl g7_10 rfl rfl (lop_move (v := .sl _ _) rfl) ?_
                              | refine dy1 rfl rfl g7_10 rfl rfl (lop_move (v := .os _ _ _ _) rfl) ?_
                              | refine dy1 rfl rfl g7_10 rfl rfl (lop_move (v := .z0) rfl) ?_
                            refine dy1 rfl rfl g7_10 rfl rfl (lop_indexAddr_sl (i := 2) (n := 4) (cs := [i64 v.home, i64 (hN v.id nodes 0), i64 v.home, i64 (hN v.id nodes 1), i64 v.mate, i64 (hN v.id nodes 0), i64 v.mate, i64 (hN v.id nodes 1)]) (ys := [i64 v.mate, i64 (hN v.id nodes 0), i64 v.mate, i64 (hN v.id nodes 1)]) rfl rfl Try.underlying30 Try.sizeOf41 rfl (by decide) rfl (by intro h; cases h)) ?_
                            first
                              | refine dy1 rfl rfl g7_10 rfl rfl (lop_load_rf_agg (ys := [.int _ _, .int _ _]) rfl rfl Try.isAgg41 Try.sizeOf41 (Nat.le_of_ble_eq_true rfl) rfl) ?_
                              | refine dy1 rfl rfl g7_10 rfl rfl (lop_load_fp_agg (ys := [.int _ _, .int _ _]) rfl Try.isAgg41 Try.sizeOf41 (Nat.le_of_ble_eq_true rfl) rfl) ?_
                            first
                              | refine dy1 rfl rfl g7_10 rfl rfl (lop_move (v := .sl _ _) rfl) ?_
                              | refine dy1 rfl rfl g7_10 rfl rfl (lop_move (v := .os _ _ _ _) rfl) ?_
                              | refine dy1 rfl rfl g7_10 rfl rfl (lop_move (v := .z0) rfl) ?_
                            refine dy1 rfl rfl g7_10 rfl rfl (lop_indexAddr_sl (i := 3) (n := 4) (cs := [i64 v.home, i64 (hN v.id nodes 0), i64 v.home, i64 (hN v.id nodes 1), i64 v.mate, i64 (hN v.id nodes 0), i64 v.mate, i64 (hN v.id nodes 1)]) (ys := [i64 v.mate, i64 (hN v.id nodes 1)]) rfl rfl Try.underlying30 Try.sizeOf41 rfl (by decide) rfl (by intro h; cases h)) ?_
                            first
                              | refine dy1 rfl rfl g7_10 rfl rfl (lop_load_rf_agg (ys := [.int _ _, .int _ _]) rfl rfl Try.isAgg41 Try.sizeOf41 (Nat.le_of_ble_eq_true rfl) rfl) ?_
                              | refine dy1 rfl rfl g7_10 rfl rfl (lop_load_fp_agg (ys := [.int _ _, .int _ _]) rfl Try.isAgg41 Try.sizeOf41 (Nat.le_of_ble_eq_true rfl) rfl) ?_
                            refine dy1 rfl rfl g7_10 rfl rfl (lop_aneq rfl rfl rfl rfl eqg41 (ne41 _ _ _ _)) ?_
                            first
                              | refine d1 rfl rfl (lop_pick_t (v := .bool _) rfl rfl rfl) ?_
                              | refine d1 rfl rfl (lop_pick_t (v := .bool _) rfl g7_10 rfl) ?_
                              | refine d1 rfl rfl (lop_pick_t (v := .bool _) rfl rfl rfl) ?_
                              | refine d1 rfl rfl (lop_pick_f (v := .bool _) rfl rfl rfl) ?_
                              | refine d1 rfl rfl (lop_pick rfl rfl rfl) ?_
                            refine d1 rfl rfl (lop_assign (v := .bool _) rfl) ?_
                            refine dr_nil (by kernel_rfl) ?_
                            refine ok_ret ?_
                            first | exact ret_one rfl rfl rfl rfl rfl | exact ret_one rfl rfl rfl rfl (congrArg V.bool (decide_eq_true (fun h => hN_ne (by omega) (by omega) h.2)))
                          · exact absurd (fun h => hN_ne (by omega) (by omega) h.2) p7_10

end Go.Proofs
