/- Chapter 15: walks. Printed by gen.py. -/
import Derived.Test.YtajlkpogccbboaaT15q
set_option linter.unusedVariables false
set_option linter.unusedSimpArgs false
set_option maxRecDepth 100000
namespace Go.Proofs
open Go.Hg

theorem and3_a {a b c : Bool} (h : a = false) : false = (a && b && c) := by rw [h]; rfl
theorem and3_b {a b c : Bool} (h : a = true) (h2 : b = false) : false = (a && b && c) := by rw [h, h2]; rfl
theorem and3_c {a b c : Bool} (h : a = true) (h2 : b = true) : c = (a && b && c) := by rw [h, h2]; rfl
theorem not_no {a : Bool} (h : ¬ (!a) = true) : a = true := by simpa using h
theorem not_f {a : Bool} (h : (!a) = false) : a = true := by simpa using h
theorem not_yes {a : Bool} (h : (!a) = true) : a = false := by simpa using h
theorem may_f1 {c : CmdD} (h : (small c.vol && small c.off && small c.n) = false ∨ (small c.region && small c.mate && small c.idx) = false) : false = mayF c := by
  unfold mayF
  simp only [List.any_cons, List.any_nil, Bool.or_false]
  rcases h with h | h <;> cases h1 : small c.vol <;> cases h2 : small c.off <;> cases h3 : small c.n <;> cases h4 : small c.region <;> cases h5 : small c.mate <;> cases h6 : small c.idx <;> simp_all
theorem may_f2 {c : CmdD} {i : Nat} (h : i < c.places.length) (ho : oddP c.places[i] = true) : false = mayF c := by
  unfold mayF
  rw [List.any_eq_true.2 ⟨_, List.getElem_mem h, ho⟩]
  simp
theorem may_t {c : CmdD} (h : 1 ≤ c.kind ∧ c.kind ≤ 9 ∧ 0 ≤ c.client ∧ c.client ≤ 16 ∧ 0 ≤ c.seq ∧ c.seq ≤ 1073741824 ∧ c.name.size ≤ 16 ∧ c.places.length ≤ 14) (h3 : (small c.vol && small c.off && small c.n) = true) (h4 : (small c.region && small c.mate && small c.idx) = true) (ho : ∀ j, (hj : j < c.places.length) → oddP c.places[j] = false) : true = mayF c := by
  unfold mayF
  have : c.places.any oddP = false := by
    rw [List.any_eq_false]
    intro p hp
    obtain ⟨j, hj, rfl⟩ := List.getElem_of_mem hp
    rw [ho j hj]; simp
  rw [decide_eq_true h, this]
  simp only [Bool.and_eq_true] at h3 h4
  simp [h3.1.1, h3.1.2, h3.2, h4.1.1, h4.1.2, h4.2]

theorem ref15_small_ac (n : Int) : AC Try.prog 21 [i64 n] (.bool (small n)) := by
  refine AC.intro Try.func21 rfl (Nat.le_of_ble_eq_true rfl) ?_
  refine ok_reg ?_
  refine s1 rfl (lop_assign (v := .bool _) rfl) ?_
  refine ops_nil ?_
  refine ok_reg ?_
  refine s1 rfl (lop_move (v := .int _ _) rfl) ?_
  refine s1 rfl (lop_geq rfl rfl) ?_
  refine s1 rfl (lop_move (v := .bool _) rfl) ?_
  first
    | refine gsplitP 2 rfl rfl (fun g1_2 p1_2 => ?_) (fun g1_2 p1_2 => ?_)
    | refine gsplitB 2 rfl rfl (fun g1_2 p1_2 => ?_) (fun g1_2 p1_2 => ?_)
  · refine y1 rfl rfl g1_2 rfl (lop_move (v := .int _ _) rfl) ?_
    refine y1 rfl rfl g1_2 rfl (lop_leq rfl rfl) ?_
    first
      | refine s1 rfl (lop_pick_t (v := .bool _) rfl g1_2 rfl) ?_
      | refine s1 rfl (lop_pick_t (v := .bool _) rfl rfl rfl) ?_
      | refine s1 rfl (lop_pick_f (v := .bool _) rfl rfl rfl) ?_
      | refine s1 rfl (lop_pick rfl rfl rfl) ?_
    refine s1 rfl (lop_assign (v := .bool _) rfl) ?_
    refine ops_nil ?_
    refine ok_ret ?_
    exact ret_one rfl rfl rfl rfl (congrArg V.bool (by unfold small; first | (refine decide_eq_decide.2 ?_; omega) | (refine (decide_eq_false ?_).symm; omega)))
  · refine n1 rfl rfl g1_2 ?_
    refine n1 rfl rfl g1_2 ?_
    first
      | refine s1 rfl (lop_pick_f (v := .bool _) rfl g1_2 rfl) ?_
      | refine s1 rfl (lop_pick_t (v := .bool _) rfl rfl rfl) ?_
      | refine s1 rfl (lop_pick_f (v := .bool _) rfl rfl rfl) ?_
      | refine s1 rfl (lop_pick rfl rfl rfl) ?_
    refine s1 rfl (lop_assign (v := .bool _) rfl) ?_
    refine ops_nil ?_
    refine ok_ret ?_
    exact ret_one rfl rfl rfl rfl (congrArg V.bool (by unfold small; first | (refine decide_eq_decide.2 ?_; omega) | (refine (decide_eq_false ?_).symm; omega)))

set_option maxHeartbeats 1000000 in
theorem ref15_May_ac {c : CmdD} (hc : c.places.length ≤ 549755813888) : AC Try.prog 10 [.agg c.enc] (.bool (mayF c)) := by
  refine AC.intro Try.func10 rfl (Nat.le_of_ble_eq_true rfl) ?_
  refine ok_reg ?_
  first
    | refine s1w rfl (lop_box (t := 1) (v := .agg [.int _ _, .int _ _, .int _ _, .str _, .int _ _, .int _ _, .int _ _, .int _ _, .int _ _, .int _ _, .int _ _, _]) (f := true) (cs := [.int _ _, .int _ _, .int _ _, .str _, .int _ _, .int _ _, .int _ _, .int _ _, .int _ _, .int _ _, .int _ _, _]) rfl rfl rfl rfl (fun h => by cases h)) rfl ?_
    | refine s1w rfl (lop_box (t := 1) (v := .agg [.int _ _, .int _ _, .int _ _, .str _, .int _ _, .int _ _, .int _ _, .int _ _, .int _ _, .int _ _, .int _ _, _]) (f := false) (cs := [.int _ _, .int _ _, .int _ _, .str _, .int _ _, .int _ _, .int _ _, .int _ _, .int _ _, .int _ _, .int _ _, _]) rfl rfl rfl rfl (fun _ => rfl)) rfl ?_
  refine s1 rfl (lop_assign (v := .bool _) rfl) ?_
  refine ops_nil ?_
  refine ok_seq ?_
  refine ok_reg ?_
  first
    | refine s1 rfl (lop_fieldAddr_rf (fo := 0) rfl Try.underlying30 rfl rfl Try.sizeOf3 (by decide)) ?_
    | refine s1 rfl (lop_fieldAddr_fp (fo := 0) rfl Try.underlying30 rfl rfl Try.sizeOf3 (by decide) rfl) ?_
  first
    | refine s1 rfl (lop_load_rf rfl rfl Try.isAgg3 rfl) ?_
    | refine s1 rfl (lop_load_fp rfl Try.isAgg3 rfl) ?_
  refine s1 rfl (lop_lss rfl rfl) ?_
  refine s1 rfl (lop_move (v := .bool _) rfl) ?_
  first
    | refine gsplitP 3 rfl rfl (fun g1_3 p1_3 => ?_) (fun g1_3 p1_3 => ?_)
    | refine gsplitB 3 rfl rfl (fun g1_3 p1_3 => ?_) (fun g1_3 p1_3 => ?_)
  · refine n1 rfl rfl g1_3 ?_
    refine n1 rfl rfl g1_3 ?_
    refine n1 rfl rfl g1_3 ?_
    first
      | refine s1 rfl (lop_pick_t (v := .bool _) rfl g1_3 rfl) ?_
      | refine s1 rfl (lop_pick_t (v := .bool _) rfl rfl rfl) ?_
      | refine s1 rfl (lop_pick_f (v := .bool _) rfl rfl rfl) ?_
      | refine s1 rfl (lop_pick rfl rfl rfl) ?_
    refine s1 rfl (lop_move (v := .bool _) rfl) ?_
    refine n1 rfl rfl rfl ?_
    refine n1 rfl rfl rfl ?_
    refine n1 rfl rfl rfl ?_
    first
      | refine s1 rfl (lop_pick_t (v := .bool _) rfl g1_3 rfl) ?_
      | refine s1 rfl (lop_pick_t (v := .bool _) rfl rfl rfl) ?_
      | refine s1 rfl (lop_pick_t (v := .bool _) rfl rfl rfl) ?_
      | refine s1 rfl (lop_pick_f (v := .bool _) rfl rfl rfl) ?_
      | refine s1 rfl (lop_pick rfl rfl rfl) ?_
    refine s1 rfl (lop_move (v := .bool _) rfl) ?_
    refine n1 rfl rfl rfl ?_
    refine n1 rfl rfl rfl ?_
    refine n1 rfl rfl rfl ?_
    first
      | refine s1 rfl (lop_pick_t (v := .bool _) rfl g1_3 rfl) ?_
      | refine s1 rfl (lop_pick_t (v := .bool _) rfl rfl rfl) ?_
      | refine s1 rfl (lop_pick_t (v := .bool _) rfl rfl rfl) ?_
      | refine s1 rfl (lop_pick_t (v := .bool _) rfl rfl rfl) ?_
      | refine s1 rfl (lop_pick_f (v := .bool _) rfl rfl rfl) ?_
      | refine s1 rfl (lop_pick rfl rfl rfl) ?_
    refine s1 rfl (lop_move (v := .bool _) rfl) ?_
    refine n1 rfl rfl rfl ?_
    refine n1 rfl rfl rfl ?_
    refine n1 rfl rfl rfl ?_
    first
      | refine s1 rfl (lop_pick_t (v := .bool _) rfl g1_3 rfl) ?_
      | refine s1 rfl (lop_pick_t (v := .bool _) rfl rfl rfl) ?_
      | refine s1 rfl (lop_pick_t (v := .bool _) rfl rfl rfl) ?_
      | refine s1 rfl (lop_pick_t (v := .bool _) rfl rfl rfl) ?_
      | refine s1 rfl (lop_pick_t (v := .bool _) rfl rfl rfl) ?_
      | refine s1 rfl (lop_pick_f (v := .bool _) rfl rfl rfl) ?_
      | refine s1 rfl (lop_pick rfl rfl rfl) ?_
    refine s1 rfl (lop_move (v := .bool _) rfl) ?_
    refine n1 rfl rfl rfl ?_
    refine n1 rfl rfl rfl ?_
    refine n1 rfl rfl rfl ?_
    first
      | refine s1 rfl (lop_pick_t (v := .bool _) rfl g1_3 rfl) ?_
      | refine s1 rfl (lop_pick_t (v := .bool _) rfl rfl rfl) ?_
      | refine s1 rfl (lop_pick_t (v := .bool _) rfl rfl rfl) ?_
      | refine s1 rfl (lop_pick_t (v := .bool _) rfl rfl rfl) ?_
      | refine s1 rfl (lop_pick_t (v := .bool _) rfl rfl rfl) ?_
      | refine s1 rfl (lop_pick_t (v := .bool _) rfl rfl rfl) ?_
      | refine s1 rfl (lop_pick_f (v := .bool _) rfl rfl rfl) ?_
      | refine s1 rfl (lop_pick rfl rfl rfl) ?_
    refine s1 rfl (lop_move (v := .bool _) rfl) ?_
    refine n1 rfl rfl rfl ?_
    refine n1 rfl rfl rfl ?_
    refine n1 rfl rfl rfl ?_
    refine n1 rfl rfl rfl ?_
    first
      | refine s1 rfl (lop_pick_t (v := .bool _) rfl g1_3 rfl) ?_
      | refine s1 rfl (lop_pick_t (v := .bool _) rfl rfl rfl) ?_
      | refine s1 rfl (lop_pick_t (v := .bool _) rfl rfl rfl) ?_
      | refine s1 rfl (lop_pick_t (v := .bool _) rfl rfl rfl) ?_
      | refine s1 rfl (lop_pick_t (v := .bool _) rfl rfl rfl) ?_
      | refine s1 rfl (lop_pick_t (v := .bool _) rfl rfl rfl) ?_
      | refine s1 rfl (lop_pick_t (v := .bool _) rfl rfl rfl) ?_
      | refine s1 rfl (lop_pick_f (v := .bool _) rfl rfl rfl) ?_
      | refine s1 rfl (lop_pick rfl rfl rfl) ?_
    refine s1 rfl (lop_move (v := .bool _) rfl) ?_
    refine n1 rfl rfl rfl ?_
    refine n1 rfl rfl rfl ?_
    refine n1 rfl rfl rfl ?_
    refine n1 rfl rfl rfl ?_
    first
      | refine s1 rfl (lop_pick_t (v := .bool _) rfl g1_3 rfl) ?_
      | refine s1 rfl (lop_pick_t (v := .bool _) rfl rfl rfl) ?_
      | refine s1 rfl (lop_pick_t (v := .bool _) rfl rfl rfl) ?_
      | refine s1 rfl (lop_pick_t (v := .bool _) rfl rfl rfl) ?_
      | refine s1 rfl (lop_pick_t (v := .bool _) rfl rfl rfl) ?_
      | refine s1 rfl (lop_pick_t (v := .bool _) rfl rfl rfl) ?_
      | refine s1 rfl (lop_pick_t (v := .bool _) rfl rfl rfl) ?_
      | refine s1 rfl (lop_pick_t (v := .bool _) rfl rfl rfl) ?_
      | refine s1 rfl (lop_pick_f (v := .bool _) rfl rfl rfl) ?_
      | refine s1 rfl (lop_pick rfl rfl rfl) ?_
    refine ops_nil ?_
    refine ok_true rfl rfl ?_
    refine ok_reg ?_
    refine s1 rfl (lop_assign (v := .bool _) rfl) ?_
    refine ops_nil ?_
    refine ok_ret ?_
    first
    | exact ret_one rfl rfl rfl rfl (congrArg V.bool (may_no (by omega)).symm)
    | exact ret_one rfl rfl rfl rfl (congrArg V.bool (may_f2 hri (by unfold oddP; exact decide_eq_true (by omega))))
    | exact ret_one rfl rfl rfl rfl (congrArg V.bool (may_t h1 h3 h4 (fun j hj => hn j hj (by omega))))
    | exact ret_one rfl rfl rfl rfl (congrArg V.bool (may_f1 (.inl (not_yes g5_2))))
    | exact ret_one rfl rfl rfl rfl (congrArg V.bool (may_f1 (.inr (not_yes h_t78))))
  · first
      | refine y1 rfl rfl g1_3 rfl (lop_fieldAddr_rf (fo := 0) rfl Try.underlying30 rfl rfl Try.sizeOf3 (by decide)) ?_
      | refine y1 rfl rfl g1_3 rfl (lop_fieldAddr_fp (fo := 0) rfl Try.underlying30 rfl rfl Try.sizeOf3 (by decide) rfl) ?_
    first
      | refine y1 rfl rfl g1_3 rfl (lop_load_rf rfl rfl Try.isAgg3 rfl) ?_
      | refine y1 rfl rfl g1_3 rfl (lop_load_fp rfl Try.isAgg3 rfl) ?_
    refine y1 rfl rfl g1_3 rfl (lop_gtr rfl rfl) ?_
    first
      | refine s1 rfl (lop_pick_f (v := .bool _) rfl g1_3 rfl) ?_
      | refine s1 rfl (lop_pick_t (v := .bool _) rfl rfl rfl) ?_
      | refine s1 rfl (lop_pick_f (v := .bool _) rfl rfl rfl) ?_
      | refine s1 rfl (lop_pick rfl rfl rfl) ?_
    refine s1 rfl (lop_move (v := .bool _) rfl) ?_
    first
      | refine gsplitP 8 rfl rfl (fun g1_8 p1_8 => ?_) (fun g1_8 p1_8 => ?_)
      | refine gsplitB 8 rfl rfl (fun g1_8 p1_8 => ?_) (fun g1_8 p1_8 => ?_)
    · refine n1 rfl rfl g1_8 ?_
      refine n1 rfl rfl g1_8 ?_
      refine n1 rfl rfl g1_8 ?_
      first
        | refine s1 rfl (lop_pick_f (v := .bool _) rfl g1_3 rfl) ?_
        | refine s1 rfl (lop_pick_t (v := .bool _) rfl g1_8 rfl) ?_
        | refine s1 rfl (lop_pick_t (v := .bool _) rfl rfl rfl) ?_
        | refine s1 rfl (lop_pick_f (v := .bool _) rfl rfl rfl) ?_
        | refine s1 rfl (lop_pick rfl rfl rfl) ?_
      refine s1 rfl (lop_move (v := .bool _) rfl) ?_
      refine n1 rfl rfl rfl ?_
      refine n1 rfl rfl rfl ?_
      refine n1 rfl rfl rfl ?_
      first
        | refine s1 rfl (lop_pick_f (v := .bool _) rfl g1_3 rfl) ?_
        | refine s1 rfl (lop_pick_t (v := .bool _) rfl g1_8 rfl) ?_
        | refine s1 rfl (lop_pick_t (v := .bool _) rfl rfl rfl) ?_
        | refine s1 rfl (lop_pick_t (v := .bool _) rfl rfl rfl) ?_
        | refine s1 rfl (lop_pick_f (v := .bool _) rfl rfl rfl) ?_
        | refine s1 rfl (lop_pick rfl rfl rfl) ?_
      refine s1 rfl (lop_move (v := .bool _) rfl) ?_
      refine n1 rfl rfl rfl ?_
      refine n1 rfl rfl rfl ?_
      refine n1 rfl rfl rfl ?_
      first
        | refine s1 rfl (lop_pick_f (v := .bool _) rfl g1_3 rfl) ?_
        | refine s1 rfl (lop_pick_t (v := .bool _) rfl g1_8 rfl) ?_
        | refine s1 rfl (lop_pick_t (v := .bool _) rfl rfl rfl) ?_
        | refine s1 rfl (lop_pick_t (v := .bool _) rfl rfl rfl) ?_
        | refine s1 rfl (lop_pick_t (v := .bool _) rfl rfl rfl) ?_
        | refine s1 rfl (lop_pick_f (v := .bool _) rfl rfl rfl) ?_
        | refine s1 rfl (lop_pick rfl rfl rfl) ?_
      refine s1 rfl (lop_move (v := .bool _) rfl) ?_
      refine n1 rfl rfl rfl ?_
      refine n1 rfl rfl rfl ?_
      refine n1 rfl rfl rfl ?_
      first
        | refine s1 rfl (lop_pick_f (v := .bool _) rfl g1_3 rfl) ?_
        | refine s1 rfl (lop_pick_t (v := .bool _) rfl g1_8 rfl) ?_
        | refine s1 rfl (lop_pick_t (v := .bool _) rfl rfl rfl) ?_
        | refine s1 rfl (lop_pick_t (v := .bool _) rfl rfl rfl) ?_
        | refine s1 rfl (lop_pick_t (v := .bool _) rfl rfl rfl) ?_
        | refine s1 rfl (lop_pick_t (v := .bool _) rfl rfl rfl) ?_
        | refine s1 rfl (lop_pick_f (v := .bool _) rfl rfl rfl) ?_
        | refine s1 rfl (lop_pick rfl rfl rfl) ?_
      refine s1 rfl (lop_move (v := .bool _) rfl) ?_
      refine n1 rfl rfl rfl ?_
      refine n1 rfl rfl rfl ?_
      refine n1 rfl rfl rfl ?_
      refine n1 rfl rfl rfl ?_
      first
        | refine s1 rfl (lop_pick_f (v := .bool _) rfl g1_3 rfl) ?_
        | refine s1 rfl (lop_pick_t (v := .bool _) rfl g1_8 rfl) ?_
        | refine s1 rfl (lop_pick_t (v := .bool _) rfl rfl rfl) ?_
        | refine s1 rfl (lop_pick_t (v := .bool _) rfl rfl rfl) ?_
        | refine s1 rfl (lop_pick_t (v := .bool _) rfl rfl rfl) ?_
        | refine s1 rfl (lop_pick_t (v := .bool _) rfl rfl rfl) ?_
        | refine s1 rfl (lop_pick_t (v := .bool _) rfl rfl rfl) ?_
        | refine s1 rfl (lop_pick_f (v := .bool _) rfl rfl rfl) ?_
        | refine s1 rfl (lop_pick rfl rfl rfl) ?_
      refine s1 rfl (lop_move (v := .bool _) rfl) ?_
      refine n1 rfl rfl rfl ?_
      refine n1 rfl rfl rfl ?_
      refine n1 rfl rfl rfl ?_
      refine n1 rfl rfl rfl ?_
      first
        | refine s1 rfl (lop_pick_f (v := .bool _) rfl g1_3 rfl) ?_
        | refine s1 rfl (lop_pick_t (v := .bool _) rfl g1_8 rfl) ?_
        | refine s1 rfl (lop_pick_t (v := .bool _) rfl rfl rfl) ?_
        | refine s1 rfl (lop_pick_t (v := .bool _) rfl rfl rfl) ?_
        | refine s1 rfl (lop_pick_t (v := .bool _) rfl rfl rfl) ?_
        | refine s1 rfl (lop_pick_t (v := .bool _) rfl rfl rfl) ?_
        | refine s1 rfl (lop_pick_t (v := .bool _) rfl rfl rfl) ?_
        | refine s1 rfl (lop_pick_t (v := .bool _) rfl rfl rfl) ?_
        | refine s1 rfl (lop_pick_f (v := .bool _) rfl rfl rfl) ?_
        | refine s1 rfl (lop_pick rfl rfl rfl) ?_
      refine ops_nil ?_
      refine ok_true rfl rfl ?_
      refine ok_reg ?_
      refine s1 rfl (lop_assign (v := .bool _) rfl) ?_
      refine ops_nil ?_
      refine ok_ret ?_
      first
      | exact ret_one rfl rfl rfl rfl (congrArg V.bool (may_no (by omega)).symm)
      | exact ret_one rfl rfl rfl rfl (congrArg V.bool (may_f2 hri (by unfold oddP; exact decide_eq_true (by omega))))
      | exact ret_one rfl rfl rfl rfl (congrArg V.bool (may_t h1 h3 h4 (fun j hj => hn j hj (by omega))))
      | exact ret_one rfl rfl rfl rfl (congrArg V.bool (may_f1 (.inl (not_yes g5_2))))
      | exact ret_one rfl rfl rfl rfl (congrArg V.bool (may_f1 (.inr (not_yes h_t78))))
    · first
        | refine y1 rfl rfl g1_8 rfl (lop_fieldAddr_rf (fo := 1) rfl Try.underlying30 rfl rfl Try.sizeOf3 (by decide)) ?_
        | refine y1 rfl rfl g1_8 rfl (lop_fieldAddr_fp (fo := 1) rfl Try.underlying30 rfl rfl Try.sizeOf3 (by decide) rfl) ?_
      first
        | refine y1 rfl rfl g1_8 rfl (lop_load_rf rfl rfl Try.isAgg3 rfl) ?_
        | refine y1 rfl rfl g1_8 rfl (lop_load_fp rfl Try.isAgg3 rfl) ?_
      refine y1 rfl rfl g1_8 rfl (lop_lss rfl rfl) ?_
      first
        | refine s1 rfl (lop_pick_f (v := .bool _) rfl g1_3 rfl) ?_
        | refine s1 rfl (lop_pick_f (v := .bool _) rfl g1_8 rfl) ?_
        | refine s1 rfl (lop_pick_t (v := .bool _) rfl rfl rfl) ?_
        | refine s1 rfl (lop_pick_f (v := .bool _) rfl rfl rfl) ?_
        | refine s1 rfl (lop_pick rfl rfl rfl) ?_
      refine s1 rfl (lop_move (v := .bool _) rfl) ?_
      first
        | refine gsplitP 13 rfl rfl (fun g1_13 p1_13 => ?_) (fun g1_13 p1_13 => ?_)
        | refine gsplitB 13 rfl rfl (fun g1_13 p1_13 => ?_) (fun g1_13 p1_13 => ?_)
      · refine n1 rfl rfl g1_13 ?_
        refine n1 rfl rfl g1_13 ?_
        refine n1 rfl rfl g1_13 ?_
        first
          | refine s1 rfl (lop_pick_f (v := .bool _) rfl g1_3 rfl) ?_
          | refine s1 rfl (lop_pick_f (v := .bool _) rfl g1_8 rfl) ?_
          | refine s1 rfl (lop_pick_t (v := .bool _) rfl g1_13 rfl) ?_
          | refine s1 rfl (lop_pick_t (v := .bool _) rfl rfl rfl) ?_
          | refine s1 rfl (lop_pick_f (v := .bool _) rfl rfl rfl) ?_
          | refine s1 rfl (lop_pick rfl rfl rfl) ?_
        refine s1 rfl (lop_move (v := .bool _) rfl) ?_
        refine n1 rfl rfl rfl ?_
        refine n1 rfl rfl rfl ?_
        refine n1 rfl rfl rfl ?_
        first
          | refine s1 rfl (lop_pick_f (v := .bool _) rfl g1_3 rfl) ?_
          | refine s1 rfl (lop_pick_f (v := .bool _) rfl g1_8 rfl) ?_
          | refine s1 rfl (lop_pick_t (v := .bool _) rfl g1_13 rfl) ?_
          | refine s1 rfl (lop_pick_t (v := .bool _) rfl rfl rfl) ?_
          | refine s1 rfl (lop_pick_t (v := .bool _) rfl rfl rfl) ?_
          | refine s1 rfl (lop_pick_f (v := .bool _) rfl rfl rfl) ?_
          | refine s1 rfl (lop_pick rfl rfl rfl) ?_
        refine s1 rfl (lop_move (v := .bool _) rfl) ?_
        refine n1 rfl rfl rfl ?_
        refine n1 rfl rfl rfl ?_
        refine n1 rfl rfl rfl ?_
        first
          | refine s1 rfl (lop_pick_f (v := .bool _) rfl g1_3 rfl) ?_
          | refine s1 rfl (lop_pick_f (v := .bool _) rfl g1_8 rfl) ?_
          | refine s1 rfl (lop_pick_t (v := .bool _) rfl g1_13 rfl) ?_
          | refine s1 rfl (lop_pick_t (v := .bool _) rfl rfl rfl) ?_
          | refine s1 rfl (lop_pick_t (v := .bool _) rfl rfl rfl) ?_
          | refine s1 rfl (lop_pick_t (v := .bool _) rfl rfl rfl) ?_
          | refine s1 rfl (lop_pick_f (v := .bool _) rfl rfl rfl) ?_
          | refine s1 rfl (lop_pick rfl rfl rfl) ?_
        refine s1 rfl (lop_move (v := .bool _) rfl) ?_
        refine n1 rfl rfl rfl ?_
        refine n1 rfl rfl rfl ?_
        refine n1 rfl rfl rfl ?_
        refine n1 rfl rfl rfl ?_
        first
          | refine s1 rfl (lop_pick_f (v := .bool _) rfl g1_3 rfl) ?_
          | refine s1 rfl (lop_pick_f (v := .bool _) rfl g1_8 rfl) ?_
          | refine s1 rfl (lop_pick_t (v := .bool _) rfl g1_13 rfl) ?_
          | refine s1 rfl (lop_pick_t (v := .bool _) rfl rfl rfl) ?_
          | refine s1 rfl (lop_pick_t (v := .bool _) rfl rfl rfl) ?_
          | refine s1 rfl (lop_pick_t (v := .bool _) rfl rfl rfl) ?_
          | refine s1 rfl (lop_pick_t (v := .bool _) rfl rfl rfl) ?_
          | refine s1 rfl (lop_pick_f (v := .bool _) rfl rfl rfl) ?_
          | refine s1 rfl (lop_pick rfl rfl rfl) ?_
        refine s1 rfl (lop_move (v := .bool _) rfl) ?_
        refine n1 rfl rfl rfl ?_
        refine n1 rfl rfl rfl ?_
        refine n1 rfl rfl rfl ?_
        refine n1 rfl rfl rfl ?_
        first
          | refine s1 rfl (lop_pick_f (v := .bool _) rfl g1_3 rfl) ?_
          | refine s1 rfl (lop_pick_f (v := .bool _) rfl g1_8 rfl) ?_
          | refine s1 rfl (lop_pick_t (v := .bool _) rfl g1_13 rfl) ?_
          | refine s1 rfl (lop_pick_t (v := .bool _) rfl rfl rfl) ?_
          | refine s1 rfl (lop_pick_t (v := .bool _) rfl rfl rfl) ?_
          | refine s1 rfl (lop_pick_t (v := .bool _) rfl rfl rfl) ?_
          | refine s1 rfl (lop_pick_t (v := .bool _) rfl rfl rfl) ?_
          | refine s1 rfl (lop_pick_t (v := .bool _) rfl rfl rfl) ?_
          | refine s1 rfl (lop_pick_f (v := .bool _) rfl rfl rfl) ?_
          | refine s1 rfl (lop_pick rfl rfl rfl) ?_
        refine ops_nil ?_
        refine ok_true rfl rfl ?_
        refine ok_reg ?_
        refine s1 rfl (lop_assign (v := .bool _) rfl) ?_
        refine ops_nil ?_
        refine ok_ret ?_
        first
        | exact ret_one rfl rfl rfl rfl (congrArg V.bool (may_no (by omega)).symm)
        | exact ret_one rfl rfl rfl rfl (congrArg V.bool (may_f2 hri (by unfold oddP; exact decide_eq_true (by omega))))
        | exact ret_one rfl rfl rfl rfl (congrArg V.bool (may_t h1 h3 h4 (fun j hj => hn j hj (by omega))))
        | exact ret_one rfl rfl rfl rfl (congrArg V.bool (may_f1 (.inl (not_yes g5_2))))
        | exact ret_one rfl rfl rfl rfl (congrArg V.bool (may_f1 (.inr (not_yes h_t78))))
      · first
          | refine y1 rfl rfl g1_13 rfl (lop_fieldAddr_rf (fo := 1) rfl Try.underlying30 rfl rfl Try.sizeOf3 (by decide)) ?_
          | refine y1 rfl rfl g1_13 rfl (lop_fieldAddr_fp (fo := 1) rfl Try.underlying30 rfl rfl Try.sizeOf3 (by decide) rfl) ?_
        first
          | refine y1 rfl rfl g1_13 rfl (lop_load_rf rfl rfl Try.isAgg3 rfl) ?_
          | refine y1 rfl rfl g1_13 rfl (lop_load_fp rfl Try.isAgg3 rfl) ?_
        refine y1 rfl rfl g1_13 rfl (lop_gtr rfl rfl) ?_
        first
          | refine s1 rfl (lop_pick_f (v := .bool _) rfl g1_3 rfl) ?_
          | refine s1 rfl (lop_pick_f (v := .bool _) rfl g1_8 rfl) ?_
          | refine s1 rfl (lop_pick_f (v := .bool _) rfl g1_13 rfl) ?_
          | refine s1 rfl (lop_pick_t (v := .bool _) rfl rfl rfl) ?_
          | refine s1 rfl (lop_pick_f (v := .bool _) rfl rfl rfl) ?_
          | refine s1 rfl (lop_pick rfl rfl rfl) ?_
        refine s1 rfl (lop_move (v := .bool _) rfl) ?_
        first
          | refine gsplitP 18 rfl rfl (fun g1_18 p1_18 => ?_) (fun g1_18 p1_18 => ?_)
          | refine gsplitB 18 rfl rfl (fun g1_18 p1_18 => ?_) (fun g1_18 p1_18 => ?_)
        · refine n1 rfl rfl g1_18 ?_
          refine n1 rfl rfl g1_18 ?_
          refine n1 rfl rfl g1_18 ?_
          first
            | refine s1 rfl (lop_pick_f (v := .bool _) rfl g1_3 rfl) ?_
            | refine s1 rfl (lop_pick_f (v := .bool _) rfl g1_8 rfl) ?_
            | refine s1 rfl (lop_pick_f (v := .bool _) rfl g1_13 rfl) ?_
            | refine s1 rfl (lop_pick_t (v := .bool _) rfl g1_18 rfl) ?_
            | refine s1 rfl (lop_pick_t (v := .bool _) rfl rfl rfl) ?_
            | refine s1 rfl (lop_pick_f (v := .bool _) rfl rfl rfl) ?_
            | refine s1 rfl (lop_pick rfl rfl rfl) ?_
          refine s1 rfl (lop_move (v := .bool _) rfl) ?_
          refine n1 rfl rfl rfl ?_
          refine n1 rfl rfl rfl ?_
          refine n1 rfl rfl rfl ?_
          first
            | refine s1 rfl (lop_pick_f (v := .bool _) rfl g1_3 rfl) ?_
            | refine s1 rfl (lop_pick_f (v := .bool _) rfl g1_8 rfl) ?_
            | refine s1 rfl (lop_pick_f (v := .bool _) rfl g1_13 rfl) ?_
            | refine s1 rfl (lop_pick_t (v := .bool _) rfl g1_18 rfl) ?_
            | refine s1 rfl (lop_pick_t (v := .bool _) rfl rfl rfl) ?_
            | refine s1 rfl (lop_pick_t (v := .bool _) rfl rfl rfl) ?_
            | refine s1 rfl (lop_pick_f (v := .bool _) rfl rfl rfl) ?_
            | refine s1 rfl (lop_pick rfl rfl rfl) ?_
          refine s1 rfl (lop_move (v := .bool _) rfl) ?_
          refine n1 rfl rfl rfl ?_
          refine n1 rfl rfl rfl ?_
          refine n1 rfl rfl rfl ?_
          refine n1 rfl rfl rfl ?_
          first
            | refine s1 rfl (lop_pick_f (v := .bool _) rfl g1_3 rfl) ?_
            | refine s1 rfl (lop_pick_f (v := .bool _) rfl g1_8 rfl) ?_
            | refine s1 rfl (lop_pick_f (v := .bool _) rfl g1_13 rfl) ?_
            | refine s1 rfl (lop_pick_t (v := .bool _) rfl g1_18 rfl) ?_
            | refine s1 rfl (lop_pick_t (v := .bool _) rfl rfl rfl) ?_
            | refine s1 rfl (lop_pick_t (v := .bool _) rfl rfl rfl) ?_
            | refine s1 rfl (lop_pick_t (v := .bool _) rfl rfl rfl) ?_
            | refine s1 rfl (lop_pick_f (v := .bool _) rfl rfl rfl) ?_
            | refine s1 rfl (lop_pick rfl rfl rfl) ?_
          refine s1 rfl (lop_move (v := .bool _) rfl) ?_
          refine n1 rfl rfl rfl ?_
          refine n1 rfl rfl rfl ?_
          refine n1 rfl rfl rfl ?_
          refine n1 rfl rfl rfl ?_
          first
            | refine s1 rfl (lop_pick_f (v := .bool _) rfl g1_3 rfl) ?_
            | refine s1 rfl (lop_pick_f (v := .bool _) rfl g1_8 rfl) ?_
            | refine s1 rfl (lop_pick_f (v := .bool _) rfl g1_13 rfl) ?_
            | refine s1 rfl (lop_pick_t (v := .bool _) rfl g1_18 rfl) ?_
            | refine s1 rfl (lop_pick_t (v := .bool _) rfl rfl rfl) ?_
            | refine s1 rfl (lop_pick_t (v := .bool _) rfl rfl rfl) ?_
            | refine s1 rfl (lop_pick_t (v := .bool _) rfl rfl rfl) ?_
            | refine s1 rfl (lop_pick_t (v := .bool _) rfl rfl rfl) ?_
            | refine s1 rfl (lop_pick_f (v := .bool _) rfl rfl rfl) ?_
            | refine s1 rfl (lop_pick rfl rfl rfl) ?_
          refine ops_nil ?_
          refine ok_true rfl rfl ?_
          refine ok_reg ?_
          refine s1 rfl (lop_assign (v := .bool _) rfl) ?_
          refine ops_nil ?_
          refine ok_ret ?_
          first
          | exact ret_one rfl rfl rfl rfl (congrArg V.bool (may_no (by omega)).symm)
          | exact ret_one rfl rfl rfl rfl (congrArg V.bool (may_f2 hri (by unfold oddP; exact decide_eq_true (by omega))))
          | exact ret_one rfl rfl rfl rfl (congrArg V.bool (may_t h1 h3 h4 (fun j hj => hn j hj (by omega))))
          | exact ret_one rfl rfl rfl rfl (congrArg V.bool (may_f1 (.inl (not_yes g5_2))))
          | exact ret_one rfl rfl rfl rfl (congrArg V.bool (may_f1 (.inr (not_yes h_t78))))
        · first
            | refine y1 rfl rfl g1_18 rfl (lop_fieldAddr_rf (fo := 2) rfl Try.underlying30 rfl rfl Try.sizeOf3 (by decide)) ?_
            | refine y1 rfl rfl g1_18 rfl (lop_fieldAddr_fp (fo := 2) rfl Try.underlying30 rfl rfl Try.sizeOf3 (by decide) rfl) ?_
          first
            | refine y1 rfl rfl g1_18 rfl (lop_load_rf rfl rfl Try.isAgg3 rfl) ?_
            | refine y1 rfl rfl g1_18 rfl (lop_load_fp rfl Try.isAgg3 rfl) ?_
          refine y1 rfl rfl g1_18 rfl (lop_lss rfl rfl) ?_
          first
            | refine s1 rfl (lop_pick_f (v := .bool _) rfl g1_3 rfl) ?_
            | refine s1 rfl (lop_pick_f (v := .bool _) rfl g1_8 rfl) ?_
            | refine s1 rfl (lop_pick_f (v := .bool _) rfl g1_13 rfl) ?_
            | refine s1 rfl (lop_pick_f (v := .bool _) rfl g1_18 rfl) ?_
            | refine s1 rfl (lop_pick_t (v := .bool _) rfl rfl rfl) ?_
            | refine s1 rfl (lop_pick_f (v := .bool _) rfl rfl rfl) ?_
            | refine s1 rfl (lop_pick rfl rfl rfl) ?_
          refine s1 rfl (lop_move (v := .bool _) rfl) ?_
          first
            | refine gsplitP 23 rfl rfl (fun g1_23 p1_23 => ?_) (fun g1_23 p1_23 => ?_)
            | refine gsplitB 23 rfl rfl (fun g1_23 p1_23 => ?_) (fun g1_23 p1_23 => ?_)
          · refine n1 rfl rfl g1_23 ?_
            refine n1 rfl rfl g1_23 ?_
            refine n1 rfl rfl g1_23 ?_
            first
              | refine s1 rfl (lop_pick_f (v := .bool _) rfl g1_3 rfl) ?_
              | refine s1 rfl (lop_pick_f (v := .bool _) rfl g1_8 rfl) ?_
              | refine s1 rfl (lop_pick_f (v := .bool _) rfl g1_13 rfl) ?_
              | refine s1 rfl (lop_pick_f (v := .bool _) rfl g1_18 rfl) ?_
              | refine s1 rfl (lop_pick_t (v := .bool _) rfl g1_23 rfl) ?_
              | refine s1 rfl (lop_pick_t (v := .bool _) rfl rfl rfl) ?_
              | refine s1 rfl (lop_pick_f (v := .bool _) rfl rfl rfl) ?_
              | refine s1 rfl (lop_pick rfl rfl rfl) ?_
            refine s1 rfl (lop_move (v := .bool _) rfl) ?_
            refine n1 rfl rfl rfl ?_
            refine n1 rfl rfl rfl ?_
            refine n1 rfl rfl rfl ?_
            refine n1 rfl rfl rfl ?_
            first
              | refine s1 rfl (lop_pick_f (v := .bool _) rfl g1_3 rfl) ?_
              | refine s1 rfl (lop_pick_f (v := .bool _) rfl g1_8 rfl) ?_
              | refine s1 rfl (lop_pick_f (v := .bool _) rfl g1_13 rfl) ?_
              | refine s1 rfl (lop_pick_f (v := .bool _) rfl g1_18 rfl) ?_
              | refine s1 rfl (lop_pick_t (v := .bool _) rfl g1_23 rfl) ?_
              | refine s1 rfl (lop_pick_t (v := .bool _) rfl rfl rfl) ?_
              | refine s1 rfl (lop_pick_t (v := .bool _) rfl rfl rfl) ?_
              | refine s1 rfl (lop_pick_f (v := .bool _) rfl rfl rfl) ?_
              | refine s1 rfl (lop_pick rfl rfl rfl) ?_
            refine s1 rfl (lop_move (v := .bool _) rfl) ?_
            refine n1 rfl rfl rfl ?_
            refine n1 rfl rfl rfl ?_
            refine n1 rfl rfl rfl ?_
            refine n1 rfl rfl rfl ?_
            first
              | refine s1 rfl (lop_pick_f (v := .bool _) rfl g1_3 rfl) ?_
              | refine s1 rfl (lop_pick_f (v := .bool _) rfl g1_8 rfl) ?_
              | refine s1 rfl (lop_pick_f (v := .bool _) rfl g1_13 rfl) ?_
              | refine s1 rfl (lop_pick_f (v := .bool _) rfl g1_18 rfl) ?_
              | refine s1 rfl (lop_pick_t (v := .bool _) rfl g1_23 rfl) ?_
              | refine s1 rfl (lop_pick_t (v := .bool _) rfl rfl rfl) ?_
              | refine s1 rfl (lop_pick_t (v := .bool _) rfl rfl rfl) ?_
              | refine s1 rfl (lop_pick_t (v := .bool _) rfl rfl rfl) ?_
              | refine s1 rfl (lop_pick_f (v := .bool _) rfl rfl rfl) ?_
              | refine s1 rfl (lop_pick rfl rfl rfl) ?_
            refine ops_nil ?_
            refine ok_true rfl rfl ?_
            refine ok_reg ?_
            refine s1 rfl (lop_assign (v := .bool _) rfl) ?_
            refine ops_nil ?_
            refine ok_ret ?_
            first
            | exact ret_one rfl rfl rfl rfl (congrArg V.bool (may_no (by omega)).symm)
            | exact ret_one rfl rfl rfl rfl (congrArg V.bool (may_f2 hri (by unfold oddP; exact decide_eq_true (by omega))))
            | exact ret_one rfl rfl rfl rfl (congrArg V.bool (may_t h1 h3 h4 (fun j hj => hn j hj (by omega))))
            | exact ret_one rfl rfl rfl rfl (congrArg V.bool (may_f1 (.inl (not_yes g5_2))))
            | exact ret_one rfl rfl rfl rfl (congrArg V.bool (may_f1 (.inr (not_yes h_t78))))
          · first
              | refine y1 rfl rfl g1_23 rfl (lop_fieldAddr_rf (fo := 2) rfl Try.underlying30 rfl rfl Try.sizeOf3 (by decide)) ?_
              | refine y1 rfl rfl g1_23 rfl (lop_fieldAddr_fp (fo := 2) rfl Try.underlying30 rfl rfl Try.sizeOf3 (by decide) rfl) ?_
            first
              | refine y1 rfl rfl g1_23 rfl (lop_load_rf rfl rfl Try.isAgg3 rfl) ?_
              | refine y1 rfl rfl g1_23 rfl (lop_load_fp rfl Try.isAgg3 rfl) ?_
            refine y1 rfl rfl g1_23 rfl (lop_gtr rfl rfl) ?_
            first
              | refine s1 rfl (lop_pick_f (v := .bool _) rfl g1_3 rfl) ?_
              | refine s1 rfl (lop_pick_f (v := .bool _) rfl g1_8 rfl) ?_
              | refine s1 rfl (lop_pick_f (v := .bool _) rfl g1_13 rfl) ?_
              | refine s1 rfl (lop_pick_f (v := .bool _) rfl g1_18 rfl) ?_
              | refine s1 rfl (lop_pick_f (v := .bool _) rfl g1_23 rfl) ?_
              | refine s1 rfl (lop_pick_t (v := .bool _) rfl rfl rfl) ?_
              | refine s1 rfl (lop_pick_f (v := .bool _) rfl rfl rfl) ?_
              | refine s1 rfl (lop_pick rfl rfl rfl) ?_
            refine s1 rfl (lop_move (v := .bool _) rfl) ?_
            first
              | refine gsplitP 28 rfl rfl (fun g1_28 p1_28 => ?_) (fun g1_28 p1_28 => ?_)
              | refine gsplitB 28 rfl rfl (fun g1_28 p1_28 => ?_) (fun g1_28 p1_28 => ?_)
            · refine n1 rfl rfl g1_28 ?_
              refine n1 rfl rfl g1_28 ?_
              refine n1 rfl rfl g1_28 ?_
              refine n1 rfl rfl g1_28 ?_
              first
                | refine s1 rfl (lop_pick_f (v := .bool _) rfl g1_3 rfl) ?_
                | refine s1 rfl (lop_pick_f (v := .bool _) rfl g1_8 rfl) ?_
                | refine s1 rfl (lop_pick_f (v := .bool _) rfl g1_13 rfl) ?_
                | refine s1 rfl (lop_pick_f (v := .bool _) rfl g1_18 rfl) ?_
                | refine s1 rfl (lop_pick_f (v := .bool _) rfl g1_23 rfl) ?_
                | refine s1 rfl (lop_pick_t (v := .bool _) rfl g1_28 rfl) ?_
                | refine s1 rfl (lop_pick_t (v := .bool _) rfl rfl rfl) ?_
                | refine s1 rfl (lop_pick_f (v := .bool _) rfl rfl rfl) ?_
                | refine s1 rfl (lop_pick rfl rfl rfl) ?_
              refine s1 rfl (lop_move (v := .bool _) rfl) ?_
              refine n1 rfl rfl rfl ?_
              refine n1 rfl rfl rfl ?_
              refine n1 rfl rfl rfl ?_
              refine n1 rfl rfl rfl ?_
              first
                | refine s1 rfl (lop_pick_f (v := .bool _) rfl g1_3 rfl) ?_
                | refine s1 rfl (lop_pick_f (v := .bool _) rfl g1_8 rfl) ?_
                | refine s1 rfl (lop_pick_f (v := .bool _) rfl g1_13 rfl) ?_
                | refine s1 rfl (lop_pick_f (v := .bool _) rfl g1_18 rfl) ?_
                | refine s1 rfl (lop_pick_f (v := .bool _) rfl g1_23 rfl) ?_
                | refine s1 rfl (lop_pick_t (v := .bool _) rfl g1_28 rfl) ?_
                | refine s1 rfl (lop_pick_t (v := .bool _) rfl rfl rfl) ?_
                | refine s1 rfl (lop_pick_t (v := .bool _) rfl rfl rfl) ?_
                | refine s1 rfl (lop_pick_f (v := .bool _) rfl rfl rfl) ?_
                | refine s1 rfl (lop_pick rfl rfl rfl) ?_
              refine ops_nil ?_
              refine ok_true rfl rfl ?_
              refine ok_reg ?_
              refine s1 rfl (lop_assign (v := .bool _) rfl) ?_
              refine ops_nil ?_
              refine ok_ret ?_
              first
              | exact ret_one rfl rfl rfl rfl (congrArg V.bool (may_no (by omega)).symm)
              | exact ret_one rfl rfl rfl rfl (congrArg V.bool (may_f2 hri (by unfold oddP; exact decide_eq_true (by omega))))
              | exact ret_one rfl rfl rfl rfl (congrArg V.bool (may_t h1 h3 h4 (fun j hj => hn j hj (by omega))))
              | exact ret_one rfl rfl rfl rfl (congrArg V.bool (may_f1 (.inl (not_yes g5_2))))
              | exact ret_one rfl rfl rfl rfl (congrArg V.bool (may_f1 (.inr (not_yes h_t78))))
            · first
                | refine y1 rfl rfl g1_28 rfl (lop_fieldAddr_rf (fo := 3) rfl Try.underlying30 rfl rfl Try.sizeOf9 (by decide)) ?_
                | refine y1 rfl rfl g1_28 rfl (lop_fieldAddr_fp (fo := 3) rfl Try.underlying30 rfl rfl Try.sizeOf9 (by decide) rfl) ?_
              first
                | refine y1 rfl rfl g1_28 rfl (lop_load_rf rfl rfl Try.isAgg9 rfl) ?_
                | refine y1 rfl rfl g1_28 rfl (lop_load_fp rfl Try.isAgg9 rfl) ?_
              refine y1 rfl rfl g1_28 rfl (lop_len rfl Try.underlying9 ⟨rfl, rfl⟩) ?_
              refine y1 rfl rfl g1_28 rfl (lop_gtr rfl rfl) ?_
              first
                | refine s1 rfl (lop_pick_f (v := .bool _) rfl g1_3 rfl) ?_
                | refine s1 rfl (lop_pick_f (v := .bool _) rfl g1_8 rfl) ?_
                | refine s1 rfl (lop_pick_f (v := .bool _) rfl g1_13 rfl) ?_
                | refine s1 rfl (lop_pick_f (v := .bool _) rfl g1_18 rfl) ?_
                | refine s1 rfl (lop_pick_f (v := .bool _) rfl g1_23 rfl) ?_
                | refine s1 rfl (lop_pick_f (v := .bool _) rfl g1_28 rfl) ?_
                | refine s1 rfl (lop_pick_t (v := .bool _) rfl rfl rfl) ?_
                | refine s1 rfl (lop_pick_f (v := .bool _) rfl rfl rfl) ?_
                | refine s1 rfl (lop_pick rfl rfl rfl) ?_
              refine s1 rfl (lop_move (v := .bool _) rfl) ?_
              first
                | refine gsplitP 34 rfl rfl (fun g1_34 p1_34 => ?_) (fun g1_34 p1_34 => ?_)
                | refine gsplitB 34 rfl rfl (fun g1_34 p1_34 => ?_) (fun g1_34 p1_34 => ?_)
              · refine n1 rfl rfl g1_34 ?_
                refine n1 rfl rfl g1_34 ?_
                refine n1 rfl rfl g1_34 ?_
                refine n1 rfl rfl g1_34 ?_
                first
                  | refine s1 rfl (lop_pick_f (v := .bool _) rfl g1_3 rfl) ?_
                  | refine s1 rfl (lop_pick_f (v := .bool _) rfl g1_8 rfl) ?_
                  | refine s1 rfl (lop_pick_f (v := .bool _) rfl g1_13 rfl) ?_
                  | refine s1 rfl (lop_pick_f (v := .bool _) rfl g1_18 rfl) ?_
                  | refine s1 rfl (lop_pick_f (v := .bool _) rfl g1_23 rfl) ?_
                  | refine s1 rfl (lop_pick_f (v := .bool _) rfl g1_28 rfl) ?_
                  | refine s1 rfl (lop_pick_t (v := .bool _) rfl g1_34 rfl) ?_
                  | refine s1 rfl (lop_pick_t (v := .bool _) rfl rfl rfl) ?_
                  | refine s1 rfl (lop_pick_f (v := .bool _) rfl rfl rfl) ?_
                  | refine s1 rfl (lop_pick rfl rfl rfl) ?_
                refine ops_nil ?_
                refine ok_true rfl rfl ?_
                refine ok_reg ?_
                refine s1 rfl (lop_assign (v := .bool _) rfl) ?_
                refine ops_nil ?_
                refine ok_ret ?_
                first
                | exact ret_one rfl rfl rfl rfl (congrArg V.bool (may_no (by omega)).symm)
                | exact ret_one rfl rfl rfl rfl (congrArg V.bool (may_f2 hri (by unfold oddP; exact decide_eq_true (by omega))))
                | exact ret_one rfl rfl rfl rfl (congrArg V.bool (may_t h1 h3 h4 (fun j hj => hn j hj (by omega))))
                | exact ret_one rfl rfl rfl rfl (congrArg V.bool (may_f1 (.inl (not_yes g5_2))))
                | exact ret_one rfl rfl rfl rfl (congrArg V.bool (may_f1 (.inr (not_yes h_t78))))
              · first
                  | refine y1 rfl rfl g1_34 rfl (lop_fieldAddr_rf (fo := 11) rfl Try.underlying30 rfl rfl Try.sizeOf28 (by decide)) ?_
                  | refine y1 rfl rfl g1_34 rfl (lop_fieldAddr_fp (fo := 11) rfl Try.underlying30 rfl rfl Try.sizeOf28 (by decide) rfl) ?_
                first
                  | refine y1 rfl rfl g1_34 rfl (lop_load_rf rfl rfl Try.isAgg28 rfl) ?_
                  | refine y1 rfl rfl g1_34 rfl (lop_load_fp rfl Try.isAgg28 rfl) ?_
                refine y1 rfl rfl g1_34 rfl (lop_len rfl Try.underlying28 ⟨⟨_, rfl⟩, rfl⟩) ?_
                refine y1 rfl rfl g1_34 rfl (lop_gtr rfl rfl) ?_
                first
                  | refine s1 rfl (lop_pick_f (v := .bool _) rfl g1_3 rfl) ?_
                  | refine s1 rfl (lop_pick_f (v := .bool _) rfl g1_8 rfl) ?_
                  | refine s1 rfl (lop_pick_f (v := .bool _) rfl g1_13 rfl) ?_
                  | refine s1 rfl (lop_pick_f (v := .bool _) rfl g1_18 rfl) ?_
                  | refine s1 rfl (lop_pick_f (v := .bool _) rfl g1_23 rfl) ?_
                  | refine s1 rfl (lop_pick_f (v := .bool _) rfl g1_28 rfl) ?_
                  | refine s1 rfl (lop_pick_f (v := .bool _) rfl g1_34 rfl) ?_
                  | refine s1 rfl (lop_pick_t (v := .bool _) rfl rfl rfl) ?_
                  | refine s1 rfl (lop_pick_f (v := .bool _) rfl rfl rfl) ?_
                  | refine s1 rfl (lop_pick rfl rfl rfl) ?_
                refine ops_nil ?_
                first
                  | refine ok_if _ rfl rfl (fun h_t46 => ?_) (fun h_t46 => ?_)
                  | refine ok_cond rfl rfl (fun h_t46 => ?_) (fun h_t46 => ?_)
                · refine ok_reg ?_
                  refine s1 rfl (lop_assign (v := .bool _) rfl) ?_
                  refine ops_nil ?_
                  refine ok_ret ?_
                  first
                  | exact ret_one rfl rfl rfl rfl (congrArg V.bool (may_no (by omega)).symm)
                  | exact ret_one rfl rfl rfl rfl (congrArg V.bool (may_f2 hri (by unfold oddP; exact decide_eq_true (by omega))))
                  | exact ret_one rfl rfl rfl rfl (congrArg V.bool (may_t h1 h3 h4 (fun j hj => hn j hj (by omega))))
                  | exact ret_one rfl rfl rfl rfl (congrArg V.bool (may_f1 (.inl (not_yes g5_2))))
                  | exact ret_one rfl rfl rfl rfl (congrArg V.bool (may_f1 (.inr (not_yes h_t78))))
                · have h1 : 1 ≤ c.kind ∧ c.kind ≤ 9 ∧ 0 ≤ c.client ∧ c.client ≤ 16 ∧ 0 ≤ c.seq ∧ c.seq ≤ 1073741824 ∧ c.name.size ≤ 16 ∧ c.places.length ≤ 14 := by omega
                  refine ok_skip ?_
                  refine ok_seq_cut (ι := Unit) (fun _ => ⟨[(1, .rf 1 0), (3, .bool (small c.vol && small c.off && small c.n))], [(1, some (true, c.enc))], 109⟩) ?_ ?_
                  · refine ok_region ?_
                    first
                      | refine s1 rfl (lop_fieldAddr_rf (fo := 4) rfl Try.underlying30 rfl rfl Try.sizeOf3 (by decide)) ?_
                      | refine s1 rfl (lop_fieldAddr_fp (fo := 4) rfl Try.underlying30 rfl rfl Try.sizeOf3 (by decide) rfl) ?_
                    first
                      | refine s1 rfl (lop_load_rf rfl rfl Try.isAgg3 rfl) ?_
                      | refine s1 rfl (lop_load_fp rfl Try.isAgg3 rfl) ?_
                    refine s1 rfl (lop_call rfl Try.call21 (FrzL.tf rfl) (.inl rfl) (ref15_small_ac c.vol)) ?_
                    refine s1 rfl (lop_move (v := .bool _) rfl) ?_
                    first
                      | refine gsplitP 3 rfl rfl (fun g3_3 p3_3 => ?_) (fun g3_3 p3_3 => ?_)
                      | refine gsplitB 3 rfl rfl (fun g3_3 p3_3 => ?_) (fun g3_3 p3_3 => ?_)
                    · first
                        | refine y1 rfl rfl g3_3 rfl (lop_fieldAddr_rf (fo := 5) rfl Try.underlying30 rfl rfl Try.sizeOf3 (by decide)) ?_
                        | refine y1 rfl rfl g3_3 rfl (lop_fieldAddr_fp (fo := 5) rfl Try.underlying30 rfl rfl Try.sizeOf3 (by decide) rfl) ?_
                      first
                        | refine y1 rfl rfl g3_3 rfl (lop_load_rf rfl rfl Try.isAgg3 rfl) ?_
                        | refine y1 rfl rfl g3_3 rfl (lop_load_fp rfl Try.isAgg3 rfl) ?_
                      refine y1 rfl rfl g3_3 rfl (lop_call rfl Try.call21 (FrzL.tf rfl) (.inl rfl) (ref15_small_ac c.off)) ?_
                      first
                        | refine s1 rfl (lop_pick_t (v := .bool _) rfl g3_3 rfl) ?_
                        | refine s1 rfl (lop_pick_t (v := .bool _) rfl rfl rfl) ?_
                        | refine s1 rfl (lop_pick_f (v := .bool _) rfl rfl rfl) ?_
                        | refine s1 rfl (lop_pick rfl rfl rfl) ?_
                      refine s1 rfl (lop_move (v := .bool _) rfl) ?_
                      first
                        | refine gsplitP 8 rfl rfl (fun g3_8 p3_8 => ?_) (fun g3_8 p3_8 => ?_)
                        | refine gsplitB 8 rfl rfl (fun g3_8 p3_8 => ?_) (fun g3_8 p3_8 => ?_)
                      · first
                          | refine y1 rfl rfl g3_8 rfl (lop_fieldAddr_rf (fo := 6) rfl Try.underlying30 rfl rfl Try.sizeOf3 (by decide)) ?_
                          | refine y1 rfl rfl g3_8 rfl (lop_fieldAddr_fp (fo := 6) rfl Try.underlying30 rfl rfl Try.sizeOf3 (by decide) rfl) ?_
                        first
                          | refine y1 rfl rfl g3_8 rfl (lop_load_rf rfl rfl Try.isAgg3 rfl) ?_
                          | refine y1 rfl rfl g3_8 rfl (lop_load_fp rfl Try.isAgg3 rfl) ?_
                        refine y1 rfl rfl g3_8 rfl (lop_call rfl Try.call21 (FrzL.tf rfl) (.inl rfl) (ref15_small_ac c.n)) ?_
                        first
                          | refine s1 rfl (lop_pick_t (v := .bool _) rfl g3_3 rfl) ?_
                          | refine s1 rfl (lop_pick_t (v := .bool _) rfl g3_8 rfl) ?_
                          | refine s1 rfl (lop_pick_t (v := .bool _) rfl rfl rfl) ?_
                          | refine s1 rfl (lop_pick_f (v := .bool _) rfl rfl rfl) ?_
                          | refine s1 rfl (lop_pick rfl rfl rfl) ?_
                        refine s1 rfl (lop_assign (v := .bool _) rfl) ?_
                        refine ops_nil ?_
                        exact ⟨(), le_mk ⟨rfl, by first | rfl | exact congrArg V.bool (and3_c g3_3 g3_8) | exact congrArg V.bool (and3_b g3_3 g3_8) | exact congrArg V.bool (and3_a g3_3), trivial⟩ ⟨.inr rfl, trivial⟩ rfl⟩
                      · refine n1 rfl rfl g3_8 ?_
                        refine n1 rfl rfl g3_8 ?_
                        refine n1 rfl rfl g3_8 ?_
                        first
                          | refine s1 rfl (lop_pick_t (v := .bool _) rfl g3_3 rfl) ?_
                          | refine s1 rfl (lop_pick_f (v := .bool _) rfl g3_8 rfl) ?_
                          | refine s1 rfl (lop_pick_t (v := .bool _) rfl rfl rfl) ?_
                          | refine s1 rfl (lop_pick_f (v := .bool _) rfl rfl rfl) ?_
                          | refine s1 rfl (lop_pick rfl rfl rfl) ?_
                        refine s1 rfl (lop_assign (v := .bool _) rfl) ?_
                        refine ops_nil ?_
                        exact ⟨(), le_mk ⟨rfl, by first | rfl | exact congrArg V.bool (and3_c g3_3 g3_8) | exact congrArg V.bool (and3_b g3_3 g3_8) | exact congrArg V.bool (and3_a g3_3), trivial⟩ ⟨.inr rfl, trivial⟩ rfl⟩
                    · refine n1 rfl rfl g3_3 ?_
                      refine n1 rfl rfl g3_3 ?_
                      refine n1 rfl rfl g3_3 ?_
                      first
                        | refine s1 rfl (lop_pick_f (v := .bool _) rfl g3_3 rfl) ?_
                        | refine s1 rfl (lop_pick_t (v := .bool _) rfl rfl rfl) ?_
                        | refine s1 rfl (lop_pick_f (v := .bool _) rfl rfl rfl) ?_
                        | refine s1 rfl (lop_pick rfl rfl rfl) ?_
                      refine s1 rfl (lop_move (v := .bool _) rfl) ?_
                      refine n1 rfl rfl rfl ?_
                      refine n1 rfl rfl rfl ?_
                      refine n1 rfl rfl rfl ?_
                      first
                        | refine s1 rfl (lop_pick_f (v := .bool _) rfl g3_3 rfl) ?_
                        | refine s1 rfl (lop_pick_f (v := .bool _) rfl rfl rfl) ?_
                        | refine s1 rfl (lop_pick_t (v := .bool _) rfl rfl rfl) ?_
                        | refine s1 rfl (lop_pick_f (v := .bool _) rfl rfl rfl) ?_
                        | refine s1 rfl (lop_pick rfl rfl rfl) ?_
                      refine s1 rfl (lop_assign (v := .bool _) rfl) ?_
                      refine ops_nil ?_
                      exact ⟨(), le_mk ⟨rfl, by first | rfl | exact congrArg V.bool (and3_c g3_3 g3_8) | exact congrArg V.bool (and3_b g3_3 g3_8) | exact congrArg V.bool (and3_a g3_3), trivial⟩ ⟨.inr rfl, trivial⟩ rfl⟩
                  · rintro ⟨⟩
                    refine ok_seq_cut (ι := Unit) (fun _ => ⟨[(1, .rf 1 0), (3, .bool (small c.vol && small c.off && small c.n)), (4, .bool (small c.region && small c.mate && small c.idx))], [(1, some (true, c.enc))], 109⟩) ?_ ?_
                    · refine ok_region ?_
                      first
                        | refine s1 rfl (lop_fieldAddr_rf (fo := 8) rfl Try.underlying30 rfl rfl Try.sizeOf3 (by decide)) ?_
                        | refine s1 rfl (lop_fieldAddr_fp (fo := 8) rfl Try.underlying30 rfl rfl Try.sizeOf3 (by decide) rfl) ?_
                      first
                        | refine s1 rfl (lop_load_rf rfl rfl Try.isAgg3 rfl) ?_
                        | refine s1 rfl (lop_load_fp rfl Try.isAgg3 rfl) ?_
                      refine s1 rfl (lop_call rfl Try.call21 (FrzL.tf rfl) (.inl rfl) (ref15_small_ac c.region)) ?_
                      refine s1 rfl (lop_move (v := .bool _) rfl) ?_
                      first
                        | refine gsplitP 3 rfl rfl (fun g4_3 p4_3 => ?_) (fun g4_3 p4_3 => ?_)
                        | refine gsplitB 3 rfl rfl (fun g4_3 p4_3 => ?_) (fun g4_3 p4_3 => ?_)
                      · first
                          | refine y1 rfl rfl g4_3 rfl (lop_fieldAddr_rf (fo := 9) rfl Try.underlying30 rfl rfl Try.sizeOf3 (by decide)) ?_
                          | refine y1 rfl rfl g4_3 rfl (lop_fieldAddr_fp (fo := 9) rfl Try.underlying30 rfl rfl Try.sizeOf3 (by decide) rfl) ?_
                        first
                          | refine y1 rfl rfl g4_3 rfl (lop_load_rf rfl rfl Try.isAgg3 rfl) ?_
                          | refine y1 rfl rfl g4_3 rfl (lop_load_fp rfl Try.isAgg3 rfl) ?_
                        refine y1 rfl rfl g4_3 rfl (lop_call rfl Try.call21 (FrzL.tf rfl) (.inl rfl) (ref15_small_ac c.mate)) ?_
                        first
                          | refine s1 rfl (lop_pick_t (v := .bool _) rfl g4_3 rfl) ?_
                          | refine s1 rfl (lop_pick_t (v := .bool _) rfl rfl rfl) ?_
                          | refine s1 rfl (lop_pick_f (v := .bool _) rfl rfl rfl) ?_
                          | refine s1 rfl (lop_pick rfl rfl rfl) ?_
                        refine s1 rfl (lop_move (v := .bool _) rfl) ?_
                        first
                          | refine gsplitP 8 rfl rfl (fun g4_8 p4_8 => ?_) (fun g4_8 p4_8 => ?_)
                          | refine gsplitB 8 rfl rfl (fun g4_8 p4_8 => ?_) (fun g4_8 p4_8 => ?_)
                        · first
                            | refine y1 rfl rfl g4_8 rfl (lop_fieldAddr_rf (fo := 10) rfl Try.underlying30 rfl rfl Try.sizeOf3 (by decide)) ?_
                            | refine y1 rfl rfl g4_8 rfl (lop_fieldAddr_fp (fo := 10) rfl Try.underlying30 rfl rfl Try.sizeOf3 (by decide) rfl) ?_
                          first
                            | refine y1 rfl rfl g4_8 rfl (lop_load_rf rfl rfl Try.isAgg3 rfl) ?_
                            | refine y1 rfl rfl g4_8 rfl (lop_load_fp rfl Try.isAgg3 rfl) ?_
                          refine y1 rfl rfl g4_8 rfl (lop_call rfl Try.call21 (FrzL.tf rfl) (.inl rfl) (ref15_small_ac c.idx)) ?_
                          first
                            | refine s1 rfl (lop_pick_t (v := .bool _) rfl g4_3 rfl) ?_
                            | refine s1 rfl (lop_pick_t (v := .bool _) rfl g4_8 rfl) ?_
                            | refine s1 rfl (lop_pick_t (v := .bool _) rfl rfl rfl) ?_
                            | refine s1 rfl (lop_pick_f (v := .bool _) rfl rfl rfl) ?_
                            | refine s1 rfl (lop_pick rfl rfl rfl) ?_
                          refine s1 rfl (lop_assign (v := .bool _) rfl) ?_
                          refine ops_nil ?_
                          exact ⟨(), le_mk ⟨rfl, rfl, by first | rfl | exact congrArg V.bool (and3_c g4_3 g4_8) | exact congrArg V.bool (and3_b g4_3 g4_8) | exact congrArg V.bool (and3_a g4_3), trivial⟩ ⟨.inr rfl, trivial⟩ rfl⟩
                        · refine n1 rfl rfl g4_8 ?_
                          refine n1 rfl rfl g4_8 ?_
                          refine n1 rfl rfl g4_8 ?_
                          first
                            | refine s1 rfl (lop_pick_t (v := .bool _) rfl g4_3 rfl) ?_
                            | refine s1 rfl (lop_pick_f (v := .bool _) rfl g4_8 rfl) ?_
                            | refine s1 rfl (lop_pick_t (v := .bool _) rfl rfl rfl) ?_
                            | refine s1 rfl (lop_pick_f (v := .bool _) rfl rfl rfl) ?_
                            | refine s1 rfl (lop_pick rfl rfl rfl) ?_
                          refine s1 rfl (lop_assign (v := .bool _) rfl) ?_
                          refine ops_nil ?_
                          exact ⟨(), le_mk ⟨rfl, rfl, by first | rfl | exact congrArg V.bool (and3_c g4_3 g4_8) | exact congrArg V.bool (and3_b g4_3 g4_8) | exact congrArg V.bool (and3_a g4_3), trivial⟩ ⟨.inr rfl, trivial⟩ rfl⟩
                      · refine n1 rfl rfl g4_3 ?_
                        refine n1 rfl rfl g4_3 ?_
                        refine n1 rfl rfl g4_3 ?_
                        first
                          | refine s1 rfl (lop_pick_f (v := .bool _) rfl g4_3 rfl) ?_
                          | refine s1 rfl (lop_pick_t (v := .bool _) rfl rfl rfl) ?_
                          | refine s1 rfl (lop_pick_f (v := .bool _) rfl rfl rfl) ?_
                          | refine s1 rfl (lop_pick rfl rfl rfl) ?_
                        refine s1 rfl (lop_move (v := .bool _) rfl) ?_
                        refine n1 rfl rfl rfl ?_
                        refine n1 rfl rfl rfl ?_
                        refine n1 rfl rfl rfl ?_
                        first
                          | refine s1 rfl (lop_pick_f (v := .bool _) rfl g4_3 rfl) ?_
                          | refine s1 rfl (lop_pick_f (v := .bool _) rfl rfl rfl) ?_
                          | refine s1 rfl (lop_pick_t (v := .bool _) rfl rfl rfl) ?_
                          | refine s1 rfl (lop_pick_f (v := .bool _) rfl rfl rfl) ?_
                          | refine s1 rfl (lop_pick rfl rfl rfl) ?_
                        refine s1 rfl (lop_assign (v := .bool _) rfl) ?_
                        refine ops_nil ?_
                        exact ⟨(), le_mk ⟨rfl, rfl, by first | rfl | exact congrArg V.bool (and3_c g4_3 g4_8) | exact congrArg V.bool (and3_b g4_3 g4_8) | exact congrArg V.bool (and3_a g4_3), trivial⟩ ⟨.inr rfl, trivial⟩ rfl⟩
                    · rintro ⟨⟩
                      refine ok_seq ?_
                      refine ok_reg ?_
                      refine s1 rfl (lop_move (v := .bool _) rfl) ?_
                      refine s1 rfl (lop_not rfl) ?_
                      refine s1 rfl (lop_move (v := .bool _) rfl) ?_
                      first
                        | refine gsplitP 2 rfl rfl (fun g5_2 p5_2 => ?_) (fun g5_2 p5_2 => ?_)
                        | refine gsplitB 2 rfl rfl (fun g5_2 p5_2 => ?_) (fun g5_2 p5_2 => ?_)
                      · refine n1 rfl rfl g5_2 ?_
                        refine n1 rfl rfl g5_2 ?_
                        first
                          | refine s1 rfl (lop_pick_t (v := .bool _) rfl g5_2 rfl) ?_
                          | refine s1 rfl (lop_pick_t (v := .bool _) rfl rfl rfl) ?_
                          | refine s1 rfl (lop_pick_f (v := .bool _) rfl rfl rfl) ?_
                          | refine s1 rfl (lop_pick rfl rfl rfl) ?_
                        refine ops_nil ?_
                        refine ok_true rfl rfl ?_
                        refine ok_reg ?_
                        refine s1 rfl (lop_assign (v := .bool _) rfl) ?_
                        refine ops_nil ?_
                        refine ok_ret ?_
                        first
                        | exact ret_one rfl rfl rfl rfl (congrArg V.bool (may_no (by omega)).symm)
                        | exact ret_one rfl rfl rfl rfl (congrArg V.bool (may_f2 hri (by unfold oddP; exact decide_eq_true (by omega))))
                        | exact ret_one rfl rfl rfl rfl (congrArg V.bool (may_t h1 h3 h4 (fun j hj => hn j hj (by omega))))
                        | exact ret_one rfl rfl rfl rfl (congrArg V.bool (may_f1 (.inl (not_yes g5_2))))
                        | exact ret_one rfl rfl rfl rfl (congrArg V.bool (may_f1 (.inr (not_yes h_t78))))
                      · refine y1 rfl rfl g5_2 rfl (lop_move (v := .bool _) rfl) ?_
                        refine y1 rfl rfl g5_2 rfl (lop_not rfl) ?_
                        first
                          | refine s1 rfl (lop_pick_f (v := .bool _) rfl g5_2 rfl) ?_
                          | refine s1 rfl (lop_pick_t (v := .bool _) rfl rfl rfl) ?_
                          | refine s1 rfl (lop_pick_f (v := .bool _) rfl rfl rfl) ?_
                          | refine s1 rfl (lop_pick rfl rfl rfl) ?_
                        refine ops_nil ?_
                        first
                          | refine ok_if _ rfl rfl (fun h_t78 => ?_) (fun h_t78 => ?_)
                          | refine ok_cond rfl rfl (fun h_t78 => ?_) (fun h_t78 => ?_)
                        · refine ok_reg ?_
                          refine s1 rfl (lop_assign (v := .bool _) rfl) ?_
                          refine ops_nil ?_
                          refine ok_ret ?_
                          first
                          | exact ret_one rfl rfl rfl rfl (congrArg V.bool (may_no (by omega)).symm)
                          | exact ret_one rfl rfl rfl rfl (congrArg V.bool (may_f2 hri (by unfold oddP; exact decide_eq_true (by omega))))
                          | exact ret_one rfl rfl rfl rfl (congrArg V.bool (may_t h1 h3 h4 (fun j hj => hn j hj (by omega))))
                          | exact ret_one rfl rfl rfl rfl (congrArg V.bool (may_f1 (.inl (not_yes g5_2))))
                          | exact ret_one rfl rfl rfl rfl (congrArg V.bool (may_f1 (.inr (not_yes h_t78))))
                        · have h3 : (small c.vol && small c.off && small c.n) = true := not_f g5_2
                          have h4 : (small c.region && small c.mate && small c.idx) = true := not_f h_t78
                          refine ok_skip ?_
                          refine ok_seq ?_
                          refine ok_reg ?_
                          refine s1 rfl (lop_assign (v := .int _ _) rfl) ?_
                          refine ops_nil ?_
                          refine ok_block ?_
                          refine ok_loop (ι := {i : Nat // i ≤ c.places.length ∧ ∀ j, (hj : j < c.places.length) → j < i → oddP c.places[j] = false}) (fun i => ⟨[(1, .rf 1 0), (5, i64 i.1)], [(1, some (true, c.enc))], 109⟩) (fun i => c.places.length - i.1) (⟨0, Nat.zero_le _, fun _ _ h => absurd h (Nat.not_lt_zero _)⟩) ?_ ?_
                          · exact le_mk ⟨rfl, rfl, trivial⟩ ⟨.inr rfl, trivial⟩ rfl
                          rintro ⟨i, hi, hn⟩
                          dsimp only
                          refine ok_seq ?_
                          refine ok_reg ?_
                          refine s1 rfl (lop_move (v := .int _ _) rfl) ?_
                          first
                            | refine s1 rfl (lop_fieldAddr_rf (fo := 11) rfl Try.underlying30 rfl rfl Try.sizeOf28 (by decide)) ?_
                            | refine s1 rfl (lop_fieldAddr_fp (fo := 11) rfl Try.underlying30 rfl rfl Try.sizeOf28 (by decide) rfl) ?_
                          first
                            | refine s1 rfl (lop_load_rf rfl rfl Try.isAgg28 rfl) ?_
                            | refine s1 rfl (lop_load_fp rfl Try.isAgg28 rfl) ?_
                          refine s1 rfl (lop_len rfl Try.underlying28 ⟨⟨_, rfl⟩, rfl⟩) ?_
                          refine s1 rfl (lop_lss rfl rfl) ?_
                          refine ops_nil ?_
                          first
                            | refine ok_if _ rfl rfl (fun h_t83 => ?_) (fun h_t83 => ?_)
                            | refine ok_cond rfl rfl (fun h_t83 => ?_) (fun h_t83 => ?_)
                          · have hri : i < c.places.length := by omega
                            refine ok_skip ?_
                            refine ok_seq ?_
                            refine ok_block ?_
                            refine ok_reg ?_
                            first
                              | refine s1 rfl (lop_fieldAddr_rf (fo := 11) rfl Try.underlying30 rfl rfl Try.sizeOf28 (by decide)) ?_
                              | refine s1 rfl (lop_fieldAddr_fp (fo := 11) rfl Try.underlying30 rfl rfl Try.sizeOf28 (by decide) rfl) ?_
                            first
                              | refine s1 rfl (lop_load_rf rfl rfl Try.isAgg28 rfl) ?_
                              | refine s1 rfl (lop_load_fp rfl Try.isAgg28 rfl) ?_
                            refine s1 rfl (lop_move (v := .int _ _) rfl) ?_
                            first
                              | refine s1 rfl (lop_indexAddr_os rfl rfl Try.underlying28 Try.sizeOf57 rfl hri) ?_
                              | refine s1 rfl (lop_indexAddr_sl rfl rfl Try.underlying28 Try.sizeOf57 rfl hri (flat_at PlD.len hri) (flat_ne PlD.len (by decide) hri)) ?_
                            first
                              | refine s1 rfl (lop_load_rf_agg rfl rfl Try.isAgg57 Try.sizeOf57 (by rw [List.length_append, PlD.len]; omega) (by rw [List.take_append_of_le_length (by rw [PlD.len]; omega), List.take_of_length_le (by rw [PlD.len]; omega)])) ?_
                              | refine s1 rfl (lop_load_fp_agg rfl Try.isAgg57 Try.sizeOf57 (by rw [List.length_append, PlD.len]; omega) (by rw [List.take_append_of_le_length (by rw [PlD.len]; omega), List.take_of_length_le (by rw [PlD.len]; omega)])) ?_
                            refine s1w rfl (lop_new (t := 6) (cs := [.int _ _, .int _ _]) Try.zeroValue57 rfl rfl rfl rfl) rfl ?_
                            first
                              | refine s0w rfl (lop_storeK (v := .agg [.int _ _, .int _ _]) (cs' := [.int _ _, .int _ _]) (f' := true) rfl rfl rfl Try.sizeOf57 rfl rfl rfl rfl rfl) ?_
                              | refine s0w rfl (lop_storeK (v := .agg [.int _ _, .int _ _]) (cs' := [.int _ _, .int _ _]) (f' := false) rfl rfl rfl Try.sizeOf57 rfl rfl rfl rfl rfl) ?_
                            refine ops_nil ?_
                            refine ok_reg ?_
                            first
                              | refine s1 rfl (lop_fieldAddr_rf (fo := 0) rfl Try.underlying57 rfl rfl Try.sizeOf3 (by decide)) ?_
                              | refine s1 rfl (lop_fieldAddr_fp (fo := 0) rfl Try.underlying57 rfl rfl Try.sizeOf3 (by decide) rfl) ?_
                            first
                              | refine s1 rfl (lop_load_rf rfl rfl Try.isAgg3 rfl) ?_
                              | refine s1 rfl (lop_load_fp rfl Try.isAgg3 rfl) ?_
                            refine s1 rfl (lop_lss rfl rfl) ?_
                            refine s1 rfl (lop_move (v := .bool _) rfl) ?_
                            first
                              | refine gsplitP 3 rfl rfl (fun g11_3 p11_3 => ?_) (fun g11_3 p11_3 => ?_)
                              | refine gsplitB 3 rfl rfl (fun g11_3 p11_3 => ?_) (fun g11_3 p11_3 => ?_)
                            · refine n1 rfl rfl g11_3 ?_
                              refine n1 rfl rfl g11_3 ?_
                              refine n1 rfl rfl g11_3 ?_
                              first
                                | refine s1 rfl (lop_pick_t (v := .bool _) rfl g11_3 rfl) ?_
                                | refine s1 rfl (lop_pick_t (v := .bool _) rfl rfl rfl) ?_
                                | refine s1 rfl (lop_pick_f (v := .bool _) rfl rfl rfl) ?_
                                | refine s1 rfl (lop_pick rfl rfl rfl) ?_
                              refine s1 rfl (lop_move (v := .bool _) rfl) ?_
                              refine n1 rfl rfl rfl ?_
                              refine n1 rfl rfl rfl ?_
                              refine n1 rfl rfl rfl ?_
                              first
                                | refine s1 rfl (lop_pick_t (v := .bool _) rfl g11_3 rfl) ?_
                                | refine s1 rfl (lop_pick_t (v := .bool _) rfl rfl rfl) ?_
                                | refine s1 rfl (lop_pick_t (v := .bool _) rfl rfl rfl) ?_
                                | refine s1 rfl (lop_pick_f (v := .bool _) rfl rfl rfl) ?_
                                | refine s1 rfl (lop_pick rfl rfl rfl) ?_
                              refine s1 rfl (lop_move (v := .bool _) rfl) ?_
                              refine n1 rfl rfl rfl ?_
                              refine n1 rfl rfl rfl ?_
                              refine n1 rfl rfl rfl ?_
                              first
                                | refine s1 rfl (lop_pick_t (v := .bool _) rfl g11_3 rfl) ?_
                                | refine s1 rfl (lop_pick_t (v := .bool _) rfl rfl rfl) ?_
                                | refine s1 rfl (lop_pick_t (v := .bool _) rfl rfl rfl) ?_
                                | refine s1 rfl (lop_pick_t (v := .bool _) rfl rfl rfl) ?_
                                | refine s1 rfl (lop_pick_f (v := .bool _) rfl rfl rfl) ?_
                                | refine s1 rfl (lop_pick rfl rfl rfl) ?_
                              refine ops_nil ?_
                              refine ok_true rfl rfl ?_
                              refine ok_reg ?_
                              refine s1 rfl (lop_assign (v := .bool _) rfl) ?_
                              refine ops_nil ?_
                              refine ok_ret ?_
                              first
                              | exact ret_one rfl rfl rfl rfl (congrArg V.bool (may_no (by omega)).symm)
                              | exact ret_one rfl rfl rfl rfl (congrArg V.bool (may_f2 hri (by unfold oddP; exact decide_eq_true (by omega))))
                              | exact ret_one rfl rfl rfl rfl (congrArg V.bool (may_t h1 h3 h4 (fun j hj => hn j hj (by omega))))
                              | exact ret_one rfl rfl rfl rfl (congrArg V.bool (may_f1 (.inl (not_yes g5_2))))
                              | exact ret_one rfl rfl rfl rfl (congrArg V.bool (may_f1 (.inr (not_yes h_t78))))
                            · first
                                | refine y1 rfl rfl g11_3 rfl (lop_fieldAddr_rf (fo := 0) rfl Try.underlying57 rfl rfl Try.sizeOf3 (by decide)) ?_
                                | refine y1 rfl rfl g11_3 rfl (lop_fieldAddr_fp (fo := 0) rfl Try.underlying57 rfl rfl Try.sizeOf3 (by decide) rfl) ?_
                              first
                                | refine y1 rfl rfl g11_3 rfl (lop_load_rf rfl rfl Try.isAgg3 rfl) ?_
                                | refine y1 rfl rfl g11_3 rfl (lop_load_fp rfl Try.isAgg3 rfl) ?_
                              refine y1 rfl rfl g11_3 rfl (lop_gtr rfl rfl) ?_
                              first
                                | refine s1 rfl (lop_pick_f (v := .bool _) rfl g11_3 rfl) ?_
                                | refine s1 rfl (lop_pick_t (v := .bool _) rfl rfl rfl) ?_
                                | refine s1 rfl (lop_pick_f (v := .bool _) rfl rfl rfl) ?_
                                | refine s1 rfl (lop_pick rfl rfl rfl) ?_
                              refine s1 rfl (lop_move (v := .bool _) rfl) ?_
                              first
                                | refine gsplitP 8 rfl rfl (fun g11_8 p11_8 => ?_) (fun g11_8 p11_8 => ?_)
                                | refine gsplitB 8 rfl rfl (fun g11_8 p11_8 => ?_) (fun g11_8 p11_8 => ?_)
                              · refine n1 rfl rfl g11_8 ?_
                                refine n1 rfl rfl g11_8 ?_
                                refine n1 rfl rfl g11_8 ?_
                                first
                                  | refine s1 rfl (lop_pick_f (v := .bool _) rfl g11_3 rfl) ?_
                                  | refine s1 rfl (lop_pick_t (v := .bool _) rfl g11_8 rfl) ?_
                                  | refine s1 rfl (lop_pick_t (v := .bool _) rfl rfl rfl) ?_
                                  | refine s1 rfl (lop_pick_f (v := .bool _) rfl rfl rfl) ?_
                                  | refine s1 rfl (lop_pick rfl rfl rfl) ?_
                                refine s1 rfl (lop_move (v := .bool _) rfl) ?_
                                refine n1 rfl rfl rfl ?_
                                refine n1 rfl rfl rfl ?_
                                refine n1 rfl rfl rfl ?_
                                first
                                  | refine s1 rfl (lop_pick_f (v := .bool _) rfl g11_3 rfl) ?_
                                  | refine s1 rfl (lop_pick_t (v := .bool _) rfl g11_8 rfl) ?_
                                  | refine s1 rfl (lop_pick_t (v := .bool _) rfl rfl rfl) ?_
                                  | refine s1 rfl (lop_pick_t (v := .bool _) rfl rfl rfl) ?_
                                  | refine s1 rfl (lop_pick_f (v := .bool _) rfl rfl rfl) ?_
                                  | refine s1 rfl (lop_pick rfl rfl rfl) ?_
                                refine ops_nil ?_
                                refine ok_true rfl rfl ?_
                                refine ok_reg ?_
                                refine s1 rfl (lop_assign (v := .bool _) rfl) ?_
                                refine ops_nil ?_
                                refine ok_ret ?_
                                first
                                | exact ret_one rfl rfl rfl rfl (congrArg V.bool (may_no (by omega)).symm)
                                | exact ret_one rfl rfl rfl rfl (congrArg V.bool (may_f2 hri (by unfold oddP; exact decide_eq_true (by omega))))
                                | exact ret_one rfl rfl rfl rfl (congrArg V.bool (may_t h1 h3 h4 (fun j hj => hn j hj (by omega))))
                                | exact ret_one rfl rfl rfl rfl (congrArg V.bool (may_f1 (.inl (not_yes g5_2))))
                                | exact ret_one rfl rfl rfl rfl (congrArg V.bool (may_f1 (.inr (not_yes h_t78))))
                              · first
                                  | refine y1 rfl rfl g11_8 rfl (lop_fieldAddr_rf (fo := 1) rfl Try.underlying57 rfl rfl Try.sizeOf3 (by decide)) ?_
                                  | refine y1 rfl rfl g11_8 rfl (lop_fieldAddr_fp (fo := 1) rfl Try.underlying57 rfl rfl Try.sizeOf3 (by decide) rfl) ?_
                                first
                                  | refine y1 rfl rfl g11_8 rfl (lop_load_rf rfl rfl Try.isAgg3 rfl) ?_
                                  | refine y1 rfl rfl g11_8 rfl (lop_load_fp rfl Try.isAgg3 rfl) ?_
                                refine y1 rfl rfl g11_8 rfl (lop_lss rfl rfl) ?_
                                first
                                  | refine s1 rfl (lop_pick_f (v := .bool _) rfl g11_3 rfl) ?_
                                  | refine s1 rfl (lop_pick_f (v := .bool _) rfl g11_8 rfl) ?_
                                  | refine s1 rfl (lop_pick_t (v := .bool _) rfl rfl rfl) ?_
                                  | refine s1 rfl (lop_pick_f (v := .bool _) rfl rfl rfl) ?_
                                  | refine s1 rfl (lop_pick rfl rfl rfl) ?_
                                refine s1 rfl (lop_move (v := .bool _) rfl) ?_
                                first
                                  | refine gsplitP 13 rfl rfl (fun g11_13 p11_13 => ?_) (fun g11_13 p11_13 => ?_)
                                  | refine gsplitB 13 rfl rfl (fun g11_13 p11_13 => ?_) (fun g11_13 p11_13 => ?_)
                                · refine n1 rfl rfl g11_13 ?_
                                  refine n1 rfl rfl g11_13 ?_
                                  refine n1 rfl rfl g11_13 ?_
                                  first
                                    | refine s1 rfl (lop_pick_f (v := .bool _) rfl g11_3 rfl) ?_
                                    | refine s1 rfl (lop_pick_f (v := .bool _) rfl g11_8 rfl) ?_
                                    | refine s1 rfl (lop_pick_t (v := .bool _) rfl g11_13 rfl) ?_
                                    | refine s1 rfl (lop_pick_t (v := .bool _) rfl rfl rfl) ?_
                                    | refine s1 rfl (lop_pick_f (v := .bool _) rfl rfl rfl) ?_
                                    | refine s1 rfl (lop_pick rfl rfl rfl) ?_
                                  refine ops_nil ?_
                                  refine ok_true rfl rfl ?_
                                  refine ok_reg ?_
                                  refine s1 rfl (lop_assign (v := .bool _) rfl) ?_
                                  refine ops_nil ?_
                                  refine ok_ret ?_
                                  first
                                  | exact ret_one rfl rfl rfl rfl (congrArg V.bool (may_no (by omega)).symm)
                                  | exact ret_one rfl rfl rfl rfl (congrArg V.bool (may_f2 hri (by unfold oddP; exact decide_eq_true (by omega))))
                                  | exact ret_one rfl rfl rfl rfl (congrArg V.bool (may_t h1 h3 h4 (fun j hj => hn j hj (by omega))))
                                  | exact ret_one rfl rfl rfl rfl (congrArg V.bool (may_f1 (.inl (not_yes g5_2))))
                                  | exact ret_one rfl rfl rfl rfl (congrArg V.bool (may_f1 (.inr (not_yes h_t78))))
                                · first
                                    | refine y1 rfl rfl g11_13 rfl (lop_fieldAddr_rf (fo := 1) rfl Try.underlying57 rfl rfl Try.sizeOf3 (by decide)) ?_
                                    | refine y1 rfl rfl g11_13 rfl (lop_fieldAddr_fp (fo := 1) rfl Try.underlying57 rfl rfl Try.sizeOf3 (by decide) rfl) ?_
                                  first
                                    | refine y1 rfl rfl g11_13 rfl (lop_load_rf rfl rfl Try.isAgg3 rfl) ?_
                                    | refine y1 rfl rfl g11_13 rfl (lop_load_fp rfl Try.isAgg3 rfl) ?_
                                  refine y1 rfl rfl g11_13 rfl (lop_gtr rfl rfl) ?_
                                  first
                                    | refine s1 rfl (lop_pick_f (v := .bool _) rfl g11_3 rfl) ?_
                                    | refine s1 rfl (lop_pick_f (v := .bool _) rfl g11_8 rfl) ?_
                                    | refine s1 rfl (lop_pick_f (v := .bool _) rfl g11_13 rfl) ?_
                                    | refine s1 rfl (lop_pick_t (v := .bool _) rfl rfl rfl) ?_
                                    | refine s1 rfl (lop_pick_f (v := .bool _) rfl rfl rfl) ?_
                                    | refine s1 rfl (lop_pick rfl rfl rfl) ?_
                                  refine ops_nil ?_
                                  first
                                    | refine ok_if _ rfl rfl (fun h_t108 => ?_) (fun h_t108 => ?_)
                                    | refine ok_cond rfl rfl (fun h_t108 => ?_) (fun h_t108 => ?_)
                                  · refine ok_reg ?_
                                    refine s1 rfl (lop_assign (v := .bool _) rfl) ?_
                                    refine ops_nil ?_
                                    refine ok_ret ?_
                                    first
                                    | exact ret_one rfl rfl rfl rfl (congrArg V.bool (may_no (by omega)).symm)
                                    | exact ret_one rfl rfl rfl rfl (congrArg V.bool (may_f2 hri (by unfold oddP; exact decide_eq_true (by omega))))
                                    | exact ret_one rfl rfl rfl rfl (congrArg V.bool (may_t h1 h3 h4 (fun j hj => hn j hj (by omega))))
                                    | exact ret_one rfl rfl rfl rfl (congrArg V.bool (may_f1 (.inl (not_yes g5_2))))
                                    | exact ret_one rfl rfl rfl rfl (congrArg V.bool (may_f1 (.inr (not_yes h_t78))))
                                  · refine ok_skip ?_
                                    refine ok_region ?_
                                    refine s1 rfl (lop_move (v := .int _ _) rfl) ?_
                                    refine s1 rfl (lop_bop rfl rfl rfl (bop_add (by omega) (by omega))) ?_
                                    refine s1 rfl (lop_assign (v := .int _ _) rfl) ?_
                                    refine ops_nil ?_
                                    exact ⟨⟨i + 1, by omega, none_step hn hri (by unfold oddP; exact decide_eq_false (by omega))⟩, by simp only; omega, le_mk ⟨rfl, rfl, trivial⟩ ⟨.inr rfl, trivial⟩ rfl⟩
                          · refine ok_exit ?_
                            refine ok_reg ?_
                            refine s1 rfl (lop_assign (v := .bool _) rfl) ?_
                            refine ops_nil ?_
                            refine ok_ret ?_
                            first
                            | exact ret_one rfl rfl rfl rfl (congrArg V.bool (may_no (by omega)).symm)
                            | exact ret_one rfl rfl rfl rfl (congrArg V.bool (may_f2 hri (by unfold oddP; exact decide_eq_true (by omega))))
                            | exact ret_one rfl rfl rfl rfl (congrArg V.bool (may_t h1 h3 h4 (fun j hj => hn j hj (by omega))))
                            | exact ret_one rfl rfl rfl rfl (congrArg V.bool (may_f1 (.inl (not_yes g5_2))))
                            | exact ret_one rfl rfl rfl rfl (congrArg V.bool (may_f1 (.inr (not_yes h_t78))))

theorem setL_pos' {α : Type} {l : List α} {x : α} (k : Nat) : setL l (k : Int) x = l.set k x := by unfold setL; rw [if_neg (by omega)]; rfl
theorem find_set {l : List SessD} {client : Int} {v : SessD} (hv : v.client = client) : ∃ i : Nat, findG (.zero : SessD) (fun s => decide (s.client = client)) (setL l (findG (.zero : SessD) (fun s => decide (s.client = client)) l).2 v) = (v, (i : Int)) := by
  generalize hp : (fun s : SessD => decide (s.client = client)) = p
  have hpv : p v = true := by subst hp; simpa using hv
  rw [findG_idx]
  rcases idxOf_cases p l with ⟨h1, h2⟩ | ⟨k, hk, h1, h2, h3⟩
  · rw [h1, setL_neg]
    have hn : ¬ idxOf p (l ++ [v]) < 0 := by
      intro hlt
      rcases idxOf_cases p (l ++ [v]) with ⟨_, h4⟩ | ⟨j, hj, h4, _⟩
      · rw [h4 v (by simp)] at hpv; cases hpv
      · omega
    obtain ⟨j, hj, e1, e2, e3⟩ := findG_at (z := SessD.zero) hn
    refine ⟨j, ?_⟩
    rw [e2]
    rcases Nat.lt_or_ge j l.length with hlt | hge
    · rw [List.getElem_append_left hlt] at e3
      rw [h2 _ (List.getElem_mem hlt)] at e3; cases e3
    · have : j = l.length := by rw [List.length_append, List.length_singleton] at hj; omega
      subst this
      simp
  · rw [h1]
    have hset : setL l (k : Int) v = l.set k v := setL_pos' k
    rw [hset]
    have hn : ¬ idxOf p (l.set k v) < 0 := by
      intro hlt
      rcases idxOf_cases p (l.set k v) with ⟨_, h4⟩ | ⟨j, hj, h4, _⟩
      · rw [h4 v (List.mem_iff_getElem.2 ⟨k, by rw [List.length_set]; exact hk, by simp⟩)] at hpv; cases hpv
      · omega
    rcases idxOf_cases p (l.set k v) with ⟨h4, _⟩ | ⟨j, hj, h4, h5, h6⟩
    · omega
    · have hjk : j = k := by
        rcases Nat.lt_trichotomy j k with hlt | he | hgt
        · rw [List.getElem_set_ne (by omega)] at h5
          rw [h3 j (by omega) hlt] at h5; cases h5
        · exact he
        · have := h6 k (by rw [List.length_set]; exact hk) hgt
          rw [List.getElem_set_self] at this
          rw [hpv] at this; cases this
      subst hjk
      obtain ⟨j2, hj2, e1, e2, e3⟩ := findG_at (z := SessD.zero) hn
      have : j2 = j := by omega
      subst this
      exact ⟨j2, by rw [e2, List.getElem_set_self]⟩
theorem do_known {y : IdxD} {c : CmdD} {s : SessD} {i : Nat} (hm : mayF c = true) (hc : 0 < c.client) (hl : lastF y c.client = (s, (i : Int))) (hs : s.seq = c.seq) : doF y c = (y, s.reply) := by
  unfold doF
  rw [if_neg (by rw [hm]; simp), if_pos ⟨hc, by rw [hl]; simp only; omega, by rw [hl]; exact hs⟩, hl]
theorem twice {x : IdxD} {c : CmdD} (hm : mayF c = true) (hc : 0 < c.client) : 0 ≤ (lastF (doF x c).1 c.client).2 ∧ (doF (doF x c).1 c).1 = (doF x c).1 ∧ ((lastF (doF x c).1 c.client).1.seq = c.seq → (doF x c).2 = (doF (doF x c).1 c).2) := by
  have hm' : ¬ mayF c = false := by rw [hm]; simp
  by_cases h1 : 0 < c.client ∧ 0 ≤ (lastF x c.client).2 ∧ (lastF x c.client).1.seq = c.seq
  · have e : doF x c = (x, (lastF x c.client).1.reply) := by unfold doF; rw [if_neg hm', if_pos h1]
    rw [e]
    refine ⟨h1.2.1, by rw [e], fun _ => by rw [e]⟩
  · by_cases h2 : 0 < c.client ∧ 0 ≤ (lastF x c.client).2 ∧ (lastF x c.client).1.seq > c.seq
    · have e : doF x c = (x, noR 9) := by unfold doF; rw [if_neg hm', if_neg h1, if_pos h2]
      rw [e]
      refine ⟨h2.2.1, by rw [e], fun h => by simp only at h; omega⟩
    · have e : doF x c = (⟨(doesF x c).1.vols, (doesF x c).1.names, setL (doesF x c).1.last (lastF (doesF x c).1 c.client).2 ⟨c.client, c.seq, (doesF x c).2⟩⟩, (doesF x c).2) := by unfold doF; rw [if_neg hm', if_neg h1, if_neg h2, if_pos hc]
      obtain ⟨i, hi⟩ := find_set (l := (doesF x c).1.last) (client := c.client) (v := ⟨c.client, c.seq, (doesF x c).2⟩) rfl
      have hl : lastF (doF x c).1 c.client = (⟨c.client, c.seq, (doesF x c).2⟩, (i : Int)) := by rw [e]; exact hi
      have e2 : doF (doF x c).1 c = ((doF x c).1, (doesF x c).2) := do_known hm hc hl rfl
      refine ⟨by rw [hl]; simp only; omega, by rw [e2], fun _ => by rw [e2, e]⟩

set_option maxHeartbeats 1000000 in
theorem IndexTwice_ac {x : IdxD} (hx : Fit 1048577 x) {c : CmdD} (hc : c.places.length ≤ 1048576) : AC Try.prog 3 [.agg x.enc, .agg c.enc] (.bool true) := by
  have hx1 := hx.le (show 1048577 ≤ 549755000000 by decide)
  have ha1 := (do_fit hx (c := c) (by decide)).le (show 1048578 ≤ 549755000000 by decide)
  have hal := ha1.last
  refine AC.intro Try.func3 rfl (Nat.le_of_ble_eq_true rfl) ?_
  refine ok_reg ?_
  first
    | refine s1w rfl (lop_box (t := 2) (v := .agg [_, _, _]) (f := true) (cs := [_, _, _]) rfl rfl rfl rfl (fun h => by cases h)) rfl ?_
    | refine s1w rfl (lop_box (t := 2) (v := .agg [_, _, _]) (f := false) (cs := [_, _, _]) rfl rfl rfl rfl (fun _ => rfl)) rfl ?_
  first
    | refine s1w rfl (lop_box (t := 3) (v := .agg [.int _ _, .int _ _, .int _ _, .str _, .int _ _, .int _ _, .int _ _, .int _ _, .int _ _, .int _ _, .int _ _, _]) (f := true) (cs := [.int _ _, .int _ _, .int _ _, .str _, .int _ _, .int _ _, .int _ _, .int _ _, .int _ _, .int _ _, .int _ _, _]) rfl rfl rfl rfl (fun h => by cases h)) rfl ?_
    | refine s1w rfl (lop_box (t := 3) (v := .agg [.int _ _, .int _ _, .int _ _, .str _, .int _ _, .int _ _, .int _ _, .int _ _, .int _ _, .int _ _, .int _ _, _]) (f := false) (cs := [.int _ _, .int _ _, .int _ _, .str _, .int _ _, .int _ _, .int _ _, .int _ _, .int _ _, .int _ _, .int _ _, _]) rfl rfl rfl rfl (fun _ => rfl)) rfl ?_
  refine s1 rfl (lop_assign (v := .bool _) rfl) ?_
  refine ops_nil ?_
  refine ok_reg ?_
  refine s1 rfl (lop_call rfl Try.call9 (FrzL.tf rfl) (.inl rfl) shown_ac) ?_
  refine s1 rfl (lop_assign (v := .bool _) rfl) ?_
  refine ops_nil ?_
  refine ok_reg ?_
  first
    | refine s1 rfl (lop_load_rf_agg (ys := [.int _ _, .int _ _, .int _ _, .str _, .int _ _, .int _ _, .int _ _, .int _ _, .int _ _, .int _ _, .int _ _, _]) rfl rfl Try.isAgg30 Try.sizeOf30 (Nat.le_of_ble_eq_true rfl) rfl) ?_
    | refine s1 rfl (lop_load_fp_agg (ys := [.int _ _, .int _ _, .int _ _, .str _, .int _ _, .int _ _, .int _ _, .int _ _, .int _ _, .int _ _, .int _ _, _]) rfl Try.isAgg30 Try.sizeOf30 (Nat.le_of_ble_eq_true rfl) rfl) ?_
  refine s1 rfl (lop_call rfl Try.call10 (FrzL.tf rfl) (.inl rfl) (ref15_May_ac (by omega))) ?_
  refine s1 rfl (lop_assign (v := .bool _) rfl) ?_
  refine ops_nil ?_
  refine ok_seq ?_
  refine ok_reg ?_
  refine s1 rfl (lop_move (v := .bool _) rfl) ?_
  refine s1 rfl (lop_not rfl) ?_
  refine s1 rfl (lop_move (v := .bool _) rfl) ?_
  first
    | refine gsplitP 2 rfl rfl (fun g3_2 p3_2 => ?_) (fun g3_2 p3_2 => ?_)
    | refine gsplitB 2 rfl rfl (fun g3_2 p3_2 => ?_) (fun g3_2 p3_2 => ?_)
  · refine n1 rfl rfl g3_2 ?_
    refine n1 rfl rfl g3_2 ?_
    refine n1 rfl rfl g3_2 ?_
    first
      | refine s1 rfl (lop_pick_t (v := .bool _) rfl g3_2 rfl) ?_
      | refine s1 rfl (lop_pick_t (v := .bool _) rfl rfl rfl) ?_
      | refine s1 rfl (lop_pick_f (v := .bool _) rfl rfl rfl) ?_
      | refine s1 rfl (lop_pick rfl rfl rfl) ?_
    refine ops_nil ?_
    refine ok_true rfl rfl ?_
    refine ok_reg ?_
    refine s1 rfl (lop_move (v := .bool _) rfl) ?_
    refine s1 rfl (lop_assign (v := .bool _) rfl) ?_
    refine ops_nil ?_
    refine ok_ret ?_
    first
    | exact ret_one rfl rfl rfl rfl rfl
    | exact ret_one rfl rfl rfl rfl (congrArg V.bool (decide_eq_true (htw.2.2 (Decidable.byContradiction p9_13))))
    | exact ret_one rfl rfl rfl rfl (congrArg V.bool g9_13)
  · first
      | refine y1 rfl rfl g3_2 rfl (lop_fieldAddr_rf (fo := 1) rfl Try.underlying30 rfl rfl Try.sizeOf3 (by decide)) ?_
      | refine y1 rfl rfl g3_2 rfl (lop_fieldAddr_fp (fo := 1) rfl Try.underlying30 rfl rfl Try.sizeOf3 (by decide) rfl) ?_
    first
      | refine y1 rfl rfl g3_2 rfl (lop_load_rf rfl rfl Try.isAgg3 rfl) ?_
      | refine y1 rfl rfl g3_2 rfl (lop_load_fp rfl Try.isAgg3 rfl) ?_
    refine y1 rfl rfl g3_2 rfl (lop_lss rfl rfl) ?_
    first
      | refine s1 rfl (lop_pick_f (v := .bool _) rfl g3_2 rfl) ?_
      | refine s1 rfl (lop_pick_t (v := .bool _) rfl rfl rfl) ?_
      | refine s1 rfl (lop_pick_f (v := .bool _) rfl rfl rfl) ?_
      | refine s1 rfl (lop_pick rfl rfl rfl) ?_
    refine ops_nil ?_
    first
      | refine ok_if _ rfl rfl (fun h_t23 => ?_) (fun h_t23 => ?_)
      | refine ok_cond rfl rfl (fun h_t23 => ?_) (fun h_t23 => ?_)
    · refine ok_reg ?_
      refine s1 rfl (lop_move (v := .bool _) rfl) ?_
      refine s1 rfl (lop_assign (v := .bool _) rfl) ?_
      refine ops_nil ?_
      refine ok_ret ?_
      first
      | exact ret_one rfl rfl rfl rfl rfl
      | exact ret_one rfl rfl rfl rfl (congrArg V.bool (decide_eq_true (htw.2.2 (Decidable.byContradiction p9_13))))
      | exact ret_one rfl rfl rfl rfl (congrArg V.bool g9_13)
    · have hm : mayF c = true := not_f g3_2
      have htw := twice (x := x) hm (by omega)
      refine ok_skip ?_
      refine ok_reg ?_
      first
        | refine s1 rfl (lop_load_rf_agg (ys := [_, _, _]) rfl rfl Try.isAgg26 Try.sizeOf26 (Nat.le_of_ble_eq_true rfl) rfl) ?_
        | refine s1 rfl (lop_load_fp_agg (ys := [_, _, _]) rfl Try.isAgg26 Try.sizeOf26 (Nat.le_of_ble_eq_true rfl) rfl) ?_
      first
        | refine s1 rfl (lop_load_rf_agg (ys := [.int _ _, .int _ _, .int _ _, .str _, .int _ _, .int _ _, .int _ _, .int _ _, .int _ _, .int _ _, .int _ _, _]) rfl rfl Try.isAgg30 Try.sizeOf30 (Nat.le_of_ble_eq_true rfl) rfl) ?_
        | refine s1 rfl (lop_load_fp_agg (ys := [.int _ _, .int _ _, .int _ _, .str _, .int _ _, .int _ _, .int _ _, .int _ _, .int _ _, .int _ _, .int _ _, _]) rfl Try.isAgg30 Try.sizeOf30 (Nat.le_of_ble_eq_true rfl) rfl) ?_
      refine s1 rfl (lop_call rfl Try.call11 (FrzL.tf rfl) (.inl rfl) (index_Do_ac hx1 (by omega))) ?_
      refine s1 rfl (lop_move (v := .tup _) rfl) ?_
      refine s1 rfl (lop_extract rfl rfl) ?_
      refine s1 rfl (lop_extract rfl rfl) ?_
      refine s1w rfl (lop_new (t := 7) (cs := [.z0, .z0, .z0]) Try.zeroValue26 rfl rfl rfl rfl) rfl ?_
      refine s1w rfl (lop_new (t := 8) (cs := [.int _ _, .int _ _, .int _ _, .int _ _, .int _ _, .bool _]) Try.zeroValue35 rfl rfl rfl rfl) rfl ?_
      first
        | refine s0w rfl (lop_storeK (v := .agg [_, _, _]) (cs' := [_, _, _]) (f' := true) rfl rfl rfl Try.sizeOf26 rfl rfl rfl rfl rfl) ?_
        | refine s0w rfl (lop_storeK (v := .agg [_, _, _]) (cs' := [_, _, _]) (f' := false) rfl rfl rfl Try.sizeOf26 rfl rfl rfl rfl rfl) ?_
      first
        | refine s0w rfl (lop_storeK (v := .agg [.int _ _, .int _ _, .int _ _, .int _ _, .int _ _, .bool _]) (cs' := [.int _ _, .int _ _, .int _ _, .int _ _, .int _ _, .bool _]) (f' := true) rfl rfl rfl Try.sizeOf35 rfl rfl rfl rfl rfl) ?_
        | refine s0w rfl (lop_storeK (v := .agg [.int _ _, .int _ _, .int _ _, .int _ _, .int _ _, .bool _]) (cs' := [.int _ _, .int _ _, .int _ _, .int _ _, .int _ _, .bool _]) (f' := false) rfl rfl rfl Try.sizeOf35 rfl rfl rfl rfl rfl) ?_
      refine ops_nil ?_
      refine ok_reg ?_
      first
        | refine s1 rfl (lop_load_rf_agg (ys := [_, _, _]) rfl rfl Try.isAgg26 Try.sizeOf26 (Nat.le_of_ble_eq_true rfl) rfl) ?_
        | refine s1 rfl (lop_load_fp_agg (ys := [_, _, _]) rfl Try.isAgg26 Try.sizeOf26 (Nat.le_of_ble_eq_true rfl) rfl) ?_
      first
        | refine s1 rfl (lop_fieldAddr_rf (fo := 1) rfl Try.underlying30 rfl rfl Try.sizeOf3 (by decide)) ?_
        | refine s1 rfl (lop_fieldAddr_fp (fo := 1) rfl Try.underlying30 rfl rfl Try.sizeOf3 (by decide) rfl) ?_
      first
        | refine s1 rfl (lop_load_rf rfl rfl Try.isAgg3 rfl) ?_
        | refine s1 rfl (lop_load_fp rfl Try.isAgg3 rfl) ?_
      refine s1 rfl (lop_call rfl Try.call12 (FrzL.tf rfl) (.inl rfl) (index_Last_ac (doF x c).1 (by omega) c.client)) ?_
      refine s1 rfl (lop_move (v := .tup _) rfl) ?_
      refine s1 rfl (lop_extract rfl rfl) ?_
      refine s1 rfl (lop_extract rfl rfl) ?_
      refine s1w rfl (lop_new (t := 9) (cs := [.int _ _, .int _ _, .int _ _, .int _ _, .int _ _, .int _ _, .int _ _, .bool _]) Try.zeroValue39 rfl rfl rfl rfl) rfl ?_
      first
        | refine s0w rfl (lop_storeK (v := .agg [.int _ _, .int _ _, .int _ _, .int _ _, .int _ _, .int _ _, .int _ _, .bool _]) (cs' := [.int _ _, .int _ _, .int _ _, .int _ _, .int _ _, .int _ _, .int _ _, .bool _]) (f' := true) rfl rfl rfl Try.sizeOf39 rfl rfl rfl rfl rfl) ?_
        | refine s0w rfl (lop_storeK (v := .agg [.int _ _, .int _ _, .int _ _, .int _ _, .int _ _, .int _ _, .int _ _, .bool _]) (cs' := [.int _ _, .int _ _, .int _ _, .int _ _, .int _ _, .int _ _, .int _ _, .bool _]) (f' := false) rfl rfl rfl Try.sizeOf39 rfl rfl rfl rfl rfl) ?_
      refine s1 rfl (lop_assign (v := .bool _) rfl) ?_
      refine ops_nil ?_
      refine ok_reg ?_
      first
        | refine s1 rfl (lop_load_rf_agg (ys := [_, _, _]) rfl rfl Try.isAgg26 Try.sizeOf26 (Nat.le_of_ble_eq_true rfl) rfl) ?_
        | refine s1 rfl (lop_load_fp_agg (ys := [_, _, _]) rfl Try.isAgg26 Try.sizeOf26 (Nat.le_of_ble_eq_true rfl) rfl) ?_
      first
        | refine s1 rfl (lop_load_rf_agg (ys := [.int _ _, .int _ _, .int _ _, .str _, .int _ _, .int _ _, .int _ _, .int _ _, .int _ _, .int _ _, .int _ _, _]) rfl rfl Try.isAgg30 Try.sizeOf30 (Nat.le_of_ble_eq_true rfl) rfl) ?_
        | refine s1 rfl (lop_load_fp_agg (ys := [.int _ _, .int _ _, .int _ _, .str _, .int _ _, .int _ _, .int _ _, .int _ _, .int _ _, .int _ _, .int _ _, _]) rfl Try.isAgg30 Try.sizeOf30 (Nat.le_of_ble_eq_true rfl) rfl) ?_
      refine s1 rfl (lop_call rfl Try.call11 (FrzL.tf rfl) (.inl rfl) (index_Do_ac ha1 (by omega))) ?_
      refine s1 rfl (lop_move (v := .tup _) rfl) ?_
      refine s1 rfl (lop_extract rfl rfl) ?_
      refine s1 rfl (lop_extract rfl rfl) ?_
      refine s1w rfl (lop_new (t := 11) (cs := [.z0, .z0, .z0]) Try.zeroValue26 rfl rfl rfl rfl) rfl ?_
      refine s1w rfl (lop_new (t := 12) (cs := [.int _ _, .int _ _, .int _ _, .int _ _, .int _ _, .bool _]) Try.zeroValue35 rfl rfl rfl rfl) rfl ?_
      first
        | refine s0w rfl (lop_storeK (v := .agg [_, _, _]) (cs' := [_, _, _]) (f' := true) rfl rfl rfl Try.sizeOf26 rfl rfl rfl rfl rfl) ?_
        | refine s0w rfl (lop_storeK (v := .agg [_, _, _]) (cs' := [_, _, _]) (f' := false) rfl rfl rfl Try.sizeOf26 rfl rfl rfl rfl rfl) ?_
      first
        | refine s0w rfl (lop_storeK (v := .agg [.int _ _, .int _ _, .int _ _, .int _ _, .int _ _, .bool _]) (cs' := [.int _ _, .int _ _, .int _ _, .int _ _, .int _ _, .bool _]) (f' := true) rfl rfl rfl Try.sizeOf35 rfl rfl rfl rfl rfl) ?_
        | refine s0w rfl (lop_storeK (v := .agg [.int _ _, .int _ _, .int _ _, .int _ _, .int _ _, .bool _]) (cs' := [.int _ _, .int _ _, .int _ _, .int _ _, .int _ _, .bool _]) (f' := false) rfl rfl rfl Try.sizeOf35 rfl rfl rfl rfl rfl) ?_
      refine ops_nil ?_
      refine ok_reg ?_
      first
        | refine s1 rfl (lop_load_rf_agg (ys := [_, _, _]) rfl rfl Try.isAgg26 Try.sizeOf26 (Nat.le_of_ble_eq_true rfl) rfl) ?_
        | refine s1 rfl (lop_load_fp_agg (ys := [_, _, _]) rfl Try.isAgg26 Try.sizeOf26 (Nat.le_of_ble_eq_true rfl) rfl) ?_
      first
        | refine s1 rfl (lop_load_rf_agg (ys := [_, _, _]) rfl rfl Try.isAgg26 Try.sizeOf26 (Nat.le_of_ble_eq_true rfl) rfl) ?_
        | refine s1 rfl (lop_load_fp_agg (ys := [_, _, _]) rfl Try.isAgg26 Try.sizeOf26 (Nat.le_of_ble_eq_true rfl) rfl) ?_
      refine s1 rfl (lop_call rfl Try.call13 (FrzL.tf rfl) (.inl rfl) (ref15_Same_ac (x := (doF x c).1) (y := (doF (doF x c).1 c).1) ha1)) ?_
      refine s1 rfl (lop_assign (v := .bool _) rfl) ?_
      refine ops_nil ?_
      refine ok_reg ?_
      refine s1 rfl (lop_move (v := .bool _) rfl) ?_
      refine s1 rfl (lop_move (v := .bool _) rfl) ?_
      refine y1 rfl rfl rfl rfl (lop_move (v := .bool _) rfl) ?_
      first
        | refine s1 rfl (lop_pick_t (v := .bool _) rfl rfl rfl) ?_
        | refine s1 rfl (lop_pick_t (v := .bool _) rfl rfl rfl) ?_
        | refine s1 rfl (lop_pick_f (v := .bool _) rfl rfl rfl) ?_
        | refine s1 rfl (lop_pick rfl rfl rfl) ?_
      refine s1 rfl (lop_move (v := .bool _) rfl) ?_
      first
        | refine gsplitP 4 rfl rfl (fun g9_4 p9_4 => ?_) (fun g9_4 p9_4 => ?_)
        | refine gsplitB 4 rfl rfl (fun g9_4 p9_4 => ?_) (fun g9_4 p9_4 => ?_)
      · refine y1 rfl rfl g9_4 rfl (lop_move (v := .bool _) rfl) ?_
        first
          | refine s1 rfl (lop_pick_t (v := .bool _) rfl rfl rfl) ?_
          | refine s1 rfl (lop_pick_t (v := .bool _) rfl g9_4 rfl) ?_
          | refine s1 rfl (lop_pick_t (v := .bool _) rfl rfl rfl) ?_
          | refine s1 rfl (lop_pick_f (v := .bool _) rfl rfl rfl) ?_
          | refine s1 rfl (lop_pick rfl rfl rfl) ?_
        refine s1 rfl (lop_move (v := .bool _) rfl) ?_
        first
          | refine gsplitP 7 rfl rfl (fun g9_7 p9_7 => ?_) (fun g9_7 p9_7 => ?_)
          | refine gsplitB 7 rfl rfl (fun g9_7 p9_7 => ?_) (fun g9_7 p9_7 => ?_)
        · first
            | refine y1 rfl rfl g9_7 rfl (lop_fieldAddr_rf (fo := 1) rfl Try.underlying39 rfl rfl Try.sizeOf3 (by decide)) ?_
            | refine y1 rfl rfl g9_7 rfl (lop_fieldAddr_fp (fo := 1) rfl Try.underlying39 rfl rfl Try.sizeOf3 (by decide) rfl) ?_
          first
            | refine y1 rfl rfl g9_7 rfl (lop_load_rf rfl rfl Try.isAgg3 rfl) ?_
            | refine y1 rfl rfl g9_7 rfl (lop_load_fp rfl Try.isAgg3 rfl) ?_
          first
            | refine y1 rfl rfl g9_7 rfl (lop_fieldAddr_rf (fo := 2) rfl Try.underlying30 rfl rfl Try.sizeOf3 (by decide)) ?_
            | refine y1 rfl rfl g9_7 rfl (lop_fieldAddr_fp (fo := 2) rfl Try.underlying30 rfl rfl Try.sizeOf3 (by decide) rfl) ?_
          first
            | refine y1 rfl rfl g9_7 rfl (lop_load_rf rfl rfl Try.isAgg3 rfl) ?_
            | refine y1 rfl rfl g9_7 rfl (lop_load_fp rfl Try.isAgg3 rfl) ?_
          refine y1 rfl rfl g9_7 rfl (lop_neq rfl rfl) ?_
          refine y1 rfl rfl g9_7 rfl (lop_move (v := .bool _) rfl) ?_
          first
            | refine gsplitP 13 rfl rfl (fun g9_13 p9_13 => ?_) (fun g9_13 p9_13 => ?_)
            | refine gsplitB 13 rfl rfl (fun g9_13 p9_13 => ?_) (fun g9_13 p9_13 => ?_)
          · refine n1 rfl rfl g9_13 ?_
            refine n1 rfl rfl g9_13 ?_
            refine n1 rfl rfl g9_13 ?_
            first
              | refine y1 rfl rfl g9_7 rfl (lop_pick_t (v := .bool _) rfl rfl rfl) ?_
              | refine y1 rfl rfl g9_7 rfl (lop_pick_t (v := .bool _) rfl g9_4 rfl) ?_
              | refine y1 rfl rfl g9_7 rfl (lop_pick_t (v := .bool _) rfl g9_7 rfl) ?_
              | refine y1 rfl rfl g9_7 rfl (lop_pick_t (v := .bool _) rfl g9_13 rfl) ?_
              | refine y1 rfl rfl g9_7 rfl (lop_pick_t (v := .bool _) rfl rfl rfl) ?_
              | refine y1 rfl rfl g9_7 rfl (lop_pick_f (v := .bool _) rfl rfl rfl) ?_
              | refine y1 rfl rfl g9_7 rfl (lop_pick rfl rfl rfl) ?_
            first
              | refine s1 rfl (lop_pick_t (v := .bool _) rfl rfl rfl) ?_
              | refine s1 rfl (lop_pick_t (v := .bool _) rfl g9_4 rfl) ?_
              | refine s1 rfl (lop_pick_t (v := .bool _) rfl g9_7 rfl) ?_
              | refine s1 rfl (lop_pick_t (v := .bool _) rfl g9_13 rfl) ?_
              | refine s1 rfl (lop_pick_t (v := .bool _) rfl rfl rfl) ?_
              | refine s1 rfl (lop_pick_f (v := .bool _) rfl rfl rfl) ?_
              | refine s1 rfl (lop_pick rfl rfl rfl) ?_
            refine s1 rfl (lop_assign (v := .bool _) rfl) ?_
            refine ops_nil ?_
            refine ok_ret ?_
            first
            | exact ret_one rfl rfl rfl rfl rfl
            | exact ret_one rfl rfl rfl rfl (congrArg V.bool (decide_eq_true (htw.2.2 (Decidable.byContradiction p9_13))))
            | exact ret_one rfl rfl rfl rfl (congrArg V.bool g9_13)
          · first
              | refine y1 rfl rfl g9_13 rfl (lop_load_rf_agg (ys := [.int _ _, .int _ _, .int _ _, .int _ _, .int _ _, .bool _]) rfl rfl Try.isAgg35 Try.sizeOf35 (Nat.le_of_ble_eq_true rfl) rfl) ?_
              | refine y1 rfl rfl g9_13 rfl (lop_load_fp_agg (ys := [.int _ _, .int _ _, .int _ _, .int _ _, .int _ _, .bool _]) rfl Try.isAgg35 Try.sizeOf35 (Nat.le_of_ble_eq_true rfl) rfl) ?_
            first
              | refine y1 rfl rfl g9_13 rfl (lop_load_rf_agg (ys := [.int _ _, .int _ _, .int _ _, .int _ _, .int _ _, .bool _]) rfl rfl Try.isAgg35 Try.sizeOf35 (Nat.le_of_ble_eq_true rfl) rfl) ?_
              | refine y1 rfl rfl g9_13 rfl (lop_load_fp_agg (ys := [.int _ _, .int _ _, .int _ _, .int _ _, .int _ _, .bool _]) rfl Try.isAgg35 Try.sizeOf35 (Nat.le_of_ble_eq_true rfl) rfl) ?_
            refine y1 rfl rfl g9_13 rfl (lop_aeql rfl rfl rfl rfl eqg35 (eq35 (doF x c).2 (doF (doF x c).1 c).2)) ?_
            first
              | refine y1 rfl rfl g9_7 rfl (lop_pick_t (v := .bool _) rfl rfl rfl) ?_
              | refine y1 rfl rfl g9_7 rfl (lop_pick_t (v := .bool _) rfl g9_4 rfl) ?_
              | refine y1 rfl rfl g9_7 rfl (lop_pick_t (v := .bool _) rfl g9_7 rfl) ?_
              | refine y1 rfl rfl g9_7 rfl (lop_pick_f (v := .bool _) rfl g9_13 rfl) ?_
              | refine y1 rfl rfl g9_7 rfl (lop_pick_t (v := .bool _) rfl rfl rfl) ?_
              | refine y1 rfl rfl g9_7 rfl (lop_pick_f (v := .bool _) rfl rfl rfl) ?_
              | refine y1 rfl rfl g9_7 rfl (lop_pick rfl rfl rfl) ?_
            first
              | refine s1 rfl (lop_pick_t (v := .bool _) rfl rfl rfl) ?_
              | refine s1 rfl (lop_pick_t (v := .bool _) rfl g9_4 rfl) ?_
              | refine s1 rfl (lop_pick_t (v := .bool _) rfl g9_7 rfl) ?_
              | refine s1 rfl (lop_pick_f (v := .bool _) rfl g9_13 rfl) ?_
              | refine s1 rfl (lop_pick_t (v := .bool _) rfl rfl rfl) ?_
              | refine s1 rfl (lop_pick_f (v := .bool _) rfl rfl rfl) ?_
              | refine s1 rfl (lop_pick rfl rfl rfl) ?_
            refine s1 rfl (lop_assign (v := .bool _) rfl) ?_
            refine ops_nil ?_
            refine ok_ret ?_
            first
            | exact ret_one rfl rfl rfl rfl rfl
            | exact ret_one rfl rfl rfl rfl (congrArg V.bool (decide_eq_true (htw.2.2 (Decidable.byContradiction p9_13))))
            | exact ret_one rfl rfl rfl rfl (congrArg V.bool g9_13)
        · exfalso
          rw [htw.2.1] at g9_7
          simp at g9_7
      · exact absurd htw.1 p9_4

end Go.Proofs
