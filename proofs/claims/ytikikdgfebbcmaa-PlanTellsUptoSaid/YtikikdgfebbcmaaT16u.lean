/- Chapter 16: walks. Printed by gen.py. -/
import Derived.Test.YtikikdgfebbcmaaT16n
set_option linter.unusedVariables false
set_option linter.unusedSimpArgs false
set_option maxRecDepth 100000
namespace Go.Proofs
open Go.Hg

theorem nextF_early {l : List PlD} {nodes : Int} {live : List Bool} (h : l = [] ∨ ¬ (1 ≤ nodes ∧ nodes ≤ 64) ∨ ∃ h0 : 0 < l.length, 0 ≤ idxOf (fun p : PlD => decide (p.r ≠ l[0].r)) l) : nextF l nodes live = (⟨0, 0⟩, 1) := by
  unfold nextF
  rcases h with h | h | ⟨h0, h⟩
  · rw [if_pos (.inl h)]
  · rw [if_pos (.inr h)]
  · by_cases h1 : l = [] ∨ ¬ (1 ≤ nodes ∧ nodes ≤ 64)
    · rw [if_pos h1]
    · rw [if_neg h1, if_pos]
      rw [getD_at (i := 0) _ h0]
      rcases idxOf_cases (fun p : PlD => decide (p.r ≠ l[0].r)) l with ⟨h2, _⟩ | ⟨i, hi, _, h2, _⟩
      · omega
      · exact List.any_eq_true.2 ⟨_, List.getElem_mem hi, h2⟩

theorem next_early_ac {l : List PlD} {nodes : Int} {live : List Bool} (hl : l.length ≤ 1048577) (hE : l = [] ∨ ¬ (1 ≤ nodes ∧ nodes ≤ 64) ∨ ∃ h0 : 0 < l.length, 0 ≤ idxOf (fun p : PlD => decide (p.r ≠ l[0].r)) l) : AC Try.prog 53 [rowOf PlD.enc l, i64 nodes, rowOf boolEnc live] (.tup [.agg (nextF l nodes live).1.enc, i64 (nextF l nodes live).2]) := by
  have hE1 := nextF_early (live := live) hE
  refine AC.intro Try.func53 rfl (Nat.le_of_ble_eq_true rfl) ?_
  refine ok_reg ?_
  first
    | refine s1w rfl (lop_box (t := 3) (v := .sl _ _) (f := true) (cs := [.sl _ _]) rfl rfl rfl rfl (fun h => by cases h)) rfl ?_
    | refine s1w rfl (lop_box (t := 3) (v := .os _ _ _ _) (f := true) (cs := [.os _ _ _ _]) rfl rfl rfl rfl (fun h => by cases h)) rfl ?_
    | refine s1w rfl (lop_box (t := 3) (v := .z0) (f := true) (cs := [.z0]) rfl rfl rfl rfl (fun h => by cases h)) rfl ?_
    | refine s1w rfl (lop_box (t := 3) (v := .sl _ _) (f := false) (cs := [.sl _ _]) rfl rfl rfl rfl (fun _ => rfl)) rfl ?_
    | refine s1w rfl (lop_box (t := 3) (v := .os _ _ _ _) (f := false) (cs := [.os _ _ _ _]) rfl rfl rfl rfl (fun _ => rfl)) rfl ?_
    | refine s1w rfl (lop_box (t := 3) (v := .z0) (f := false) (cs := [.z0]) rfl rfl rfl rfl (fun _ => rfl)) rfl ?_
  refine s1w rfl (lop_new (t := 6) (cs := [.int _ _, .int _ _]) Try.zeroValue41 rfl rfl rfl rfl) rfl ?_
  refine s1w rfl (lop_new (t := 7) (cs := [.int _ _]) Try.zeroValue47 rfl rfl rfl rfl) rfl ?_
  refine ops_nil ?_
  refine ok_seq ?_
  refine ok_reg ?_
  first
    | refine s1 rfl (lop_load_rf rfl rfl Try.isAgg30 rfl) ?_
    | refine s1 rfl (lop_load_fp rfl Try.isAgg30 rfl) ?_
  refine s1 rfl (lop_len rfl Try.underlying30 ⟨⟨_, rfl⟩, rfl⟩) ?_
  refine s1 rfl (lop_eql rfl rfl) ?_
  refine s1 rfl (lop_move (v := .bool _) rfl) ?_
  first
    | refine gsplitP 3 rfl rfl (fun g1_3 p1_3 => ?_) (fun g1_3 p1_3 => ?_)
    | refine gsplitB 3 rfl rfl (fun g1_3 p1_3 => ?_) (fun g1_3 p1_3 => ?_)
  · refine n1 rfl rfl g1_3 ?_
    refine n1 rfl rfl g1_3 ?_
    refine n1 rfl rfl g1_3 ?_
    first
      | refine s1 rfl (lop_pick_t (v := .bool _) rfl g1_3 rfl) ?_
      | refine s1 rfl (lop_pick_t (v := .bool _) rfl rfl rfl) ?_
      | refine s1 rfl (lop_pick_f (v := .bool _) rfl rfl rfl) ?_
      | refine s1 rfl (lop_pick rfl rfl rfl) ?_
    refine ops_nil ?_
    refine ok_true rfl rfl ?_
    refine ok_reg ?_
    refine s1 rfl (lop_buildK (cs := [.int _ _, .int _ _]) Try.underlying41 Try.zeroValue41 rfl rfl places41 rfl) ?_
    first
      | refine s0w rfl (lop_storeK (v := .agg [.int _ _, .int _ _]) (cs' := [.int _ _, .int _ _]) (f' := true) rfl rfl rfl Try.sizeOf41 rfl rfl rfl rfl rfl) ?_
      | refine s0w rfl (lop_storeK (v := .agg [.int _ _, .int _ _]) (cs' := [.int _ _, .int _ _]) (f' := false) rfl rfl rfl Try.sizeOf41 rfl rfl rfl rfl rfl) ?_
    first
      | refine s0w rfl (lop_storeK (v := .int _ _) (cs' := [.int _ _]) (f' := true) rfl rfl rfl Try.sizeOf47 rfl rfl rfl rfl rfl) ?_
      | refine s0w rfl (lop_storeK (v := .int _ _) (cs' := [.int _ _]) (f' := false) rfl rfl rfl Try.sizeOf47 rfl rfl rfl rfl rfl) ?_
    refine ops_nil ?_
    refine ok_ret ?_
    exact ret_gen (R := [6, 7]) ⟨_, _, rfl, ⟨rfl, 6, 0, _, _, rfl, rfl, .inl ⟨2, Try.isAgg41, Try.sizeOf41, Nat.le_of_ble_eq_true rfl, rfl⟩⟩, _, _, rfl, ⟨rfl, 7, 0, _, _, rfl, rfl, .inr ⟨Try.isAgg47, rfl⟩⟩, rfl⟩ (by rw [hE1]; exact .tup (.cons (.agg (FrzL.tf rfl)) (.cons (.tf rfl) .nil))) (fun t ht => by simp at ht; rcases ht with rfl | rfl <;> exact Option.some_ne_none _)
  · refine y1 rfl rfl g1_3 rfl (lop_move (v := .int _ _) rfl) ?_
    refine y1 rfl rfl g1_3 rfl (lop_call rfl Try.call69 (FrzL.tf rfl) (.inl rfl) (site_may_ac nodes)) ?_
    refine y1 rfl rfl g1_3 rfl (lop_not rfl) ?_
    first
      | refine s1 rfl (lop_pick_f (v := .bool _) rfl g1_3 rfl) ?_
      | refine s1 rfl (lop_pick_t (v := .bool _) rfl rfl rfl) ?_
      | refine s1 rfl (lop_pick_f (v := .bool _) rfl rfl rfl) ?_
      | refine s1 rfl (lop_pick rfl rfl rfl) ?_
    refine ops_nil ?_
    first
      | refine ok_if _ rfl rfl (fun h_t18 => ?_) (fun h_t18 => ?_)
      | refine ok_cond rfl rfl (fun h_t18 => ?_) (fun h_t18 => ?_)
    · refine ok_reg ?_
      refine s1 rfl (lop_buildK (cs := [.int _ _, .int _ _]) Try.underlying41 Try.zeroValue41 rfl rfl places41 rfl) ?_
      first
        | refine s0w rfl (lop_storeK (v := .agg [.int _ _, .int _ _]) (cs' := [.int _ _, .int _ _]) (f' := true) rfl rfl rfl Try.sizeOf41 rfl rfl rfl rfl rfl) ?_
        | refine s0w rfl (lop_storeK (v := .agg [.int _ _, .int _ _]) (cs' := [.int _ _, .int _ _]) (f' := false) rfl rfl rfl Try.sizeOf41 rfl rfl rfl rfl rfl) ?_
      first
        | refine s0w rfl (lop_storeK (v := .int _ _) (cs' := [.int _ _]) (f' := true) rfl rfl rfl Try.sizeOf47 rfl rfl rfl rfl rfl) ?_
        | refine s0w rfl (lop_storeK (v := .int _ _) (cs' := [.int _ _]) (f' := false) rfl rfl rfl Try.sizeOf47 rfl rfl rfl rfl rfl) ?_
      refine ops_nil ?_
      refine ok_ret ?_
      exact ret_gen (R := [6, 7]) ⟨_, _, rfl, ⟨rfl, 6, 0, _, _, rfl, rfl, .inl ⟨2, Try.isAgg41, Try.sizeOf41, Nat.le_of_ble_eq_true rfl, rfl⟩⟩, _, _, rfl, ⟨rfl, 7, 0, _, _, rfl, rfl, .inr ⟨Try.isAgg47, rfl⟩⟩, rfl⟩ (by rw [hE1]; exact .tup (.cons (.agg (FrzL.tf rfl)) (.cons (.tf rfl) .nil))) (fun t ht => by simp at ht; rcases ht with rfl | rfl <;> exact Option.some_ne_none _)
    · have hl0 : 0 < l.length := by omega
      have hEf : 0 ≤ idxOf (fun p : PlD => decide (p.r ≠ l[0].r)) l := by
        rcases hE with h | h | ⟨_, h⟩
        · rw [h] at hl0; simp at hl0
        · simp_all
        · exact h
      refine ok_skip ?_
      refine ok_reg ?_
      first
        | refine s1 rfl (lop_load_rf rfl rfl Try.isAgg30 rfl) ?_
        | refine s1 rfl (lop_load_fp rfl Try.isAgg30 rfl) ?_
      refine s1 rfl (lop_indexAddr_sl (i := 0) rfl rfl Try.underlying30 Try.sizeOf41 rfl hl0 (flat_at PlD.len hl0) (flat_ne PlD.len (by decide) hl0)) ?_
      first
        | refine s1 rfl (lop_fieldAddr_rf (fo := 0) rfl Try.underlying41 rfl rfl Try.sizeOf3 (by decide)) ?_
        | refine s1 rfl (lop_fieldAddr_fp (fo := 0) rfl Try.underlying41 rfl rfl Try.sizeOf3 (by decide) rfl) ?_
      first
        | refine s1 rfl (lop_load_rf rfl rfl Try.isAgg3 rfl) ?_
        | refine s1 rfl (lop_load_fp rfl Try.isAgg3 rfl) ?_
      refine s1w rfl (lop_new (t := 8) (cs := [.int _ _]) Try.zeroValue3 rfl rfl rfl rfl) rfl ?_
      first
        | refine s0w rfl (lop_storeK (v := .int _ _) (cs' := [.int _ _]) (f' := true) rfl rfl rfl Try.sizeOf3 rfl rfl rfl rfl rfl) ?_
        | refine s0w rfl (lop_storeK (v := .int _ _) (cs' := [.int _ _]) (f' := false) rfl rfl rfl Try.sizeOf3 rfl rfl rfl rfl rfl) ?_
      refine ops_nil ?_
      refine ok_seq ?_
      refine ok_reg ?_
      first
        | refine s1 rfl (lop_load_rf rfl rfl Try.isAgg30 rfl) ?_
        | refine s1 rfl (lop_load_fp rfl Try.isAgg30 rfl) ?_
      refine s1 rfl (lop_func (vs := [.rf _ _]) rfl) ?_
      refine s1 rfl (lop_call (R := [8]) rfl Try.call75 (fzL_sound _ _ _ rfl) (.inr rfl) (containsFunc_Place_ac (l := l) (by omega) l[0].r)) ?_
      refine ops_nil ?_
      first
        | refine ok_if _ rfl rfl (fun h_t26 => ?_) (fun h_t26 => ?_)
        | refine ok_cond rfl rfl (fun h_t26 => ?_) (fun h_t26 => ?_)
      · refine ok_reg ?_
        refine s1 rfl (lop_buildK (cs := [.int _ _, .int _ _]) Try.underlying41 Try.zeroValue41 rfl rfl places41 rfl) ?_
        first
          | refine s0w rfl (lop_storeK (v := .agg [.int _ _, .int _ _]) (cs' := [.int _ _, .int _ _]) (f' := true) rfl rfl rfl Try.sizeOf41 rfl rfl rfl rfl rfl) ?_
          | refine s0w rfl (lop_storeK (v := .agg [.int _ _, .int _ _]) (cs' := [.int _ _, .int _ _]) (f' := false) rfl rfl rfl Try.sizeOf41 rfl rfl rfl rfl rfl) ?_
        first
          | refine s0w rfl (lop_storeK (v := .int _ _) (cs' := [.int _ _]) (f' := true) rfl rfl rfl Try.sizeOf47 rfl rfl rfl rfl rfl) ?_
          | refine s0w rfl (lop_storeK (v := .int _ _) (cs' := [.int _ _]) (f' := false) rfl rfl rfl Try.sizeOf47 rfl rfl rfl rfl rfl) ?_
        refine ops_nil ?_
        refine ok_ret ?_
        exact ret_gen (R := [6, 7]) ⟨_, _, rfl, ⟨rfl, 6, 0, _, _, rfl, rfl, .inl ⟨2, Try.isAgg41, Try.sizeOf41, Nat.le_of_ble_eq_true rfl, rfl⟩⟩, _, _, rfl, ⟨rfl, 7, 0, _, _, rfl, rfl, .inr ⟨Try.isAgg47, rfl⟩⟩, rfl⟩ (by rw [hE1]; exact .tup (.cons (.agg (FrzL.tf rfl)) (.cons (.tf rfl) .nil))) (fun t ht => by simp at ht; rcases ht with rfl | rfl <;> exact Option.some_ne_none _)
      · omega


theorem next_ok : NextOk := by
  intro l nodes live hl hp hll
  by_cases hE : l = [] ∨ ¬ (1 ≤ nodes ∧ nodes ≤ 64) ∨ ∃ h0 : 0 < l.length, 0 ≤ idxOf (fun p : PlD => decide (p.r ≠ l[0].r)) l
  · exact next_early_ac hl hE
  · have h1 : l ≠ [] := fun h => hE (.inl h)
    have h2 : 1 ≤ nodes ∧ nodes ≤ 64 := Decidable.byContradiction fun h => hE (.inr (.inl h))
    have h0 : 0 < l.length := List.length_pos_iff.2 h1
    have h3 : idxOf (fun p : PlD => decide (p.r ≠ l[0].r)) l < 0 := by
      rcases Int.lt_or_le (idxOf (fun p : PlD => decide (p.r ≠ l[0].r)) l) 0 with h | h
      · exact h
      · exact absurd (.inr (.inr ⟨h0, h⟩)) hE
    intro w ok us hok hr
    simp only [RepT, rowOf, Rep] at hr
    obtain ⟨_, _, rfl, ⟨A1, c1, us1, rfl, hc1, a1, r1⟩, _, _, rfl, rfl, _, _, rfl, ⟨A, c, us3, rfl, hc, a3, r3⟩, rfl⟩ := hr
    have e1 := plL r1
    have e3 := boolsL r3
    subst e1 e3
    have ha1 := a1
    rcases a1 with a1 | ⟨ad, rfl, oad, _⟩
    · have := plVals_length l
      rw [a1] at this
      simp at this
      omega
    · refine (callsIn_wide.1 (next_in 4 (Nat.le_refl _) l nodes live hl hp hll h0 h2.1 h2.2 h3 ok ad c1 hc1 A c hc w hok oad ha1 a3)).mono ?_
      rintro e w' ⟨rfl, hb⟩
      refine ⟨_, rfl, ?_, hb⟩
      simp only [Rep, RepT]
      exact ⟨[_, _], rfl, _, _, rfl, ⟨[_, _], rfl, by simp only [PlD.enc, RepL, Rep]; exact ⟨_, _, rfl, rfl, rfl, _, _, rfl, rfl, rfl, rfl⟩⟩, _, _, rfl, rfl, rfl⟩

end Go.Proofs
