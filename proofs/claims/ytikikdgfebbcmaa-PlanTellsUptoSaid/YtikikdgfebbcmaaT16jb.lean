/- Chapter 16: walks. Printed by gen.py. -/
import Derived.Test.YtikikdgfebbcmaaT16ja
set_option linter.unusedVariables false
set_option linter.unusedSimpArgs false
set_option maxRecDepth 100000
namespace Go.Proofs
open Go.Hg

theorem ref16_Fill_ac (v : VolD) (hv : v.ok) {ps : List PartD} (hp : ps.length ≤ 1048576) : AC Try.prog 19 [.agg v.enc, rowOf PartD.enc ps] (.tup [.str (fillF v.parts ps).1, i64 (fillF v.parts ps).2]) := by
  have hvp := hv.parts
  refine AC.intro Try.func19 rfl (Nat.le_of_ble_eq_true rfl) ?_
  refine ok_reg ?_
  first
    | refine s1w rfl (lop_box (t := 2) (v := .agg [.int _ _, .int _ _, .int _ _, .int _ _, .int _ _, _, _, .int _ _, .int _ _]) (f := true) (cs := [.int _ _, .int _ _, .int _ _, .int _ _, .int _ _, _, _, .int _ _, .int _ _]) rfl rfl rfl rfl (fun h => by cases h)) rfl ?_
    | refine s1w rfl (lop_box (t := 2) (v := .agg [.int _ _, .int _ _, .int _ _, .int _ _, .int _ _, _, _, .int _ _, .int _ _]) (f := false) (cs := [.int _ _, .int _ _, .int _ _, .int _ _, .int _ _, _, _, .int _ _, .int _ _]) rfl rfl rfl rfl (fun _ => rfl)) rfl ?_
  refine s1 rfl (lop_assign (v := .str _) rfl) ?_
  refine s1 rfl (lop_assign (v := .int _ _) rfl) ?_
  refine ops_nil ?_
  refine ok_reg ?_
  first
    | refine s1 rfl (lop_assign (v := .sl _ _) rfl) ?_
    | refine s1 rfl (lop_assign (v := .os _ _ _ _) rfl) ?_
    | refine s1 rfl (lop_assign (v := .z0) rfl) ?_
  refine ops_nil ?_
  refine ok_seq ?_
  refine ok_reg ?_
  refine s1 rfl (lop_assign (v := .int _ _) rfl) ?_
  refine ops_nil ?_
  refine ok_block ?_
  refine ok_loop (ι := {i : Nat // i ≤ v.parts.length ∧ ∀ j, (h : j < v.parts.length) → j < i → ps.any (selP v.parts[j]) = true}) (fun i => ⟨[(1, rowOf PartD.enc ps), (2, .rf 2 0), (6, .os 100 0 2 i.1), (7, i64 i.1)], [(2, some (true, v.enc)), (100, some (true, ((v.parts.take (i.1)).map (chF ps)).flatMap PartD.enc))], 67⟩) (fun i => v.parts.length - i.1) (⟨0, Nat.zero_le _, fun _ _ h => absurd h (Nat.not_lt_zero _)⟩) ?_ ?_
  · exact le_ren [(100, none)] ⟨rfl, rfl, rfl, rfl, trivial⟩ rfl ⟨⟨_, rfl, rfl⟩, ⟨rfl, rfl⟩, trivial⟩ rfl rfl rfl
  rintro ⟨i, hi, hna⟩
  dsimp only
  refine ok_seq ?_
  refine ok_reg ?_
  refine s1 rfl (lop_move (v := .int _ _) rfl) ?_
  first
    | refine s1 rfl (lop_fieldAddr_rf (fo := 5) rfl Try.underlying39 rfl rfl Try.sizeOf37 (by decide)) ?_
    | refine s1 rfl (lop_fieldAddr_fp (fo := 5) rfl Try.underlying39 rfl rfl Try.sizeOf37 (by decide) rfl) ?_
  first
    | refine s1 rfl (lop_load_rf rfl rfl Try.isAgg37 rfl) ?_
    | refine s1 rfl (lop_load_fp rfl Try.isAgg37 rfl) ?_
  refine s1 rfl (lop_len rfl Try.underlying37 ⟨⟨_, rfl⟩, rfl⟩) ?_
  refine s1 rfl (lop_lss rfl rfl) ?_
  refine ops_nil ?_
  first
    | refine ok_if _ rfl rfl (fun h_t14 => ?_) (fun h_t14 => ?_)
    | refine ok_cond rfl rfl (fun h_t14 => ?_) (fun h_t14 => ?_)
  · have hri : i < v.parts.length := by omega
    refine ok_skip ?_
    refine ok_seq ?_
    refine ok_block ?_
    refine ok_reg ?_
    refine s1 rfl (lop_assign (v := .bool _) rfl) ?_
    refine ops_nil ?_
    refine ok_seq ?_
    refine ok_reg ?_
    refine s1 rfl (lop_assign (v := .int _ _) rfl) ?_
    refine ops_nil ?_
    refine ok_block ?_
    refine ok_loop (ι := {p : Nat × Bool // p.1 ≤ ps.length ∧ (p.2 = false → ∀ k, (h : k < ps.length) → k < p.1 → selP v.parts[i] ps[k] = false) ∧ (p.2 = true → ps.any (selP v.parts[i]) = true)}) (fun p => ⟨[(1, rowOf PartD.enc ps), (2, .rf 2 0), (6, .os 100 0 2 (i + p.1.2.toNat)), (7, i64 i), (8, .bool p.1.2), (9, i64 p.1.1)], [(2, some (true, v.enc)), (100, some (true, ((v.parts.take (i + p.1.2.toNat)).map (chF ps)).flatMap PartD.enc))], 67⟩) (fun p => ps.length - p.1.1) (⟨(0, false), Nat.zero_le _, fun _ _ _ h => absurd h (Nat.not_lt_zero _), fun h => by cases h⟩) ?_ ?_
    · exact le_mk ⟨rfl, rfl, rfl, rfl, rfl, rfl, trivial⟩ ⟨.inr rfl, .inr rfl, trivial⟩ rfl
    rintro ⟨⟨j, b⟩, hj0, hn, ht⟩
    dsimp only
    dsimp only at hj0 hn ht
    refine ok_seq ?_
    refine ok_reg ?_
    refine s1 rfl (lop_move (v := .int _ _) rfl) ?_
    first
      | refine s1 rfl (lop_move (v := .sl _ _) rfl) ?_
      | refine s1 rfl (lop_move (v := .os _ _ _ _) rfl) ?_
      | refine s1 rfl (lop_move (v := .z0) rfl) ?_
    refine s1 rfl (lop_len rfl Try.underlying56 ⟨⟨_, rfl⟩, rfl⟩) ?_
    refine s1 rfl (lop_lss rfl rfl) ?_
    refine s1 rfl (lop_move (v := .bool _) rfl) ?_
    first
      | refine gsplitP 4 rfl rfl (fun g7_4 p7_4 => ?_) (fun g7_4 p7_4 => ?_)
      | refine gsplitB 4 rfl rfl (fun g7_4 p7_4 => ?_) (fun g7_4 p7_4 => ?_)
    · have hj : j < ps.length := by omega
      refine y1 rfl rfl g7_4 rfl (lop_move (v := .bool _) rfl) ?_
      refine y1 rfl rfl g7_4 rfl (lop_not rfl) ?_
      first
        | refine s1 rfl (lop_pick_t (v := .bool _) rfl g7_4 rfl) ?_
        | refine s1 rfl (lop_pick_t (v := .bool _) rfl rfl rfl) ?_
        | refine s1 rfl (lop_pick_f (v := .bool _) rfl rfl rfl) ?_
        | refine s1 rfl (lop_pick rfl rfl rfl) ?_
      refine ops_nil ?_
      first
        | refine ok_if _ rfl rfl (fun h_t24 => ?_) (fun h_t24 => ?_)
        | refine ok_cond rfl rfl (fun h_t24 => ?_) (fun h_t24 => ?_)
      · refine ok_skip ?_
        refine ok_seq ?_
        refine ok_block ?_
        refine ok_drw Try.mixed ?_
        first
          | refine d1 rfl rfl (lop_move (v := .sl _ _) rfl) ?_
          | refine d1 rfl rfl (lop_move (v := .os _ _ _ _) rfl) ?_
          | refine d1 rfl rfl (lop_move (v := .z0) rfl) ?_
        refine d1 rfl rfl (lop_move (v := .int _ _) rfl) ?_
        first
          | refine d1 rfl rfl (lop_indexAddr_os rfl rfl Try.underlying56 Try.sizeOf62 rfl hj) ?_
          | refine d1 rfl rfl (lop_indexAddr_sl rfl rfl Try.underlying56 Try.sizeOf62 rfl hj (flat_at PartD.len hj) (flat_ne PartD.len (by decide) hj)) ?_
        first
          | refine d1 rfl rfl (lop_fieldAddr_rf (fo := 0) rfl Try.underlying62 rfl rfl Try.sizeOf3 (by decide)) ?_
          | refine d1 rfl rfl (lop_fieldAddr_fp (fo := 0) rfl Try.underlying62 rfl rfl Try.sizeOf3 (by decide) rfl) ?_
        first
          | refine d1 rfl rfl (lop_load_rf rfl rfl Try.isAgg3 rfl) ?_
          | refine d1 rfl rfl (lop_load_fp rfl Try.isAgg3 rfl) ?_
        first
          | refine d1 rfl rfl (lop_fieldAddr_rf (fo := 5) rfl Try.underlying39 rfl rfl Try.sizeOf37 (by decide)) ?_
          | refine d1 rfl rfl (lop_fieldAddr_fp (fo := 5) rfl Try.underlying39 rfl rfl Try.sizeOf37 (by decide) rfl) ?_
        first
          | refine d1 rfl rfl (lop_load_rf rfl rfl Try.isAgg37 rfl) ?_
          | refine d1 rfl rfl (lop_load_fp rfl Try.isAgg37 rfl) ?_
        refine d1 rfl rfl (lop_move (v := .int _ _) rfl) ?_
        first
          | refine d1 rfl rfl (lop_indexAddr_os rfl rfl Try.underlying37 Try.sizeOf60 rfl hri) ?_
          | refine d1 rfl rfl (lop_indexAddr_sl rfl rfl Try.underlying37 Try.sizeOf60 rfl hri (flat_at SpanD.len hri) (flat_ne SpanD.len (by decide) hri)) ?_
        first
          | refine d1 rfl rfl (lop_fieldAddr_rf (fo := 0) rfl Try.underlying60 rfl rfl Try.sizeOf3 (by decide)) ?_
          | refine d1 rfl rfl (lop_fieldAddr_fp (fo := 0) rfl Try.underlying60 rfl rfl Try.sizeOf3 (by decide) rfl) ?_
        first
          | refine d1 rfl rfl (lop_load_rf rfl rfl Try.isAgg3 rfl) ?_
          | refine d1 rfl rfl (lop_load_fp rfl Try.isAgg3 rfl) ?_
        refine d1 rfl rfl (lop_eql rfl rfl) ?_
        refine d1 rfl rfl (lop_move (v := .bool _) rfl) ?_
        first
          | refine dsplitP 12 rfl rfl (fun g9_12 p9_12 => ?_) (fun g9_12 p9_12 => ?_)
          | refine dsplitB 12 rfl rfl (fun g9_12 p9_12 => ?_) (fun g9_12 p9_12 => ?_)
        · first
            | refine dy1 rfl rfl g9_12 rfl rfl (lop_move (v := .sl _ _) rfl) ?_
            | refine dy1 rfl rfl g9_12 rfl rfl (lop_move (v := .os _ _ _ _) rfl) ?_
            | refine dy1 rfl rfl g9_12 rfl rfl (lop_move (v := .z0) rfl) ?_
          refine dy1 rfl rfl g9_12 rfl rfl (lop_move (v := .int _ _) rfl) ?_
          first
            | refine dy1 rfl rfl g9_12 rfl rfl (lop_indexAddr_os rfl rfl Try.underlying56 Try.sizeOf62 rfl hj) ?_
            | refine dy1 rfl rfl g9_12 rfl rfl (lop_indexAddr_sl rfl rfl Try.underlying56 Try.sizeOf62 rfl hj (flat_at PartD.len hj) (flat_ne PartD.len (by decide) hj)) ?_
          first
            | refine dy1 rfl rfl g9_12 rfl rfl (lop_fieldAddr_rf (fo := 1) rfl Try.underlying62 rfl rfl Try.sizeOf9 (by decide)) ?_
            | refine dy1 rfl rfl g9_12 rfl rfl (lop_fieldAddr_fp (fo := 1) rfl Try.underlying62 rfl rfl Try.sizeOf9 (by decide) rfl) ?_
          first
            | refine dy1 rfl rfl g9_12 rfl rfl (lop_load_rf rfl rfl Try.isAgg9 rfl) ?_
            | refine dy1 rfl rfl g9_12 rfl rfl (lop_load_fp rfl Try.isAgg9 rfl) ?_
          refine dy1 rfl rfl g9_12 rfl rfl (lop_len rfl Try.underlying9 ⟨rfl, rfl⟩) ?_
          first
            | refine dy1 rfl rfl g9_12 rfl rfl (lop_fieldAddr_rf (fo := 5) rfl Try.underlying39 rfl rfl Try.sizeOf37 (by decide)) ?_
            | refine dy1 rfl rfl g9_12 rfl rfl (lop_fieldAddr_fp (fo := 5) rfl Try.underlying39 rfl rfl Try.sizeOf37 (by decide) rfl) ?_
          first
            | refine dy1 rfl rfl g9_12 rfl rfl (lop_load_rf rfl rfl Try.isAgg37 rfl) ?_
            | refine dy1 rfl rfl g9_12 rfl rfl (lop_load_fp rfl Try.isAgg37 rfl) ?_
          refine dy1 rfl rfl g9_12 rfl rfl (lop_move (v := .int _ _) rfl) ?_
          first
            | refine dy1 rfl rfl g9_12 rfl rfl (lop_indexAddr_os rfl rfl Try.underlying37 Try.sizeOf60 rfl hri) ?_
            | refine dy1 rfl rfl g9_12 rfl rfl (lop_indexAddr_sl rfl rfl Try.underlying37 Try.sizeOf60 rfl hri (flat_at SpanD.len hri) (flat_ne SpanD.len (by decide) hri)) ?_
          first
            | refine dy1 rfl rfl g9_12 rfl rfl (lop_fieldAddr_rf (fo := 1) rfl Try.underlying60 rfl rfl Try.sizeOf3 (by decide)) ?_
            | refine dy1 rfl rfl g9_12 rfl rfl (lop_fieldAddr_fp (fo := 1) rfl Try.underlying60 rfl rfl Try.sizeOf3 (by decide) rfl) ?_
          first
            | refine dy1 rfl rfl g9_12 rfl rfl (lop_load_rf rfl rfl Try.isAgg3 rfl) ?_
            | refine dy1 rfl rfl g9_12 rfl rfl (lop_load_fp rfl Try.isAgg3 rfl) ?_
          refine dy1 rfl rfl g9_12 rfl rfl (lop_eql rfl rfl) ?_
          first
            | refine d1 rfl rfl (lop_pick_t (v := .bool _) rfl g9_12 rfl) ?_
            | refine d1 rfl rfl (lop_pick_t (v := .bool _) rfl rfl rfl) ?_
            | refine d1 rfl rfl (lop_pick_f (v := .bool _) rfl rfl rfl) ?_
            | refine d1 rfl rfl (lop_pick rfl rfl rfl) ?_
          refine dr_nil (by kernel_rfl) ?_
          first
            | refine ok_if _ rfl rfl (fun h_t53 => ?_) (fun h_t53 => ?_)
            | refine ok_cond rfl rfl (fun h_t53 => ?_) (fun h_t53 => ?_)
          · refine ok_reg ?_
            first
              | refine s1 rfl (lop_move (v := .sl _ _) rfl) ?_
              | refine s1 rfl (lop_move (v := .os _ _ _ _) rfl) ?_
              | refine s1 rfl (lop_move (v := .z0) rfl) ?_
            first
              | refine s1 rfl (lop_move (v := .sl _ _) rfl) ?_
              | refine s1 rfl (lop_move (v := .os _ _ _ _) rfl) ?_
              | refine s1 rfl (lop_move (v := .z0) rfl) ?_
            refine s1 rfl (lop_move (v := .int _ _) rfl) ?_
            first
              | refine s1 rfl (lop_indexAddr_os rfl rfl Try.underlying56 Try.sizeOf62 rfl hj) ?_
              | refine s1 rfl (lop_indexAddr_sl rfl rfl Try.underlying56 Try.sizeOf62 rfl hj (flat_at PartD.len hj) (flat_ne PartD.len (by decide) hj)) ?_
            first
              | refine s1 rfl (lop_load_rf_agg rfl rfl Try.isAgg62 Try.sizeOf62 (by rw [List.length_append, PartD.len]; omega) (by rw [List.take_append_of_le_length (by rw [PartD.len]; omega), List.take_of_length_le (by rw [PartD.len]; omega)])) ?_
              | refine s1 rfl (lop_load_fp_agg rfl Try.isAgg62 Try.sizeOf62 (by rw [List.length_append, PartD.len]; omega) (by rw [List.take_append_of_le_length (by rw [PartD.len]; omega), List.take_of_length_le (by rw [PartD.len]; omega)])) ?_
            first
              | refine s1w rfl (lop_buildSlice (t := 59) (cs := [.int _ _, .str _]) (f := true) Try.underlying56 Try.sizeOf62 (by decide) Try.zeroValue62 rfl rfl rfl (by decide) rfl (.inr (by decide)) rfl (fun h => by cases h)) rfl ?_
              | refine s1w rfl (lop_buildSlice (t := 59) (cs := [.int _ _, .str _]) (f := false) Try.underlying56 Try.sizeOf62 (by decide) Try.zeroValue62 rfl rfl rfl (by decide) rfl (.inr (by decide)) rfl (fun _ => rfl)) rfl ?_
            have hlen2 : (v.parts.take (i + b.toNat)).length = i + b.toNat := by
              have hbf : b = false := by simpa using h_t24
              rw [hbf, List.length_take]; simp only [Bool.toNat_false]; omega
            have hbl := Bool.toNat_le b
            first
              | refine s2w rfl (lop_append_os (t' := 60) rfl rfl rfl (by rw [flat_length PartD.len, List.length_map, hlen2]) (.os Try.underlying56 (List.mem_singleton.2 rfl) rfl (Nat.le_of_ble_eq_true rfl) rfl) Try.underlying56 info62 rfl (by omega) (by omega)) rfl ?_
              | refine s1w rfl (lop_append_z0 (t' := 60) rfl rfl (.os Try.underlying56 (List.mem_singleton.2 rfl) rfl (Nat.le_of_ble_eq_true rfl) rfl) Try.underlying56 info62 rfl (by omega) (by omega)) rfl ?_
              | refine s2w rfl (lop_append_os (t' := 60) (R := []) rfl rfl rfl (by rw [flat_length PartD.len, List.length_map, hlen2]) (.sl Try.underlying56 rfl) Try.underlying56 info62 rfl (by omega) (by omega)) rfl ?_
              | refine s1w rfl (lop_append_z0 (t' := 60) (R := []) rfl rfl (.sl Try.underlying56 rfl) Try.underlying56 info62 rfl (by omega) (by omega)) rfl ?_
              | refine s2w rfl (lop_append_os (t' := 60) (R := []) rfl rfl rfl (by rw [flat_length PartD.len, List.length_map, hlen2]) (.z0 Try.underlying56) Try.underlying56 info62 rfl (by omega) (by omega)) rfl ?_
              | refine s1w rfl (lop_append_z0 (t' := 60) (R := []) rfl rfl (.z0 Try.underlying56) Try.underlying56 info62 rfl (by omega) (by omega)) rfl ?_
            first
              | refine s1 rfl (lop_assign (v := .sl _ _) rfl) ?_
              | refine s1 rfl (lop_assign (v := .os _ _ _ _) rfl) ?_
              | refine s1 rfl (lop_assign (v := .z0) rfl) ?_
            refine ops_nil ?_
            refine ok_region ?_
            refine s1 rfl (lop_assign (v := .bool _) rfl) ?_
            refine ops_nil ?_
            refine ok_region ?_
            refine s1 rfl (lop_move (v := .int _ _) rfl) ?_
            refine s1 rfl (lop_bop rfl rfl rfl (bop_add (by omega) (by omega))) ?_
            refine s1 rfl (lop_assign (v := .int _ _) rfl) ?_
            refine ops_nil ?_
            have hbf : b = false := by simpa using h_t24
            subst hbf
            have hsel : selP v.parts[i] ps[j] = true := by unfold selP; simp [p9_12, h_t53]
            have hc := ch_first hj (hn rfl) hsel
            have e1 : v.parts.take (i + 1) = v.parts.take i ++ [v.parts[i]] := by rw [List.take_add_one, List.getElem?_eq_getElem hri]; rfl
            have eR : List.flatMap PartD.enc (List.map (chF ps) (v.parts.take i)) ++ ps[j].enc = List.flatMap PartD.enc (List.map (chF ps) (v.parts.take (i + 1))) := by rw [e1, List.map_append, List.flatMap_append, List.map_singleton, List.flatMap_singleton, hc]
            exact ⟨⟨(j + 1, true), by simp only; omega, (fun h => by cases h), fun _ => List.any_eq_true.2 ⟨_, List.getElem_mem hj, hsel⟩⟩, by simp only; omega, le_ren [(100, some 60)] ⟨rfl, rfl, rfl, rfl, rfl, rfl, trivial⟩ rfl ⟨⟨_, rfl, rfl⟩, ⟨_, rfl, eR⟩, trivial⟩ rfl rfl rfl⟩
          · refine ok_skip ?_
            refine ok_region ?_
            refine s1 rfl (lop_move (v := .int _ _) rfl) ?_
            refine s1 rfl (lop_bop rfl rfl rfl (bop_add (by omega) (by omega))) ?_
            refine s1 rfl (lop_assign (v := .int _ _) rfl) ?_
            refine ops_nil ?_
            have hbf : b = false := by simpa using h_t24
            exact ⟨⟨(j + 1, b), by simp only; omega, fun _ => none_step (hn hbf) hj (by unfold selP; simp [h_t53]), ht⟩, by simp only; omega, le_mk ⟨rfl, rfl, rfl, rfl, rfl, rfl, trivial⟩ ⟨.inr rfl, .inr rfl, trivial⟩ rfl⟩
        · refine dn1 rfl rfl g9_12 rfl ?_
          refine dn1 rfl rfl g9_12 rfl ?_
          refine dn1 rfl rfl g9_12 rfl ?_
          refine dn1 rfl rfl g9_12 rfl ?_
          refine dn1 rfl rfl g9_12 rfl ?_
          refine dn1 rfl rfl g9_12 rfl ?_
          refine dn1 rfl rfl g9_12 rfl ?_
          refine dn1 rfl rfl g9_12 rfl ?_
          refine dn1 rfl rfl g9_12 rfl ?_
          refine dn1 rfl rfl g9_12 rfl ?_
          refine dn1 rfl rfl g9_12 rfl ?_
          refine dn1 rfl rfl g9_12 rfl ?_
          refine dn1 rfl rfl g9_12 rfl ?_
          first
            | refine d1 rfl rfl (lop_pick_f (v := .bool _) rfl g9_12 rfl) ?_
            | refine d1 rfl rfl (lop_pick_t (v := .bool _) rfl rfl rfl) ?_
            | refine d1 rfl rfl (lop_pick_f (v := .bool _) rfl rfl rfl) ?_
            | refine d1 rfl rfl (lop_pick rfl rfl rfl) ?_
          refine dr_nil (by kernel_rfl) ?_
          refine ok_false rfl rfl ?_
          refine ok_skip ?_
          refine ok_region ?_
          refine s1 rfl (lop_move (v := .int _ _) rfl) ?_
          refine s1 rfl (lop_bop rfl rfl rfl (bop_add (by omega) (by omega))) ?_
          refine s1 rfl (lop_assign (v := .int _ _) rfl) ?_
          refine ops_nil ?_
          have hbf : b = false := by simpa using h_t24
          exact ⟨⟨(j + 1, b), by simp only; omega, fun _ => none_step (hn hbf) hj (by unfold selP; simp [p9_12]), ht⟩, by simp only; omega, le_mk ⟨rfl, rfl, rfl, rfl, rfl, rfl, trivial⟩ ⟨.inr rfl, .inr rfl, trivial⟩ rfl⟩
      · refine ok_exit ?_
        refine ok_reg ?_
        refine s1 rfl (lop_move (v := .bool _) rfl) ?_
        refine s1 rfl (lop_not rfl) ?_
        refine ops_nil ?_
        first
          | refine ok_if _ rfl rfl (fun h_t62 => ?_) (fun h_t62 => ?_)
          | refine ok_cond rfl rfl (fun h_t62 => ?_) (fun h_t62 => ?_)
        · refine ok_reg ?_
          refine s1 rfl (lop_assign (v := .str _) rfl) ?_
          refine s1 rfl (lop_assign (v := .int _ _) rfl) ?_
          refine ops_nil ?_
          refine ok_ret ?_
          first
          | (rw [fillF_yes hna]; exact ret_two rfl rfl rfl rfl rfl rfl rfl)
          | (rw [fillF_no hri (idx_none (by rw [← idxOf_no (fun k hk => hn (by simpa using h_t62) k hk (by omega))]; decide))]; exact ret_two rfl rfl rfl rfl rfl rfl rfl)
          | (exfalso; simp at *; simp [h_t24] at h_t62)
        · refine ok_skip ?_
          refine ok_region ?_
          refine s1 rfl (lop_move (v := .int _ _) rfl) ?_
          refine s1 rfl (lop_bop rfl rfl rfl (bop_add (by omega) (by omega))) ?_
          refine s1 rfl (lop_assign (v := .int _ _) rfl) ?_
          refine ops_nil ?_
          have hb1 : b = true := by simpa using h_t62
          have ha := ht hb1
          subst hb1
          exact ⟨⟨i + 1, by omega, any_step hna hri ha⟩, by simp only; omega, le_mk ⟨rfl, rfl, rfl, rfl, trivial⟩ ⟨.inr rfl, .inr rfl, trivial⟩ rfl⟩
    · refine n1 rfl rfl g7_4 ?_
      refine n1 rfl rfl g7_4 ?_
      first
        | refine s1 rfl (lop_pick_f (v := .bool _) rfl g7_4 rfl) ?_
        | refine s1 rfl (lop_pick_t (v := .bool _) rfl rfl rfl) ?_
        | refine s1 rfl (lop_pick_f (v := .bool _) rfl rfl rfl) ?_
        | refine s1 rfl (lop_pick rfl rfl rfl) ?_
      refine ops_nil ?_
      refine ok_false rfl rfl ?_
      refine ok_exit ?_
      refine ok_reg ?_
      refine s1 rfl (lop_move (v := .bool _) rfl) ?_
      refine s1 rfl (lop_not rfl) ?_
      refine ops_nil ?_
      first
        | refine ok_if _ rfl rfl (fun h_t62 => ?_) (fun h_t62 => ?_)
        | refine ok_cond rfl rfl (fun h_t62 => ?_) (fun h_t62 => ?_)
      · refine ok_reg ?_
        refine s1 rfl (lop_assign (v := .str _) rfl) ?_
        refine s1 rfl (lop_assign (v := .int _ _) rfl) ?_
        refine ops_nil ?_
        refine ok_ret ?_
        first
        | (rw [fillF_yes hna]; exact ret_two rfl rfl rfl rfl rfl rfl rfl)
        | (rw [fillF_no hri (idx_none (by rw [← idxOf_no (fun k hk => hn (by simpa using h_t62) k hk (by omega))]; decide))]; exact ret_two rfl rfl rfl rfl rfl rfl rfl)
        | (exfalso; simp at *; simp [h_t24] at h_t62)
      · refine ok_skip ?_
        refine ok_region ?_
        refine s1 rfl (lop_move (v := .int _ _) rfl) ?_
        refine s1 rfl (lop_bop rfl rfl rfl (bop_add (by omega) (by omega))) ?_
        refine s1 rfl (lop_assign (v := .int _ _) rfl) ?_
        refine ops_nil ?_
        have hb1 : b = true := by simpa using h_t62
        have ha := ht hb1
        subst hb1
        exact ⟨⟨i + 1, by omega, any_step hna hri ha⟩, by simp only; omega, le_mk ⟨rfl, rfl, rfl, rfl, trivial⟩ ⟨.inr rfl, .inr rfl, trivial⟩ rfl⟩
  · refine ok_exit ?_
    refine ok_reg ?_
    have e9 : i = v.parts.length := by omega
    subst e9
    refine ops_le (T := ⟨[(6, rowOf PartD.enc (v.parts.map (chF ps)))], [], 67⟩) (le_frz [100] ⟨.inr (by unfold rowOf; rw [List.length_map]; exact .osf (List.mem_singleton.2 rfl) rfl (by rw [List.take_length, flat_length PartD.len, List.length_map]; omega) (by rw [List.take_length, List.drop_zero, List.take_of_length_le (by rw [flat_length PartD.len, List.length_map]; omega)])), trivial⟩ trivial (fun t ht => by simp at ht; subst ht; exact Option.some_ne_none _) rfl) ?_
    first
      | refine s1 rfl (lop_move (v := .sl _ _) rfl) ?_
      | refine s1 rfl (lop_move (v := .os _ _ _ _) rfl) ?_
      | refine s1 rfl (lop_move (v := .z0) rfl) ?_
    refine s1 rfl (lop_call rfl Try.call47 (FrzL.tf rfl) (.inl rfl) (ref06_Lay_ac (n := 160) (by decide) (by rw [List.length_map]; omega))) ?_
    refine s1 rfl (lop_extract rfl rfl) ?_
    refine s1 rfl (lop_extract rfl rfl) ?_
    refine s1 rfl (lop_assign (v := .str _) rfl) ?_
    refine s1 rfl (lop_assign (v := .int _ _) rfl) ?_
    refine ops_nil ?_
    refine ok_ret ?_
    first
    | (rw [fillF_yes hna]; exact ret_two rfl rfl rfl rfl rfl rfl rfl)
    | (rw [fillF_no hri (idx_none (by rw [← idxOf_no (fun k hk => hn (by simpa using h_t62) k hk (by omega))]; decide))]; exact ret_two rfl rfl rfl rfl rfl rfl rfl)
    | (exfalso; simp at *; simp [h_t24] at h_t62)

end Go.Proofs
