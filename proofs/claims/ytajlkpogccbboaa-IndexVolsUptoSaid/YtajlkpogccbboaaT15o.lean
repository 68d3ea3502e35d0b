/- Chapter 15: walks. Printed by gen.py. -/
import Derived.Test.YtajlkpogccbboaaT15n
set_option linter.unusedVariables false
set_option linter.unusedSimpArgs false
set_option maxRecDepth 100000
namespace Go.Proofs
open Go.Hg

set_option maxHeartbeats 4000000 in
theorem IndexVols_ac {l : List CmdD} (hl : CmdsOk l) : AC Try.prog 5 [rowOf CmdD.enc l] (.bool true) := by
  have hG := runs_good l
  have hF := runs_fit hl.1
  have hvl := hF.vols
  refine AC.intro Try.func5 rfl (Nat.le_of_ble_eq_true rfl) ?_
  refine ok_reg ?_
  refine s1 rfl (lop_assign (v := .bool _) rfl) ?_
  refine ops_nil ?_
  refine ok_reg ?_
  refine s1 rfl (lop_call rfl Try.call9 (FrzL.tf rfl) (.inl rfl) shown_ac) ?_
  refine s1 rfl (lop_assign (v := .bool _) rfl) ?_
  refine ops_nil ?_
  refine ok_reg ?_
  first
    | refine s1 rfl (lop_move (v := .sl _ _) rfl) ?_
    | refine s1 rfl (lop_move (v := .os _ _ _ _) rfl) ?_
    | refine s1 rfl (lop_move (v := .z0) rfl) ?_
  refine s1 rfl (lop_call rfl Try.call14 (FrzL.tf rfl) (.inl rfl) (runs_ac hl)) ?_
  refine s1w rfl (lop_new (t := 4) (cs := [.z0, .z0, .z0]) Try.zeroValue26 rfl rfl rfl rfl) rfl ?_
  first
    | refine s0w rfl (lop_storeK (v := .agg [_, _, _]) (cs' := [_, _, _]) (f' := true) rfl rfl rfl Try.sizeOf26 rfl rfl rfl rfl rfl) ?_
    | refine s0w rfl (lop_storeK (v := .agg [_, _, _]) (cs' := [_, _, _]) (f' := false) rfl rfl rfl Try.sizeOf26 rfl rfl rfl rfl rfl) ?_
  refine ops_nil ?_
  refine ok_seq ?_
  refine ok_reg ?_
  refine s1 rfl (lop_assign (v := .int _ _) rfl) ?_
  refine ops_nil ?_
  refine ok_block ?_
  refine ok_loop (ι := {i : Nat // i ≤ (runsF l).vols.length}) (fun i => ⟨[(3, .bool true), (4, .rf 4 0), (5, i64 i.1)], [(4, some (true, (runsF l).enc))], 178⟩) (fun i => (runsF l).vols.length - i.1) (⟨0, Nat.zero_le _⟩) ?_ ?_
  · exact le_mk ⟨rfl, rfl, rfl, trivial⟩ ⟨.inr rfl, trivial⟩ rfl
  rintro ⟨i, hi⟩
  dsimp only
  refine ok_seq ?_
  refine ok_reg ?_
  refine s1 rfl (lop_move (v := .int _ _) rfl) ?_
  first
    | refine s1 rfl (lop_fieldAddr_rf (fo := 0) rfl Try.underlying26 rfl rfl Try.sizeOf22 (by decide)) ?_
    | refine s1 rfl (lop_fieldAddr_fp (fo := 0) rfl Try.underlying26 rfl rfl Try.sizeOf22 (by decide) rfl) ?_
  first
    | refine s1 rfl (lop_load_rf rfl rfl Try.isAgg22 rfl) ?_
    | refine s1 rfl (lop_load_fp rfl Try.isAgg22 rfl) ?_
  refine s1 rfl (lop_len rfl Try.underlying22 ⟨⟨_, rfl⟩, rfl⟩) ?_
  refine s1 rfl (lop_lss rfl rfl) ?_
  refine ops_nil ?_
  first
    | refine ok_if _ rfl rfl (fun h_t20 => ?_) (fun h_t20 => ?_)
    | refine ok_cond rfl rfl (fun h_t20 => ?_) (fun h_t20 => ?_)
  · have hri : i < (runsF l).vols.length := by omega
    have hk : (runsF l).vols[i]? = some (runsF l).vols[i] := List.getElem?_eq_getElem hri
    have hc := core_at hk
    have hVI := hG.vi _ (List.getElem_mem hri)
    have h1 := hG.ci.c1 i _ hc
    have h5 := hG.ci.c5 i _ hc
    have h7 := hG.ci.c7 i _ hc
    have h2 := fun h => (hG.ci.c2 i _ hc h).1
    have hh := fun h => hG.ci.high hc h
    simp only [VolD.core] at h1 h5 h7 h2 hh
    have hpn : (runsF l).vols[i].places.length ≤ 1048590 := hF.places _ (List.getElem_mem hri)
    have hlow : (runsF l).vols[i].phase < 3 → (runsF l).vols[i].places.length = 0 := fun h => by rw [hVI.low h]; rfl
    have hhigh : 3 ≤ (runsF l).vols[i].phase → (runsF l).vols[i].places.length = 14 := fun h => (whole_iff.1 (hVI.high h)).1
    have hhome : ∀ p ∈ (runsF l).vols[i].places, p.r = (runsF l).vols[i].home := fun p hp => by
      rcases Int.lt_or_le (runsF l).vols[i].phase 3 with h | h
      · rw [hVI.low h] at hp; cases hp
      · exact (whole_iff.1 (hVI.high h)).2.1 p hp
    have hnd : (runsF l).vols[i].places.Nodup := by
      rcases Int.lt_or_le (runsF l).vols[i].phase 3 with h | h
      · rw [hVI.low h]; exact List.nodup_nil
      · exact (whole_iff.1 (hVI.high h)).2.2
    refine ok_skip ?_
    refine ok_seq ?_
    refine ok_block ?_
    refine ok_reg ?_
    first
      | refine s1 rfl (lop_fieldAddr_rf (fo := 0) rfl Try.underlying26 rfl rfl Try.sizeOf22 (by decide)) ?_
      | refine s1 rfl (lop_fieldAddr_fp (fo := 0) rfl Try.underlying26 rfl rfl Try.sizeOf22 (by decide) rfl) ?_
    first
      | refine s1 rfl (lop_load_rf rfl rfl Try.isAgg22 rfl) ?_
      | refine s1 rfl (lop_load_fp rfl Try.isAgg22 rfl) ?_
    refine s1 rfl (lop_move (v := .int _ _) rfl) ?_
    first
      | refine s1 rfl (lop_indexAddr_os rfl rfl Try.underlying22 Try.sizeOf50 rfl hri) ?_
      | refine s1 rfl (lop_indexAddr_sl rfl rfl Try.underlying22 Try.sizeOf50 rfl hri (flat_at VolD.len hri) (flat_ne VolD.len (by decide) hri)) ?_
    first
      | refine s1 rfl (lop_load_rf_agg rfl rfl Try.isAgg50 Try.sizeOf50 (by rw [List.length_append, VolD.len]; omega) (by rw [List.take_append_of_le_length (by rw [VolD.len]; omega), List.take_of_length_le (by rw [VolD.len]; omega)])) ?_
      | refine s1 rfl (lop_load_fp_agg rfl Try.isAgg50 Try.sizeOf50 (by rw [List.length_append, VolD.len]; omega) (by rw [List.take_append_of_le_length (by rw [VolD.len]; omega), List.take_of_length_le (by rw [VolD.len]; omega)])) ?_
    refine s1w rfl (lop_new (t := 6) (cs := [.int _ _, .int _ _, .int _ _, .int _ _, .int _ _, .z0, .z0, .int _ _, .int _ _]) Try.zeroValue50 rfl rfl rfl rfl) rfl ?_
    first
      | refine s0w rfl (lop_storeK (v := .agg [.int _ _, .int _ _, .int _ _, .int _ _, .int _ _, _, _, .int _ _, .int _ _]) (cs' := [.int _ _, .int _ _, .int _ _, .int _ _, .int _ _, _, _, .int _ _, .int _ _]) (f' := true) rfl rfl rfl Try.sizeOf50 rfl rfl rfl rfl rfl) ?_
      | refine s0w rfl (lop_storeK (v := .agg [.int _ _, .int _ _, .int _ _, .int _ _, .int _ _, _, _, .int _ _, .int _ _]) (cs' := [.int _ _, .int _ _, .int _ _, .int _ _, .int _ _, _, _, .int _ _, .int _ _]) (f' := false) rfl rfl rfl Try.sizeOf50 rfl rfl rfl rfl rfl) ?_
    refine ops_nil ?_
    refine ok_seq ?_
    refine ok_seq_cut (ι := Unit) (fun _ => ⟨[(3, .bool true), (4, .rf 4 0), (5, i64 i), (6, .rf 6 0), (42, .bool false)], [(4, some (true, (runsF l).enc)), (6, some (true, (runsF l).vols[i].enc))], 178⟩) ?_ ?_
    · refine ok_region ?_
      first
        | refine s1 rfl (lop_fieldAddr_rf (fo := 4) rfl Try.underlying50 rfl rfl Try.sizeOf3 (by decide)) ?_
        | refine s1 rfl (lop_fieldAddr_fp (fo := 4) rfl Try.underlying50 rfl rfl Try.sizeOf3 (by decide) rfl) ?_
      first
        | refine s1 rfl (lop_load_rf rfl rfl Try.isAgg3 rfl) ?_
        | refine s1 rfl (lop_load_fp rfl Try.isAgg3 rfl) ?_
      refine s1 rfl (lop_eql rfl rfl) ?_
      refine s1 rfl (lop_move (v := .bool _) rfl) ?_
      first
        | refine gsplitP 3 rfl rfl (fun g7_3 p7_3 => ?_) (fun g7_3 p7_3 => ?_)
        | refine gsplitB 3 rfl rfl (fun g7_3 p7_3 => ?_) (fun g7_3 p7_3 => ?_)
      · have hh := hh p7_3
        have h2 := h2 p7_3
        first
          | refine y1 rfl rfl g7_3 rfl (lop_fieldAddr_rf (fo := 0) rfl Try.underlying50 rfl rfl Try.sizeOf3 (by decide)) ?_
          | refine y1 rfl rfl g7_3 rfl (lop_fieldAddr_fp (fo := 0) rfl Try.underlying50 rfl rfl Try.sizeOf3 (by decide) rfl) ?_
        first
          | refine y1 rfl rfl g7_3 rfl (lop_load_rf rfl rfl Try.isAgg3 rfl) ?_
          | refine y1 rfl rfl g7_3 rfl (lop_load_fp rfl Try.isAgg3 rfl) ?_
        first
          | refine y1 rfl rfl g7_3 rfl (lop_fieldAddr_rf (fo := 7) rfl Try.underlying50 rfl rfl Try.sizeOf3 (by decide)) ?_
          | refine y1 rfl rfl g7_3 rfl (lop_fieldAddr_fp (fo := 7) rfl Try.underlying50 rfl rfl Try.sizeOf3 (by decide) rfl) ?_
        first
          | refine y1 rfl rfl g7_3 rfl (lop_load_rf rfl rfl Try.isAgg3 rfl) ?_
          | refine y1 rfl rfl g7_3 rfl (lop_load_fp rfl Try.isAgg3 rfl) ?_
        refine y1 rfl rfl g7_3 rfl (lop_bop rfl rfl rfl (bop_mul (by omega) (by omega))) ?_
        refine y1 rfl rfl g7_3 rfl (lop_bop rfl rfl rfl (bop_add (by omega) (by omega))) ?_
        first
          | refine y1 rfl rfl g7_3 rfl (lop_fieldAddr_rf (fo := 8) rfl Try.underlying50 rfl rfl Try.sizeOf3 (by decide)) ?_
          | refine y1 rfl rfl g7_3 rfl (lop_fieldAddr_fp (fo := 8) rfl Try.underlying50 rfl rfl Try.sizeOf3 (by decide) rfl) ?_
        first
          | refine y1 rfl rfl g7_3 rfl (lop_load_rf rfl rfl Try.isAgg3 rfl) ?_
          | refine y1 rfl rfl g7_3 rfl (lop_load_fp rfl Try.isAgg3 rfl) ?_
        refine y1 rfl rfl g7_3 rfl (lop_bop rfl rfl rfl (bop_add (by omega) (by omega))) ?_
        refine y1 rfl rfl g7_3 rfl (lop_neq rfl rfl) ?_
        first
          | refine s1 rfl (lop_pick_t (v := .bool _) rfl g7_3 rfl) ?_
          | refine s1 rfl (lop_pick_t (v := .bool _) rfl rfl rfl) ?_
          | refine s1 rfl (lop_pick_f (v := .bool _) rfl rfl rfl) ?_
          | refine s1 rfl (lop_pick rfl rfl rfl) ?_
        refine ops_nil ?_
        exact ⟨(), le_mk ⟨rfl, rfl, rfl, rfl, by first | rfl | exact congrArg V.bool (decide_eq_false (by omega)), trivial⟩ ⟨.inr rfl, .inr rfl, trivial⟩ rfl⟩
      · refine n1 rfl rfl g7_3 ?_
        refine n1 rfl rfl g7_3 ?_
        refine n1 rfl rfl g7_3 ?_
        refine n1 rfl rfl g7_3 ?_
        refine n1 rfl rfl g7_3 ?_
        refine n1 rfl rfl g7_3 ?_
        refine n1 rfl rfl g7_3 ?_
        refine n1 rfl rfl g7_3 ?_
        refine n1 rfl rfl g7_3 ?_
        refine n1 rfl rfl g7_3 ?_
        first
          | refine s1 rfl (lop_pick_f (v := .bool _) rfl g7_3 rfl) ?_
          | refine s1 rfl (lop_pick_t (v := .bool _) rfl rfl rfl) ?_
          | refine s1 rfl (lop_pick_f (v := .bool _) rfl rfl rfl) ?_
          | refine s1 rfl (lop_pick rfl rfl rfl) ?_
        refine ops_nil ?_
        exact ⟨(), le_mk ⟨rfl, rfl, rfl, rfl, by first | rfl | exact congrArg V.bool (decide_eq_false (by omega)), trivial⟩ ⟨.inr rfl, .inr rfl, trivial⟩ rfl⟩
    · rintro ⟨⟩
      refine ok_false rfl rfl ?_
      refine ok_skip ?_
      refine ok_seq ?_
      refine ok_seq_cut (ι := Unit) (fun _ => ⟨[(3, .bool true), (4, .rf 4 0), (5, i64 i), (6, .rf 6 0), (84, .bool false)], [(4, some (true, (runsF l).enc)), (6, some (true, (runsF l).vols[i].enc))], 178⟩) ?_ ?_
      · refine ok_region ?_
        first
          | refine s1 rfl (lop_fieldAddr_rf (fo := 4) rfl Try.underlying50 rfl rfl Try.sizeOf3 (by decide)) ?_
          | refine s1 rfl (lop_fieldAddr_fp (fo := 4) rfl Try.underlying50 rfl rfl Try.sizeOf3 (by decide) rfl) ?_
        first
          | refine s1 rfl (lop_load_rf rfl rfl Try.isAgg3 rfl) ?_
          | refine s1 rfl (lop_load_fp rfl Try.isAgg3 rfl) ?_
        refine s1 rfl (lop_neq rfl rfl) ?_
        refine s1 rfl (lop_move (v := .bool _) rfl) ?_
        first
          | refine gsplitP 3 rfl rfl (fun g9_3 p9_3 => ?_) (fun g9_3 p9_3 => ?_)
          | refine gsplitB 3 rfl rfl (fun g9_3 p9_3 => ?_) (fun g9_3 p9_3 => ?_)
        · have h1 := h1 p9_3
          first
            | refine y1 rfl rfl g9_3 rfl (lop_fieldAddr_rf (fo := 0) rfl Try.underlying50 rfl rfl Try.sizeOf3 (by decide)) ?_
            | refine y1 rfl rfl g9_3 rfl (lop_fieldAddr_fp (fo := 0) rfl Try.underlying50 rfl rfl Try.sizeOf3 (by decide) rfl) ?_
          first
            | refine y1 rfl rfl g9_3 rfl (lop_load_rf rfl rfl Try.isAgg3 rfl) ?_
            | refine y1 rfl rfl g9_3 rfl (lop_load_fp rfl Try.isAgg3 rfl) ?_
          refine y1 rfl rfl g9_3 rfl (lop_move (v := .int _ _) rfl) ?_
          refine y1 rfl rfl g9_3 rfl (lop_bop rfl rfl rfl (bop_add (by omega) (by omega))) ?_
          refine y1 rfl rfl g9_3 rfl (lop_neq rfl rfl) ?_
          first
            | refine s1 rfl (lop_pick_t (v := .bool _) rfl g9_3 rfl) ?_
            | refine s1 rfl (lop_pick_t (v := .bool _) rfl rfl rfl) ?_
            | refine s1 rfl (lop_pick_f (v := .bool _) rfl rfl rfl) ?_
            | refine s1 rfl (lop_pick rfl rfl rfl) ?_
          refine s1 rfl (lop_move (v := .bool _) rfl) ?_
          first
            | refine gsplitP 10 rfl rfl (fun g9_10 p9_10 => ?_) (fun g9_10 p9_10 => ?_)
            | refine gsplitB 10 rfl rfl (fun g9_10 p9_10 => ?_) (fun g9_10 p9_10 => ?_)
          · exfalso; omega
          · first
              | refine y1 rfl rfl g9_10 rfl (lop_fieldAddr_rf (fo := 4) rfl Try.underlying50 rfl rfl Try.sizeOf3 (by decide)) ?_
              | refine y1 rfl rfl g9_10 rfl (lop_fieldAddr_fp (fo := 4) rfl Try.underlying50 rfl rfl Try.sizeOf3 (by decide) rfl) ?_
            first
              | refine y1 rfl rfl g9_10 rfl (lop_load_rf rfl rfl Try.isAgg3 rfl) ?_
              | refine y1 rfl rfl g9_10 rfl (lop_load_fp rfl Try.isAgg3 rfl) ?_
            refine y1 rfl rfl g9_10 rfl (lop_lss rfl rfl) ?_
            first
              | refine s1 rfl (lop_pick_t (v := .bool _) rfl g9_3 rfl) ?_
              | refine s1 rfl (lop_pick_f (v := .bool _) rfl g9_10 rfl) ?_
              | refine s1 rfl (lop_pick_t (v := .bool _) rfl rfl rfl) ?_
              | refine s1 rfl (lop_pick_f (v := .bool _) rfl rfl rfl) ?_
              | refine s1 rfl (lop_pick rfl rfl rfl) ?_
            refine s1 rfl (lop_move (v := .bool _) rfl) ?_
            first
              | refine gsplitP 15 rfl rfl (fun g9_15 p9_15 => ?_) (fun g9_15 p9_15 => ?_)
              | refine gsplitB 15 rfl rfl (fun g9_15 p9_15 => ?_) (fun g9_15 p9_15 => ?_)
            · exfalso; omega
            · first
                | refine y1 rfl rfl g9_15 rfl (lop_fieldAddr_rf (fo := 4) rfl Try.underlying50 rfl rfl Try.sizeOf3 (by decide)) ?_
                | refine y1 rfl rfl g9_15 rfl (lop_fieldAddr_fp (fo := 4) rfl Try.underlying50 rfl rfl Try.sizeOf3 (by decide) rfl) ?_
              first
                | refine y1 rfl rfl g9_15 rfl (lop_load_rf rfl rfl Try.isAgg3 rfl) ?_
                | refine y1 rfl rfl g9_15 rfl (lop_load_fp rfl Try.isAgg3 rfl) ?_
              refine y1 rfl rfl g9_15 rfl (lop_gtr rfl rfl) ?_
              first
                | refine s1 rfl (lop_pick_t (v := .bool _) rfl g9_3 rfl) ?_
                | refine s1 rfl (lop_pick_f (v := .bool _) rfl g9_10 rfl) ?_
                | refine s1 rfl (lop_pick_f (v := .bool _) rfl g9_15 rfl) ?_
                | refine s1 rfl (lop_pick_t (v := .bool _) rfl rfl rfl) ?_
                | refine s1 rfl (lop_pick_f (v := .bool _) rfl rfl rfl) ?_
                | refine s1 rfl (lop_pick rfl rfl rfl) ?_
              refine s1 rfl (lop_move (v := .bool _) rfl) ?_
              first
                | refine gsplitP 20 rfl rfl (fun g9_20 p9_20 => ?_) (fun g9_20 p9_20 => ?_)
                | refine gsplitB 20 rfl rfl (fun g9_20 p9_20 => ?_) (fun g9_20 p9_20 => ?_)
              · exfalso; omega
              · first
                  | refine y1 rfl rfl g9_20 rfl (lop_fieldAddr_rf (fo := 4) rfl Try.underlying50 rfl rfl Try.sizeOf3 (by decide)) ?_
                  | refine y1 rfl rfl g9_20 rfl (lop_fieldAddr_fp (fo := 4) rfl Try.underlying50 rfl rfl Try.sizeOf3 (by decide) rfl) ?_
                first
                  | refine y1 rfl rfl g9_20 rfl (lop_load_rf rfl rfl Try.isAgg3 rfl) ?_
                  | refine y1 rfl rfl g9_20 rfl (lop_load_fp rfl Try.isAgg3 rfl) ?_
                refine y1 rfl rfl g9_20 rfl (lop_lss rfl rfl) ?_
                refine y1 rfl rfl g9_20 rfl (lop_move (v := .bool _) rfl) ?_
                first
                  | refine gsplitP 24 rfl rfl (fun g9_24 p9_24 => ?_) (fun g9_24 p9_24 => ?_)
                  | refine gsplitB 24 rfl rfl (fun g9_24 p9_24 => ?_) (fun g9_24 p9_24 => ?_)
                · have hlow := hlow p9_24
                  first
                    | refine y1 rfl rfl g9_24 rfl (lop_fieldAddr_rf (fo := 6) rfl Try.underlying50 rfl rfl Try.sizeOf28 (by decide)) ?_
                    | refine y1 rfl rfl g9_24 rfl (lop_fieldAddr_fp (fo := 6) rfl Try.underlying50 rfl rfl Try.sizeOf28 (by decide) rfl) ?_
                  first
                    | refine y1 rfl rfl g9_24 rfl (lop_load_rf rfl rfl Try.isAgg28 rfl) ?_
                    | refine y1 rfl rfl g9_24 rfl (lop_load_fp rfl Try.isAgg28 rfl) ?_
                  refine y1 rfl rfl g9_24 rfl (lop_len rfl Try.underlying28 ⟨⟨_, rfl⟩, rfl⟩) ?_
                  refine y1 rfl rfl g9_24 rfl (lop_gtr rfl rfl) ?_
                  first
                    | refine y1 rfl rfl g9_20 rfl (lop_pick_t (v := .bool _) rfl g9_3 rfl) ?_
                    | refine y1 rfl rfl g9_20 rfl (lop_pick_f (v := .bool _) rfl g9_10 rfl) ?_
                    | refine y1 rfl rfl g9_20 rfl (lop_pick_f (v := .bool _) rfl g9_15 rfl) ?_
                    | refine y1 rfl rfl g9_20 rfl (lop_pick_f (v := .bool _) rfl g9_20 rfl) ?_
                    | refine y1 rfl rfl g9_20 rfl (lop_pick_t (v := .bool _) rfl g9_24 rfl) ?_
                    | refine y1 rfl rfl g9_20 rfl (lop_pick_t (v := .bool _) rfl rfl rfl) ?_
                    | refine y1 rfl rfl g9_20 rfl (lop_pick_f (v := .bool _) rfl rfl rfl) ?_
                    | refine y1 rfl rfl g9_20 rfl (lop_pick rfl rfl rfl) ?_
                  first
                    | refine s1 rfl (lop_pick_t (v := .bool _) rfl g9_3 rfl) ?_
                    | refine s1 rfl (lop_pick_f (v := .bool _) rfl g9_10 rfl) ?_
                    | refine s1 rfl (lop_pick_f (v := .bool _) rfl g9_15 rfl) ?_
                    | refine s1 rfl (lop_pick_f (v := .bool _) rfl g9_20 rfl) ?_
                    | refine s1 rfl (lop_pick_t (v := .bool _) rfl g9_24 rfl) ?_
                    | refine s1 rfl (lop_pick_t (v := .bool _) rfl rfl rfl) ?_
                    | refine s1 rfl (lop_pick_f (v := .bool _) rfl rfl rfl) ?_
                    | refine s1 rfl (lop_pick rfl rfl rfl) ?_
                  refine s1 rfl (lop_move (v := .bool _) rfl) ?_
                  first
                    | refine gsplitP 31 rfl rfl (fun g9_31 p9_31 => ?_) (fun g9_31 p9_31 => ?_)
                    | refine gsplitB 31 rfl rfl (fun g9_31 p9_31 => ?_) (fun g9_31 p9_31 => ?_)
                  · exfalso; omega
                  · first
                      | refine y1 rfl rfl g9_31 rfl (lop_fieldAddr_rf (fo := 4) rfl Try.underlying50 rfl rfl Try.sizeOf3 (by decide)) ?_
                      | refine y1 rfl rfl g9_31 rfl (lop_fieldAddr_fp (fo := 4) rfl Try.underlying50 rfl rfl Try.sizeOf3 (by decide) rfl) ?_
                    first
                      | refine y1 rfl rfl g9_31 rfl (lop_load_rf rfl rfl Try.isAgg3 rfl) ?_
                      | refine y1 rfl rfl g9_31 rfl (lop_load_fp rfl Try.isAgg3 rfl) ?_
                    refine y1 rfl rfl g9_31 rfl (lop_geq rfl rfl) ?_
                    refine y1 rfl rfl g9_31 rfl (lop_move (v := .bool _) rfl) ?_
                    first
                      | refine gsplitP 35 rfl rfl (fun g9_35 p9_35 => ?_) (fun g9_35 p9_35 => ?_)
                      | refine gsplitB 35 rfl rfl (fun g9_35 p9_35 => ?_) (fun g9_35 p9_35 => ?_)
                    · have hhigh := hhigh p9_35
                      first
                        | refine y1 rfl rfl g9_35 rfl (lop_fieldAddr_rf (fo := 6) rfl Try.underlying50 rfl rfl Try.sizeOf28 (by decide)) ?_
                        | refine y1 rfl rfl g9_35 rfl (lop_fieldAddr_fp (fo := 6) rfl Try.underlying50 rfl rfl Try.sizeOf28 (by decide) rfl) ?_
                      first
                        | refine y1 rfl rfl g9_35 rfl (lop_load_rf rfl rfl Try.isAgg28 rfl) ?_
                        | refine y1 rfl rfl g9_35 rfl (lop_load_fp rfl Try.isAgg28 rfl) ?_
                      refine y1 rfl rfl g9_35 rfl (lop_len rfl Try.underlying28 ⟨⟨_, rfl⟩, rfl⟩) ?_
                      refine y1 rfl rfl g9_35 rfl (lop_neq rfl rfl) ?_
                      first
                        | refine y1 rfl rfl g9_31 rfl (lop_pick_t (v := .bool _) rfl g9_3 rfl) ?_
                        | refine y1 rfl rfl g9_31 rfl (lop_pick_f (v := .bool _) rfl g9_10 rfl) ?_
                        | refine y1 rfl rfl g9_31 rfl (lop_pick_f (v := .bool _) rfl g9_15 rfl) ?_
                        | refine y1 rfl rfl g9_31 rfl (lop_pick_f (v := .bool _) rfl g9_20 rfl) ?_
                        | refine y1 rfl rfl g9_31 rfl (lop_pick_t (v := .bool _) rfl g9_24 rfl) ?_
                        | refine y1 rfl rfl g9_31 rfl (lop_pick_f (v := .bool _) rfl g9_31 rfl) ?_
                        | refine y1 rfl rfl g9_31 rfl (lop_pick_t (v := .bool _) rfl g9_35 rfl) ?_
                        | refine y1 rfl rfl g9_31 rfl (lop_pick_t (v := .bool _) rfl rfl rfl) ?_
                        | refine y1 rfl rfl g9_31 rfl (lop_pick_f (v := .bool _) rfl rfl rfl) ?_
                        | refine y1 rfl rfl g9_31 rfl (lop_pick rfl rfl rfl) ?_
                      first
                        | refine s1 rfl (lop_pick_t (v := .bool _) rfl g9_3 rfl) ?_
                        | refine s1 rfl (lop_pick_f (v := .bool _) rfl g9_10 rfl) ?_
                        | refine s1 rfl (lop_pick_f (v := .bool _) rfl g9_15 rfl) ?_
                        | refine s1 rfl (lop_pick_f (v := .bool _) rfl g9_20 rfl) ?_
                        | refine s1 rfl (lop_pick_t (v := .bool _) rfl g9_24 rfl) ?_
                        | refine s1 rfl (lop_pick_f (v := .bool _) rfl g9_31 rfl) ?_
                        | refine s1 rfl (lop_pick_t (v := .bool _) rfl g9_35 rfl) ?_
                        | refine s1 rfl (lop_pick_t (v := .bool _) rfl rfl rfl) ?_
                        | refine s1 rfl (lop_pick_f (v := .bool _) rfl rfl rfl) ?_
                        | refine s1 rfl (lop_pick rfl rfl rfl) ?_
                      refine ops_nil ?_
                      exact ⟨(), le_mk ⟨rfl, rfl, rfl, rfl, by first | rfl | exact congrArg V.bool (decide_eq_false (by omega)), trivial⟩ ⟨.inr rfl, .inr rfl, trivial⟩ rfl⟩
                    · refine n1 rfl rfl g9_35 ?_
                      refine n1 rfl rfl g9_35 ?_
                      refine n1 rfl rfl g9_35 ?_
                      refine n1 rfl rfl g9_35 ?_
                      first
                        | refine y1 rfl rfl g9_31 rfl (lop_pick_t (v := .bool _) rfl g9_3 rfl) ?_
                        | refine y1 rfl rfl g9_31 rfl (lop_pick_f (v := .bool _) rfl g9_10 rfl) ?_
                        | refine y1 rfl rfl g9_31 rfl (lop_pick_f (v := .bool _) rfl g9_15 rfl) ?_
                        | refine y1 rfl rfl g9_31 rfl (lop_pick_f (v := .bool _) rfl g9_20 rfl) ?_
                        | refine y1 rfl rfl g9_31 rfl (lop_pick_t (v := .bool _) rfl g9_24 rfl) ?_
                        | refine y1 rfl rfl g9_31 rfl (lop_pick_f (v := .bool _) rfl g9_31 rfl) ?_
                        | refine y1 rfl rfl g9_31 rfl (lop_pick_f (v := .bool _) rfl g9_35 rfl) ?_
                        | refine y1 rfl rfl g9_31 rfl (lop_pick_t (v := .bool _) rfl rfl rfl) ?_
                        | refine y1 rfl rfl g9_31 rfl (lop_pick_f (v := .bool _) rfl rfl rfl) ?_
                        | refine y1 rfl rfl g9_31 rfl (lop_pick rfl rfl rfl) ?_
                      first
                        | refine s1 rfl (lop_pick_t (v := .bool _) rfl g9_3 rfl) ?_
                        | refine s1 rfl (lop_pick_f (v := .bool _) rfl g9_10 rfl) ?_
                        | refine s1 rfl (lop_pick_f (v := .bool _) rfl g9_15 rfl) ?_
                        | refine s1 rfl (lop_pick_f (v := .bool _) rfl g9_20 rfl) ?_
                        | refine s1 rfl (lop_pick_t (v := .bool _) rfl g9_24 rfl) ?_
                        | refine s1 rfl (lop_pick_f (v := .bool _) rfl g9_31 rfl) ?_
                        | refine s1 rfl (lop_pick_f (v := .bool _) rfl g9_35 rfl) ?_
                        | refine s1 rfl (lop_pick_t (v := .bool _) rfl rfl rfl) ?_
                        | refine s1 rfl (lop_pick_f (v := .bool _) rfl rfl rfl) ?_
                        | refine s1 rfl (lop_pick rfl rfl rfl) ?_
                      refine ops_nil ?_
                      exact ⟨(), le_mk ⟨rfl, rfl, rfl, rfl, by first | rfl | exact congrArg V.bool (decide_eq_false (by omega)), trivial⟩ ⟨.inr rfl, .inr rfl, trivial⟩ rfl⟩
                · refine n1 rfl rfl g9_24 ?_
                  refine n1 rfl rfl g9_24 ?_
                  refine n1 rfl rfl g9_24 ?_
                  refine n1 rfl rfl g9_24 ?_
                  first
                    | refine y1 rfl rfl g9_20 rfl (lop_pick_t (v := .bool _) rfl g9_3 rfl) ?_
                    | refine y1 rfl rfl g9_20 rfl (lop_pick_f (v := .bool _) rfl g9_10 rfl) ?_
                    | refine y1 rfl rfl g9_20 rfl (lop_pick_f (v := .bool _) rfl g9_15 rfl) ?_
                    | refine y1 rfl rfl g9_20 rfl (lop_pick_f (v := .bool _) rfl g9_20 rfl) ?_
                    | refine y1 rfl rfl g9_20 rfl (lop_pick_f (v := .bool _) rfl g9_24 rfl) ?_
                    | refine y1 rfl rfl g9_20 rfl (lop_pick_t (v := .bool _) rfl rfl rfl) ?_
                    | refine y1 rfl rfl g9_20 rfl (lop_pick_f (v := .bool _) rfl rfl rfl) ?_
                    | refine y1 rfl rfl g9_20 rfl (lop_pick rfl rfl rfl) ?_
                  first
                    | refine s1 rfl (lop_pick_t (v := .bool _) rfl g9_3 rfl) ?_
                    | refine s1 rfl (lop_pick_f (v := .bool _) rfl g9_10 rfl) ?_
                    | refine s1 rfl (lop_pick_f (v := .bool _) rfl g9_15 rfl) ?_
                    | refine s1 rfl (lop_pick_f (v := .bool _) rfl g9_20 rfl) ?_
                    | refine s1 rfl (lop_pick_f (v := .bool _) rfl g9_24 rfl) ?_
                    | refine s1 rfl (lop_pick_t (v := .bool _) rfl rfl rfl) ?_
                    | refine s1 rfl (lop_pick_f (v := .bool _) rfl rfl rfl) ?_
                    | refine s1 rfl (lop_pick rfl rfl rfl) ?_
                  refine s1 rfl (lop_move (v := .bool _) rfl) ?_
                  first
                    | refine y1 rfl rfl rfl rfl (lop_fieldAddr_rf (fo := 4) rfl Try.underlying50 rfl rfl Try.sizeOf3 (by decide)) ?_
                    | refine y1 rfl rfl rfl rfl (lop_fieldAddr_fp (fo := 4) rfl Try.underlying50 rfl rfl Try.sizeOf3 (by decide) rfl) ?_
                  first
                    | refine y1 rfl rfl rfl rfl (lop_load_rf rfl rfl Try.isAgg3 rfl) ?_
                    | refine y1 rfl rfl rfl rfl (lop_load_fp rfl Try.isAgg3 rfl) ?_
                  refine y1 rfl rfl rfl rfl (lop_geq rfl rfl) ?_
                  refine y1 rfl rfl rfl rfl (lop_move (v := .bool _) rfl) ?_
                  first
                    | refine gsplitP 35 rfl rfl (fun g9_35 p9_35 => ?_) (fun g9_35 p9_35 => ?_)
                    | refine gsplitB 35 rfl rfl (fun g9_35 p9_35 => ?_) (fun g9_35 p9_35 => ?_)
                  · have hhigh := hhigh p9_35
                    first
                      | refine y1 rfl rfl g9_35 rfl (lop_fieldAddr_rf (fo := 6) rfl Try.underlying50 rfl rfl Try.sizeOf28 (by decide)) ?_
                      | refine y1 rfl rfl g9_35 rfl (lop_fieldAddr_fp (fo := 6) rfl Try.underlying50 rfl rfl Try.sizeOf28 (by decide) rfl) ?_
                    first
                      | refine y1 rfl rfl g9_35 rfl (lop_load_rf rfl rfl Try.isAgg28 rfl) ?_
                      | refine y1 rfl rfl g9_35 rfl (lop_load_fp rfl Try.isAgg28 rfl) ?_
                    refine y1 rfl rfl g9_35 rfl (lop_len rfl Try.underlying28 ⟨⟨_, rfl⟩, rfl⟩) ?_
                    refine y1 rfl rfl g9_35 rfl (lop_neq rfl rfl) ?_
                    first
                      | refine y1 rfl rfl rfl rfl (lop_pick_t (v := .bool _) rfl g9_3 rfl) ?_
                      | refine y1 rfl rfl rfl rfl (lop_pick_f (v := .bool _) rfl g9_10 rfl) ?_
                      | refine y1 rfl rfl rfl rfl (lop_pick_f (v := .bool _) rfl g9_15 rfl) ?_
                      | refine y1 rfl rfl rfl rfl (lop_pick_f (v := .bool _) rfl g9_20 rfl) ?_
                      | refine y1 rfl rfl rfl rfl (lop_pick_f (v := .bool _) rfl g9_24 rfl) ?_
                      | refine y1 rfl rfl rfl rfl (lop_pick_f (v := .bool _) rfl rfl rfl) ?_
                      | refine y1 rfl rfl rfl rfl (lop_pick_t (v := .bool _) rfl g9_35 rfl) ?_
                      | refine y1 rfl rfl rfl rfl (lop_pick_t (v := .bool _) rfl rfl rfl) ?_
                      | refine y1 rfl rfl rfl rfl (lop_pick_f (v := .bool _) rfl rfl rfl) ?_
                      | refine y1 rfl rfl rfl rfl (lop_pick rfl rfl rfl) ?_
                    first
                      | refine s1 rfl (lop_pick_t (v := .bool _) rfl g9_3 rfl) ?_
                      | refine s1 rfl (lop_pick_f (v := .bool _) rfl g9_10 rfl) ?_
                      | refine s1 rfl (lop_pick_f (v := .bool _) rfl g9_15 rfl) ?_
                      | refine s1 rfl (lop_pick_f (v := .bool _) rfl g9_20 rfl) ?_
                      | refine s1 rfl (lop_pick_f (v := .bool _) rfl g9_24 rfl) ?_
                      | refine s1 rfl (lop_pick_f (v := .bool _) rfl rfl rfl) ?_
                      | refine s1 rfl (lop_pick_t (v := .bool _) rfl g9_35 rfl) ?_
                      | refine s1 rfl (lop_pick_t (v := .bool _) rfl rfl rfl) ?_
                      | refine s1 rfl (lop_pick_f (v := .bool _) rfl rfl rfl) ?_
                      | refine s1 rfl (lop_pick rfl rfl rfl) ?_
                    refine ops_nil ?_
                    exact ⟨(), le_mk ⟨rfl, rfl, rfl, rfl, by first | rfl | exact congrArg V.bool (decide_eq_false (by omega)), trivial⟩ ⟨.inr rfl, .inr rfl, trivial⟩ rfl⟩
                  · refine n1 rfl rfl g9_35 ?_
                    refine n1 rfl rfl g9_35 ?_
                    refine n1 rfl rfl g9_35 ?_
                    refine n1 rfl rfl g9_35 ?_
                    first
                      | refine y1 rfl rfl rfl rfl (lop_pick_t (v := .bool _) rfl g9_3 rfl) ?_
                      | refine y1 rfl rfl rfl rfl (lop_pick_f (v := .bool _) rfl g9_10 rfl) ?_
                      | refine y1 rfl rfl rfl rfl (lop_pick_f (v := .bool _) rfl g9_15 rfl) ?_
                      | refine y1 rfl rfl rfl rfl (lop_pick_f (v := .bool _) rfl g9_20 rfl) ?_
                      | refine y1 rfl rfl rfl rfl (lop_pick_f (v := .bool _) rfl g9_24 rfl) ?_
                      | refine y1 rfl rfl rfl rfl (lop_pick_f (v := .bool _) rfl rfl rfl) ?_
                      | refine y1 rfl rfl rfl rfl (lop_pick_f (v := .bool _) rfl g9_35 rfl) ?_
                      | refine y1 rfl rfl rfl rfl (lop_pick_t (v := .bool _) rfl rfl rfl) ?_
                      | refine y1 rfl rfl rfl rfl (lop_pick_f (v := .bool _) rfl rfl rfl) ?_
                      | refine y1 rfl rfl rfl rfl (lop_pick rfl rfl rfl) ?_
                    first
                      | refine s1 rfl (lop_pick_t (v := .bool _) rfl g9_3 rfl) ?_
                      | refine s1 rfl (lop_pick_f (v := .bool _) rfl g9_10 rfl) ?_
                      | refine s1 rfl (lop_pick_f (v := .bool _) rfl g9_15 rfl) ?_
                      | refine s1 rfl (lop_pick_f (v := .bool _) rfl g9_20 rfl) ?_
                      | refine s1 rfl (lop_pick_f (v := .bool _) rfl g9_24 rfl) ?_
                      | refine s1 rfl (lop_pick_f (v := .bool _) rfl rfl rfl) ?_
                      | refine s1 rfl (lop_pick_f (v := .bool _) rfl g9_35 rfl) ?_
                      | refine s1 rfl (lop_pick_t (v := .bool _) rfl rfl rfl) ?_
                      | refine s1 rfl (lop_pick_f (v := .bool _) rfl rfl rfl) ?_
                      | refine s1 rfl (lop_pick rfl rfl rfl) ?_
                    refine ops_nil ?_
                    exact ⟨(), le_mk ⟨rfl, rfl, rfl, rfl, by first | rfl | exact congrArg V.bool (decide_eq_false (by omega)), trivial⟩ ⟨.inr rfl, .inr rfl, trivial⟩ rfl⟩
        · refine n1 rfl rfl g9_3 ?_
          refine n1 rfl rfl g9_3 ?_
          refine n1 rfl rfl g9_3 ?_
          refine n1 rfl rfl g9_3 ?_
          refine n1 rfl rfl g9_3 ?_
          first
            | refine s1 rfl (lop_pick_f (v := .bool _) rfl g9_3 rfl) ?_
            | refine s1 rfl (lop_pick_t (v := .bool _) rfl rfl rfl) ?_
            | refine s1 rfl (lop_pick_f (v := .bool _) rfl rfl rfl) ?_
            | refine s1 rfl (lop_pick rfl rfl rfl) ?_
          refine s1 rfl (lop_move (v := .bool _) rfl) ?_
          first
            | refine y1 rfl rfl rfl rfl (lop_fieldAddr_rf (fo := 4) rfl Try.underlying50 rfl rfl Try.sizeOf3 (by decide)) ?_
            | refine y1 rfl rfl rfl rfl (lop_fieldAddr_fp (fo := 4) rfl Try.underlying50 rfl rfl Try.sizeOf3 (by decide) rfl) ?_
          first
            | refine y1 rfl rfl rfl rfl (lop_load_rf rfl rfl Try.isAgg3 rfl) ?_
            | refine y1 rfl rfl rfl rfl (lop_load_fp rfl Try.isAgg3 rfl) ?_
          refine y1 rfl rfl rfl rfl (lop_lss rfl rfl) ?_
          first
            | refine s1 rfl (lop_pick_f (v := .bool _) rfl g9_3 rfl) ?_
            | refine s1 rfl (lop_pick_f (v := .bool _) rfl rfl rfl) ?_
            | refine s1 rfl (lop_pick_t (v := .bool _) rfl rfl rfl) ?_
            | refine s1 rfl (lop_pick_f (v := .bool _) rfl rfl rfl) ?_
            | refine s1 rfl (lop_pick rfl rfl rfl) ?_
          refine s1 rfl (lop_move (v := .bool _) rfl) ?_
          first
            | refine gsplitP 15 rfl rfl (fun g9_15 p9_15 => ?_) (fun g9_15 p9_15 => ?_)
            | refine gsplitB 15 rfl rfl (fun g9_15 p9_15 => ?_) (fun g9_15 p9_15 => ?_)
          · exfalso; omega
          · first
              | refine y1 rfl rfl g9_15 rfl (lop_fieldAddr_rf (fo := 4) rfl Try.underlying50 rfl rfl Try.sizeOf3 (by decide)) ?_
              | refine y1 rfl rfl g9_15 rfl (lop_fieldAddr_fp (fo := 4) rfl Try.underlying50 rfl rfl Try.sizeOf3 (by decide) rfl) ?_
            first
              | refine y1 rfl rfl g9_15 rfl (lop_load_rf rfl rfl Try.isAgg3 rfl) ?_
              | refine y1 rfl rfl g9_15 rfl (lop_load_fp rfl Try.isAgg3 rfl) ?_
            refine y1 rfl rfl g9_15 rfl (lop_gtr rfl rfl) ?_
            first
              | refine s1 rfl (lop_pick_f (v := .bool _) rfl g9_3 rfl) ?_
              | refine s1 rfl (lop_pick_f (v := .bool _) rfl rfl rfl) ?_
              | refine s1 rfl (lop_pick_f (v := .bool _) rfl g9_15 rfl) ?_
              | refine s1 rfl (lop_pick_t (v := .bool _) rfl rfl rfl) ?_
              | refine s1 rfl (lop_pick_f (v := .bool _) rfl rfl rfl) ?_
              | refine s1 rfl (lop_pick rfl rfl rfl) ?_
            refine s1 rfl (lop_move (v := .bool _) rfl) ?_
            first
              | refine gsplitP 20 rfl rfl (fun g9_20 p9_20 => ?_) (fun g9_20 p9_20 => ?_)
              | refine gsplitB 20 rfl rfl (fun g9_20 p9_20 => ?_) (fun g9_20 p9_20 => ?_)
            · exfalso; omega
            · first
                | refine y1 rfl rfl g9_20 rfl (lop_fieldAddr_rf (fo := 4) rfl Try.underlying50 rfl rfl Try.sizeOf3 (by decide)) ?_
                | refine y1 rfl rfl g9_20 rfl (lop_fieldAddr_fp (fo := 4) rfl Try.underlying50 rfl rfl Try.sizeOf3 (by decide) rfl) ?_
              first
                | refine y1 rfl rfl g9_20 rfl (lop_load_rf rfl rfl Try.isAgg3 rfl) ?_
                | refine y1 rfl rfl g9_20 rfl (lop_load_fp rfl Try.isAgg3 rfl) ?_
              refine y1 rfl rfl g9_20 rfl (lop_lss rfl rfl) ?_
              refine y1 rfl rfl g9_20 rfl (lop_move (v := .bool _) rfl) ?_
              first
                | refine gsplitP 24 rfl rfl (fun g9_24 p9_24 => ?_) (fun g9_24 p9_24 => ?_)
                | refine gsplitB 24 rfl rfl (fun g9_24 p9_24 => ?_) (fun g9_24 p9_24 => ?_)
              · have hlow := hlow p9_24
                first
                  | refine y1 rfl rfl g9_24 rfl (lop_fieldAddr_rf (fo := 6) rfl Try.underlying50 rfl rfl Try.sizeOf28 (by decide)) ?_
                  | refine y1 rfl rfl g9_24 rfl (lop_fieldAddr_fp (fo := 6) rfl Try.underlying50 rfl rfl Try.sizeOf28 (by decide) rfl) ?_
                first
                  | refine y1 rfl rfl g9_24 rfl (lop_load_rf rfl rfl Try.isAgg28 rfl) ?_
                  | refine y1 rfl rfl g9_24 rfl (lop_load_fp rfl Try.isAgg28 rfl) ?_
                refine y1 rfl rfl g9_24 rfl (lop_len rfl Try.underlying28 ⟨⟨_, rfl⟩, rfl⟩) ?_
                refine y1 rfl rfl g9_24 rfl (lop_gtr rfl rfl) ?_
                first
                  | refine y1 rfl rfl g9_20 rfl (lop_pick_f (v := .bool _) rfl g9_3 rfl) ?_
                  | refine y1 rfl rfl g9_20 rfl (lop_pick_f (v := .bool _) rfl rfl rfl) ?_
                  | refine y1 rfl rfl g9_20 rfl (lop_pick_f (v := .bool _) rfl g9_15 rfl) ?_
                  | refine y1 rfl rfl g9_20 rfl (lop_pick_f (v := .bool _) rfl g9_20 rfl) ?_
                  | refine y1 rfl rfl g9_20 rfl (lop_pick_t (v := .bool _) rfl g9_24 rfl) ?_
                  | refine y1 rfl rfl g9_20 rfl (lop_pick_t (v := .bool _) rfl rfl rfl) ?_
                  | refine y1 rfl rfl g9_20 rfl (lop_pick_f (v := .bool _) rfl rfl rfl) ?_
                  | refine y1 rfl rfl g9_20 rfl (lop_pick rfl rfl rfl) ?_
                first
                  | refine s1 rfl (lop_pick_f (v := .bool _) rfl g9_3 rfl) ?_
                  | refine s1 rfl (lop_pick_f (v := .bool _) rfl rfl rfl) ?_
                  | refine s1 rfl (lop_pick_f (v := .bool _) rfl g9_15 rfl) ?_
                  | refine s1 rfl (lop_pick_f (v := .bool _) rfl g9_20 rfl) ?_
                  | refine s1 rfl (lop_pick_t (v := .bool _) rfl g9_24 rfl) ?_
                  | refine s1 rfl (lop_pick_t (v := .bool _) rfl rfl rfl) ?_
                  | refine s1 rfl (lop_pick_f (v := .bool _) rfl rfl rfl) ?_
                  | refine s1 rfl (lop_pick rfl rfl rfl) ?_
                refine s1 rfl (lop_move (v := .bool _) rfl) ?_
                first
                  | refine gsplitP 31 rfl rfl (fun g9_31 p9_31 => ?_) (fun g9_31 p9_31 => ?_)
                  | refine gsplitB 31 rfl rfl (fun g9_31 p9_31 => ?_) (fun g9_31 p9_31 => ?_)
                · exfalso; omega
                · first
                    | refine y1 rfl rfl g9_31 rfl (lop_fieldAddr_rf (fo := 4) rfl Try.underlying50 rfl rfl Try.sizeOf3 (by decide)) ?_
                    | refine y1 rfl rfl g9_31 rfl (lop_fieldAddr_fp (fo := 4) rfl Try.underlying50 rfl rfl Try.sizeOf3 (by decide) rfl) ?_
                  first
                    | refine y1 rfl rfl g9_31 rfl (lop_load_rf rfl rfl Try.isAgg3 rfl) ?_
                    | refine y1 rfl rfl g9_31 rfl (lop_load_fp rfl Try.isAgg3 rfl) ?_
                  refine y1 rfl rfl g9_31 rfl (lop_geq rfl rfl) ?_
                  refine y1 rfl rfl g9_31 rfl (lop_move (v := .bool _) rfl) ?_
                  first
                    | refine gsplitP 35 rfl rfl (fun g9_35 p9_35 => ?_) (fun g9_35 p9_35 => ?_)
                    | refine gsplitB 35 rfl rfl (fun g9_35 p9_35 => ?_) (fun g9_35 p9_35 => ?_)
                  · have hhigh := hhigh p9_35
                    first
                      | refine y1 rfl rfl g9_35 rfl (lop_fieldAddr_rf (fo := 6) rfl Try.underlying50 rfl rfl Try.sizeOf28 (by decide)) ?_
                      | refine y1 rfl rfl g9_35 rfl (lop_fieldAddr_fp (fo := 6) rfl Try.underlying50 rfl rfl Try.sizeOf28 (by decide) rfl) ?_
                    first
                      | refine y1 rfl rfl g9_35 rfl (lop_load_rf rfl rfl Try.isAgg28 rfl) ?_
                      | refine y1 rfl rfl g9_35 rfl (lop_load_fp rfl Try.isAgg28 rfl) ?_
                    refine y1 rfl rfl g9_35 rfl (lop_len rfl Try.underlying28 ⟨⟨_, rfl⟩, rfl⟩) ?_
                    refine y1 rfl rfl g9_35 rfl (lop_neq rfl rfl) ?_
                    first
                      | refine y1 rfl rfl g9_31 rfl (lop_pick_f (v := .bool _) rfl g9_3 rfl) ?_
                      | refine y1 rfl rfl g9_31 rfl (lop_pick_f (v := .bool _) rfl rfl rfl) ?_
                      | refine y1 rfl rfl g9_31 rfl (lop_pick_f (v := .bool _) rfl g9_15 rfl) ?_
                      | refine y1 rfl rfl g9_31 rfl (lop_pick_f (v := .bool _) rfl g9_20 rfl) ?_
                      | refine y1 rfl rfl g9_31 rfl (lop_pick_t (v := .bool _) rfl g9_24 rfl) ?_
                      | refine y1 rfl rfl g9_31 rfl (lop_pick_f (v := .bool _) rfl g9_31 rfl) ?_
                      | refine y1 rfl rfl g9_31 rfl (lop_pick_t (v := .bool _) rfl g9_35 rfl) ?_
                      | refine y1 rfl rfl g9_31 rfl (lop_pick_t (v := .bool _) rfl rfl rfl) ?_
                      | refine y1 rfl rfl g9_31 rfl (lop_pick_f (v := .bool _) rfl rfl rfl) ?_
                      | refine y1 rfl rfl g9_31 rfl (lop_pick rfl rfl rfl) ?_
                    first
                      | refine s1 rfl (lop_pick_f (v := .bool _) rfl g9_3 rfl) ?_
                      | refine s1 rfl (lop_pick_f (v := .bool _) rfl rfl rfl) ?_
                      | refine s1 rfl (lop_pick_f (v := .bool _) rfl g9_15 rfl) ?_
                      | refine s1 rfl (lop_pick_f (v := .bool _) rfl g9_20 rfl) ?_
                      | refine s1 rfl (lop_pick_t (v := .bool _) rfl g9_24 rfl) ?_
                      | refine s1 rfl (lop_pick_f (v := .bool _) rfl g9_31 rfl) ?_
                      | refine s1 rfl (lop_pick_t (v := .bool _) rfl g9_35 rfl) ?_
                      | refine s1 rfl (lop_pick_t (v := .bool _) rfl rfl rfl) ?_
                      | refine s1 rfl (lop_pick_f (v := .bool _) rfl rfl rfl) ?_
                      | refine s1 rfl (lop_pick rfl rfl rfl) ?_
                    refine ops_nil ?_
                    exact ⟨(), le_mk ⟨rfl, rfl, rfl, rfl, by first | rfl | exact congrArg V.bool (decide_eq_false (by omega)), trivial⟩ ⟨.inr rfl, .inr rfl, trivial⟩ rfl⟩
                  · refine n1 rfl rfl g9_35 ?_
                    refine n1 rfl rfl g9_35 ?_
                    refine n1 rfl rfl g9_35 ?_
                    refine n1 rfl rfl g9_35 ?_
                    first
                      | refine y1 rfl rfl g9_31 rfl (lop_pick_f (v := .bool _) rfl g9_3 rfl) ?_
                      | refine y1 rfl rfl g9_31 rfl (lop_pick_f (v := .bool _) rfl rfl rfl) ?_
                      | refine y1 rfl rfl g9_31 rfl (lop_pick_f (v := .bool _) rfl g9_15 rfl) ?_
                      | refine y1 rfl rfl g9_31 rfl (lop_pick_f (v := .bool _) rfl g9_20 rfl) ?_
                      | refine y1 rfl rfl g9_31 rfl (lop_pick_t (v := .bool _) rfl g9_24 rfl) ?_
                      | refine y1 rfl rfl g9_31 rfl (lop_pick_f (v := .bool _) rfl g9_31 rfl) ?_
                      | refine y1 rfl rfl g9_31 rfl (lop_pick_f (v := .bool _) rfl g9_35 rfl) ?_
                      | refine y1 rfl rfl g9_31 rfl (lop_pick_t (v := .bool _) rfl rfl rfl) ?_
                      | refine y1 rfl rfl g9_31 rfl (lop_pick_f (v := .bool _) rfl rfl rfl) ?_
                      | refine y1 rfl rfl g9_31 rfl (lop_pick rfl rfl rfl) ?_
                    first
                      | refine s1 rfl (lop_pick_f (v := .bool _) rfl g9_3 rfl) ?_
                      | refine s1 rfl (lop_pick_f (v := .bool _) rfl rfl rfl) ?_
                      | refine s1 rfl (lop_pick_f (v := .bool _) rfl g9_15 rfl) ?_
                      | refine s1 rfl (lop_pick_f (v := .bool _) rfl g9_20 rfl) ?_
                      | refine s1 rfl (lop_pick_t (v := .bool _) rfl g9_24 rfl) ?_
                      | refine s1 rfl (lop_pick_f (v := .bool _) rfl g9_31 rfl) ?_
                      | refine s1 rfl (lop_pick_f (v := .bool _) rfl g9_35 rfl) ?_
                      | refine s1 rfl (lop_pick_t (v := .bool _) rfl rfl rfl) ?_
                      | refine s1 rfl (lop_pick_f (v := .bool _) rfl rfl rfl) ?_
                      | refine s1 rfl (lop_pick rfl rfl rfl) ?_
                    refine ops_nil ?_
                    exact ⟨(), le_mk ⟨rfl, rfl, rfl, rfl, by first | rfl | exact congrArg V.bool (decide_eq_false (by omega)), trivial⟩ ⟨.inr rfl, .inr rfl, trivial⟩ rfl⟩
              · refine n1 rfl rfl g9_24 ?_
                refine n1 rfl rfl g9_24 ?_
                refine n1 rfl rfl g9_24 ?_
                refine n1 rfl rfl g9_24 ?_
                first
                  | refine y1 rfl rfl g9_20 rfl (lop_pick_f (v := .bool _) rfl g9_3 rfl) ?_
                  | refine y1 rfl rfl g9_20 rfl (lop_pick_f (v := .bool _) rfl rfl rfl) ?_
                  | refine y1 rfl rfl g9_20 rfl (lop_pick_f (v := .bool _) rfl g9_15 rfl) ?_
                  | refine y1 rfl rfl g9_20 rfl (lop_pick_f (v := .bool _) rfl g9_20 rfl) ?_
                  | refine y1 rfl rfl g9_20 rfl (lop_pick_f (v := .bool _) rfl g9_24 rfl) ?_
                  | refine y1 rfl rfl g9_20 rfl (lop_pick_t (v := .bool _) rfl rfl rfl) ?_
                  | refine y1 rfl rfl g9_20 rfl (lop_pick_f (v := .bool _) rfl rfl rfl) ?_
                  | refine y1 rfl rfl g9_20 rfl (lop_pick rfl rfl rfl) ?_
                first
                  | refine s1 rfl (lop_pick_f (v := .bool _) rfl g9_3 rfl) ?_
                  | refine s1 rfl (lop_pick_f (v := .bool _) rfl rfl rfl) ?_
                  | refine s1 rfl (lop_pick_f (v := .bool _) rfl g9_15 rfl) ?_
                  | refine s1 rfl (lop_pick_f (v := .bool _) rfl g9_20 rfl) ?_
                  | refine s1 rfl (lop_pick_f (v := .bool _) rfl g9_24 rfl) ?_
                  | refine s1 rfl (lop_pick_t (v := .bool _) rfl rfl rfl) ?_
                  | refine s1 rfl (lop_pick_f (v := .bool _) rfl rfl rfl) ?_
                  | refine s1 rfl (lop_pick rfl rfl rfl) ?_
                refine s1 rfl (lop_move (v := .bool _) rfl) ?_
                first
                  | refine y1 rfl rfl rfl rfl (lop_fieldAddr_rf (fo := 4) rfl Try.underlying50 rfl rfl Try.sizeOf3 (by decide)) ?_
                  | refine y1 rfl rfl rfl rfl (lop_fieldAddr_fp (fo := 4) rfl Try.underlying50 rfl rfl Try.sizeOf3 (by decide) rfl) ?_
                first
                  | refine y1 rfl rfl rfl rfl (lop_load_rf rfl rfl Try.isAgg3 rfl) ?_
                  | refine y1 rfl rfl rfl rfl (lop_load_fp rfl Try.isAgg3 rfl) ?_
                refine y1 rfl rfl rfl rfl (lop_geq rfl rfl) ?_
                refine y1 rfl rfl rfl rfl (lop_move (v := .bool _) rfl) ?_
                first
                  | refine gsplitP 35 rfl rfl (fun g9_35 p9_35 => ?_) (fun g9_35 p9_35 => ?_)
                  | refine gsplitB 35 rfl rfl (fun g9_35 p9_35 => ?_) (fun g9_35 p9_35 => ?_)
                · have hhigh := hhigh p9_35
                  first
                    | refine y1 rfl rfl g9_35 rfl (lop_fieldAddr_rf (fo := 6) rfl Try.underlying50 rfl rfl Try.sizeOf28 (by decide)) ?_
                    | refine y1 rfl rfl g9_35 rfl (lop_fieldAddr_fp (fo := 6) rfl Try.underlying50 rfl rfl Try.sizeOf28 (by decide) rfl) ?_
                  first
                    | refine y1 rfl rfl g9_35 rfl (lop_load_rf rfl rfl Try.isAgg28 rfl) ?_
                    | refine y1 rfl rfl g9_35 rfl (lop_load_fp rfl Try.isAgg28 rfl) ?_
                  refine y1 rfl rfl g9_35 rfl (lop_len rfl Try.underlying28 ⟨⟨_, rfl⟩, rfl⟩) ?_
                  refine y1 rfl rfl g9_35 rfl (lop_neq rfl rfl) ?_
                  first
                    | refine y1 rfl rfl rfl rfl (lop_pick_f (v := .bool _) rfl g9_3 rfl) ?_
                    | refine y1 rfl rfl rfl rfl (lop_pick_f (v := .bool _) rfl rfl rfl) ?_
                    | refine y1 rfl rfl rfl rfl (lop_pick_f (v := .bool _) rfl g9_15 rfl) ?_
                    | refine y1 rfl rfl rfl rfl (lop_pick_f (v := .bool _) rfl g9_20 rfl) ?_
                    | refine y1 rfl rfl rfl rfl (lop_pick_f (v := .bool _) rfl g9_24 rfl) ?_
                    | refine y1 rfl rfl rfl rfl (lop_pick_f (v := .bool _) rfl rfl rfl) ?_
                    | refine y1 rfl rfl rfl rfl (lop_pick_t (v := .bool _) rfl g9_35 rfl) ?_
                    | refine y1 rfl rfl rfl rfl (lop_pick_t (v := .bool _) rfl rfl rfl) ?_
                    | refine y1 rfl rfl rfl rfl (lop_pick_f (v := .bool _) rfl rfl rfl) ?_
                    | refine y1 rfl rfl rfl rfl (lop_pick rfl rfl rfl) ?_
                  first
                    | refine s1 rfl (lop_pick_f (v := .bool _) rfl g9_3 rfl) ?_
                    | refine s1 rfl (lop_pick_f (v := .bool _) rfl rfl rfl) ?_
                    | refine s1 rfl (lop_pick_f (v := .bool _) rfl g9_15 rfl) ?_
                    | refine s1 rfl (lop_pick_f (v := .bool _) rfl g9_20 rfl) ?_
                    | refine s1 rfl (lop_pick_f (v := .bool _) rfl g9_24 rfl) ?_
                    | refine s1 rfl (lop_pick_f (v := .bool _) rfl rfl rfl) ?_
                    | refine s1 rfl (lop_pick_t (v := .bool _) rfl g9_35 rfl) ?_
                    | refine s1 rfl (lop_pick_t (v := .bool _) rfl rfl rfl) ?_
                    | refine s1 rfl (lop_pick_f (v := .bool _) rfl rfl rfl) ?_
                    | refine s1 rfl (lop_pick rfl rfl rfl) ?_
                  refine ops_nil ?_
                  exact ⟨(), le_mk ⟨rfl, rfl, rfl, rfl, by first | rfl | exact congrArg V.bool (decide_eq_false (by omega)), trivial⟩ ⟨.inr rfl, .inr rfl, trivial⟩ rfl⟩
                · refine n1 rfl rfl g9_35 ?_
                  refine n1 rfl rfl g9_35 ?_
                  refine n1 rfl rfl g9_35 ?_
                  refine n1 rfl rfl g9_35 ?_
                  first
                    | refine y1 rfl rfl rfl rfl (lop_pick_f (v := .bool _) rfl g9_3 rfl) ?_
                    | refine y1 rfl rfl rfl rfl (lop_pick_f (v := .bool _) rfl rfl rfl) ?_
                    | refine y1 rfl rfl rfl rfl (lop_pick_f (v := .bool _) rfl g9_15 rfl) ?_
                    | refine y1 rfl rfl rfl rfl (lop_pick_f (v := .bool _) rfl g9_20 rfl) ?_
                    | refine y1 rfl rfl rfl rfl (lop_pick_f (v := .bool _) rfl g9_24 rfl) ?_
                    | refine y1 rfl rfl rfl rfl (lop_pick_f (v := .bool _) rfl rfl rfl) ?_
                    | refine y1 rfl rfl rfl rfl (lop_pick_f (v := .bool _) rfl g9_35 rfl) ?_
                    | refine y1 rfl rfl rfl rfl (lop_pick_t (v := .bool _) rfl rfl rfl) ?_
                    | refine y1 rfl rfl rfl rfl (lop_pick_f (v := .bool _) rfl rfl rfl) ?_
                    | refine y1 rfl rfl rfl rfl (lop_pick rfl rfl rfl) ?_
                  first
                    | refine s1 rfl (lop_pick_f (v := .bool _) rfl g9_3 rfl) ?_
                    | refine s1 rfl (lop_pick_f (v := .bool _) rfl rfl rfl) ?_
                    | refine s1 rfl (lop_pick_f (v := .bool _) rfl g9_15 rfl) ?_
                    | refine s1 rfl (lop_pick_f (v := .bool _) rfl g9_20 rfl) ?_
                    | refine s1 rfl (lop_pick_f (v := .bool _) rfl g9_24 rfl) ?_
                    | refine s1 rfl (lop_pick_f (v := .bool _) rfl rfl rfl) ?_
                    | refine s1 rfl (lop_pick_f (v := .bool _) rfl g9_35 rfl) ?_
                    | refine s1 rfl (lop_pick_t (v := .bool _) rfl rfl rfl) ?_
                    | refine s1 rfl (lop_pick_f (v := .bool _) rfl rfl rfl) ?_
                    | refine s1 rfl (lop_pick rfl rfl rfl) ?_
                  refine ops_nil ?_
                  exact ⟨(), le_mk ⟨rfl, rfl, rfl, rfl, by first | rfl | exact congrArg V.bool (decide_eq_false (by omega)), trivial⟩ ⟨.inr rfl, .inr rfl, trivial⟩ rfl⟩
      · rintro ⟨⟩
        refine ok_false rfl rfl ?_
        refine ok_skip ?_
        refine ok_seq ?_
        refine ok_reg ?_
        refine s1 rfl (lop_assign (v := .int _ _) rfl) ?_
        refine ops_nil ?_
        refine ok_block ?_
        refine ok_loop (ι := {j : Nat // j ≤ (runsF l).vols[i].places.length}) (fun j => ⟨[(3, .bool true), (4, .rf 4 0), (5, i64 i), (6, .rf 6 0), (7, i64 j.1)], [(4, some (true, (runsF l).enc)), (6, some (true, (runsF l).vols[i].enc))], 178⟩) (fun j => (runsF l).vols[i].places.length - j.1) (⟨0, Nat.zero_le _⟩) ?_ ?_
        · exact le_mk ⟨rfl, rfl, rfl, rfl, rfl, trivial⟩ ⟨.inr rfl, .inr rfl, trivial⟩ rfl
        rintro ⟨j, hj0⟩
        dsimp only
        refine ok_seq ?_
        refine ok_reg ?_
        refine s1 rfl (lop_move (v := .int _ _) rfl) ?_
        first
          | refine s1 rfl (lop_fieldAddr_rf (fo := 6) rfl Try.underlying50 rfl rfl Try.sizeOf28 (by decide)) ?_
          | refine s1 rfl (lop_fieldAddr_fp (fo := 6) rfl Try.underlying50 rfl rfl Try.sizeOf28 (by decide) rfl) ?_
        first
          | refine s1 rfl (lop_load_rf rfl rfl Try.isAgg28 rfl) ?_
          | refine s1 rfl (lop_load_fp rfl Try.isAgg28 rfl) ?_
        refine s1 rfl (lop_len rfl Try.underlying28 ⟨⟨_, rfl⟩, rfl⟩) ?_
        refine s1 rfl (lop_lss rfl rfl) ?_
        refine ops_nil ?_
        first
          | refine ok_if _ rfl rfl (fun h_t89 => ?_) (fun h_t89 => ?_)
          | refine ok_cond rfl rfl (fun h_t89 => ?_) (fun h_t89 => ?_)
        · have hj : j < (runsF l).vols[i].places.length := by omega
          refine ok_skip ?_
          refine ok_seq ?_
          refine ok_block ?_
          refine ok_seq ?_
          refine ok_drw Try.mixed ?_
          first
            | refine d1 rfl rfl (lop_fieldAddr_rf (fo := 6) rfl Try.underlying50 rfl rfl Try.sizeOf28 (by decide)) ?_
            | refine d1 rfl rfl (lop_fieldAddr_fp (fo := 6) rfl Try.underlying50 rfl rfl Try.sizeOf28 (by decide) rfl) ?_
          first
            | refine d1 rfl rfl (lop_load_rf rfl rfl Try.isAgg28 rfl) ?_
            | refine d1 rfl rfl (lop_load_fp rfl Try.isAgg28 rfl) ?_
          refine d1 rfl rfl (lop_move (v := .int _ _) rfl) ?_
          first
            | refine d1 rfl rfl (lop_indexAddr_os rfl rfl Try.underlying28 Try.sizeOf57 rfl hj) ?_
            | refine d1 rfl rfl (lop_indexAddr_sl rfl rfl Try.underlying28 Try.sizeOf57 rfl hj (flat_at PlD.len hj) (flat_ne PlD.len (by decide) hj)) ?_
          first
            | refine d1 rfl rfl (lop_fieldAddr_rf (fo := 0) rfl Try.underlying57 rfl rfl Try.sizeOf3 (by decide)) ?_
            | refine d1 rfl rfl (lop_fieldAddr_fp (fo := 0) rfl Try.underlying57 rfl rfl Try.sizeOf3 (by decide) rfl) ?_
          first
            | refine d1 rfl rfl (lop_load_rf rfl rfl Try.isAgg3 rfl) ?_
            | refine d1 rfl rfl (lop_load_fp rfl Try.isAgg3 rfl) ?_
          first
            | refine d1 rfl rfl (lop_fieldAddr_rf (fo := 1) rfl Try.underlying50 rfl rfl Try.sizeOf3 (by decide)) ?_
            | refine d1 rfl rfl (lop_fieldAddr_fp (fo := 1) rfl Try.underlying50 rfl rfl Try.sizeOf3 (by decide) rfl) ?_
          first
            | refine d1 rfl rfl (lop_load_rf rfl rfl Try.isAgg3 rfl) ?_
            | refine d1 rfl rfl (lop_load_fp rfl Try.isAgg3 rfl) ?_
          refine d1 rfl rfl (lop_neq rfl rfl) ?_
          refine dr_nil (by kernel_rfl) ?_
          first
            | refine ok_if _ rfl rfl (fun h_t100 => ?_) (fun h_t100 => ?_)
            | refine ok_cond rfl rfl (fun h_t100 => ?_) (fun h_t100 => ?_)
          · exact absurd (hhome _ (List.getElem_mem hj)) h_t100
          · refine ok_skip ?_
            refine ok_reg ?_
            refine s1 rfl (lop_assign (v := .int _ _) rfl) ?_
            refine ops_nil ?_
            refine ok_block ?_
            refine ok_loop (ι := {k : Nat // k ≤ j}) (fun k => ⟨[(3, .bool true), (4, .rf 4 0), (5, i64 i), (6, .rf 6 0), (7, i64 j), (8, i64 k.1)], [(4, some (true, (runsF l).enc)), (6, some (true, (runsF l).vols[i].enc))], 178⟩) (fun k => j - k.1) (⟨0, Nat.zero_le _⟩) ?_ ?_
            · exact le_mk ⟨rfl, rfl, rfl, rfl, rfl, rfl, trivial⟩ ⟨.inr rfl, .inr rfl, trivial⟩ rfl
            rintro ⟨k, hk0⟩
            dsimp only
            refine ok_seq ?_
            refine ok_reg ?_
            refine s1 rfl (lop_move (v := .int _ _) rfl) ?_
            refine s1 rfl (lop_move (v := .int _ _) rfl) ?_
            refine s1 rfl (lop_lss rfl rfl) ?_
            refine ops_nil ?_
            first
              | refine ok_if _ rfl rfl (fun h_t103 => ?_) (fun h_t103 => ?_)
              | refine ok_cond rfl rfl (fun h_t103 => ?_) (fun h_t103 => ?_)
            · have hkj : k < j := by omega
              have hkl : k < (runsF l).vols[i].places.length := by omega
              refine ok_skip ?_
              refine ok_seq ?_
              refine ok_block ?_
              refine ok_drw Try.mixed ?_
              first
                | refine d1 rfl rfl (lop_fieldAddr_rf (fo := 6) rfl Try.underlying50 rfl rfl Try.sizeOf28 (by decide)) ?_
                | refine d1 rfl rfl (lop_fieldAddr_fp (fo := 6) rfl Try.underlying50 rfl rfl Try.sizeOf28 (by decide) rfl) ?_
              first
                | refine d1 rfl rfl (lop_load_rf rfl rfl Try.isAgg28 rfl) ?_
                | refine d1 rfl rfl (lop_load_fp rfl Try.isAgg28 rfl) ?_
              refine d1 rfl rfl (lop_move (v := .int _ _) rfl) ?_
              first
                | refine d1 rfl rfl (lop_indexAddr_os rfl rfl Try.underlying28 Try.sizeOf57 rfl hkl) ?_
                | refine d1 rfl rfl (lop_indexAddr_sl rfl rfl Try.underlying28 Try.sizeOf57 rfl hkl (flat_at PlD.len hkl) (flat_ne PlD.len (by decide) hkl)) ?_
              first
                | refine d1 rfl rfl (lop_load_rf_agg rfl rfl Try.isAgg57 Try.sizeOf57 (by rw [List.length_append, PlD.len]; omega) (by rw [List.take_append_of_le_length (by rw [PlD.len]; omega), List.take_of_length_le (by rw [PlD.len]; omega)])) ?_
                | refine d1 rfl rfl (lop_load_fp_agg rfl Try.isAgg57 Try.sizeOf57 (by rw [List.length_append, PlD.len]; omega) (by rw [List.take_append_of_le_length (by rw [PlD.len]; omega), List.take_of_length_le (by rw [PlD.len]; omega)])) ?_
              first
                | refine d1 rfl rfl (lop_fieldAddr_rf (fo := 6) rfl Try.underlying50 rfl rfl Try.sizeOf28 (by decide)) ?_
                | refine d1 rfl rfl (lop_fieldAddr_fp (fo := 6) rfl Try.underlying50 rfl rfl Try.sizeOf28 (by decide) rfl) ?_
              first
                | refine d1 rfl rfl (lop_load_rf rfl rfl Try.isAgg28 rfl) ?_
                | refine d1 rfl rfl (lop_load_fp rfl Try.isAgg28 rfl) ?_
              refine d1 rfl rfl (lop_move (v := .int _ _) rfl) ?_
              first
                | refine d1 rfl rfl (lop_indexAddr_os rfl rfl Try.underlying28 Try.sizeOf57 rfl hj) ?_
                | refine d1 rfl rfl (lop_indexAddr_sl rfl rfl Try.underlying28 Try.sizeOf57 rfl hj (flat_at PlD.len hj) (flat_ne PlD.len (by decide) hj)) ?_
              first
                | refine d1 rfl rfl (lop_load_rf_agg rfl rfl Try.isAgg57 Try.sizeOf57 (by rw [List.length_append, PlD.len]; omega) (by rw [List.take_append_of_le_length (by rw [PlD.len]; omega), List.take_of_length_le (by rw [PlD.len]; omega)])) ?_
                | refine d1 rfl rfl (lop_load_fp_agg rfl Try.isAgg57 Try.sizeOf57 (by rw [List.length_append, PlD.len]; omega) (by rw [List.take_append_of_le_length (by rw [PlD.len]; omega), List.take_of_length_le (by rw [PlD.len]; omega)])) ?_
              refine d1 rfl rfl (lop_aeql rfl rfl rfl rfl eqg57 (eq57 _ _ _ _)) ?_
              refine dr_nil (by kernel_rfl) ?_
              first
                | refine ok_if _ rfl rfl (fun h_t116 => ?_) (fun h_t116 => ?_)
                | refine ok_cond rfl rfl (fun h_t116 => ?_) (fun h_t116 => ?_)
              · unfold List.Nodup at hnd
                rw [List.pairwise_iff_getElem] at hnd
                exact absurd ((PlD.eq_iff _ _).1 h_t116) (hnd k j hkl hj hkj)
              · refine ok_skip ?_
                refine ok_region ?_
                refine s1 rfl (lop_move (v := .int _ _) rfl) ?_
                refine s1 rfl (lop_bop rfl rfl rfl (bop_add (by omega) (by omega))) ?_
                refine s1 rfl (lop_assign (v := .int _ _) rfl) ?_
                refine ops_nil ?_
                exact ⟨⟨k + 1, by omega⟩, by simp only; omega, le_mk ⟨rfl, rfl, rfl, rfl, rfl, rfl, trivial⟩ ⟨.inr rfl, .inr rfl, trivial⟩ rfl⟩
            · refine ok_exit ?_
              refine ok_region ?_
              refine s1 rfl (lop_move (v := .int _ _) rfl) ?_
              refine s1 rfl (lop_bop rfl rfl rfl (bop_add (by omega) (by omega))) ?_
              refine s1 rfl (lop_assign (v := .int _ _) rfl) ?_
              refine ops_nil ?_
              exact ⟨⟨j + 1, by omega⟩, by simp only; omega, le_mk ⟨rfl, rfl, rfl, rfl, rfl, trivial⟩ ⟨.inr rfl, .inr rfl, trivial⟩ rfl⟩
        · refine ok_exit ?_
          refine ok_seq ?_
          refine ok_reg ?_
          first
            | refine s1 rfl (lop_fieldAddr_rf (fo := 4) rfl Try.underlying50 rfl rfl Try.sizeOf3 (by decide)) ?_
            | refine s1 rfl (lop_fieldAddr_fp (fo := 4) rfl Try.underlying50 rfl rfl Try.sizeOf3 (by decide) rfl) ?_
          first
            | refine s1 rfl (lop_load_rf rfl rfl Try.isAgg3 rfl) ?_
            | refine s1 rfl (lop_load_fp rfl Try.isAgg3 rfl) ?_
          refine s1 rfl (lop_neq rfl rfl) ?_
          refine ops_nil ?_
          first
            | refine ok_if _ rfl rfl (fun h_t119 => ?_) (fun h_t119 => ?_)
            | refine ok_cond rfl rfl (fun h_t119 => ?_) (fun h_t119 => ?_)
          · refine ok_exit ?_
            refine ok_region ?_
            refine s1 rfl (lop_move (v := .int _ _) rfl) ?_
            refine s1 rfl (lop_bop rfl rfl rfl (bop_add (by omega) (by omega))) ?_
            refine s1 rfl (lop_assign (v := .int _ _) rfl) ?_
            refine ops_nil ?_
            exact ⟨⟨i + 1, by omega⟩, by simp only; omega, le_mk ⟨rfl, rfl, rfl, trivial⟩ ⟨.inr rfl, trivial⟩ rfl⟩
          · obtain ⟨j1, wc, k1, sc, w1, w2, w3, w4, w5, w6, t1, t2, t3, t4, _⟩ := h7 (by omega)
            obtain ⟨w, hw, rfl⟩ := at_core w1
            obtain ⟨s, hs, rfl⟩ := at_core t1
            have hw5 := hG.ci.c5 j1 _ w1
            have hs5 := hG.ci.c5 k1 _ t1
            simp only [VolD.core] at w2 w3 w4 w5 w6 t2 t3 t4 hw5 hs5
            have hW := index_Vol_ac (runsF l) (by omega) (runsF l).vols[i].pair
            rw [← w2, volF_uniq hG.ci hw, w2] at hW
            have hS := index_Vol_ac (runsF l) (by omega) (runsF l).vols[i].sum
            rw [← t2, volF_uniq hG.ci hs, t2] at hS
            dsimp only at hW hS
            refine ok_skip ?_
            refine ok_reg ?_
            first
              | refine s1 rfl (lop_load_rf_agg (ys := [_, _, _]) rfl rfl Try.isAgg26 Try.sizeOf26 (Nat.le_of_ble_eq_true rfl) rfl) ?_
              | refine s1 rfl (lop_load_fp_agg (ys := [_, _, _]) rfl Try.isAgg26 Try.sizeOf26 (Nat.le_of_ble_eq_true rfl) rfl) ?_
            first
              | refine s1 rfl (lop_fieldAddr_rf (fo := 7) rfl Try.underlying50 rfl rfl Try.sizeOf3 (by decide)) ?_
              | refine s1 rfl (lop_fieldAddr_fp (fo := 7) rfl Try.underlying50 rfl rfl Try.sizeOf3 (by decide) rfl) ?_
            first
              | refine s1 rfl (lop_load_rf rfl rfl Try.isAgg3 rfl) ?_
              | refine s1 rfl (lop_load_fp rfl Try.isAgg3 rfl) ?_
            refine s1 rfl (lop_call rfl Try.call15 (FrzL.tf rfl) (.inl rfl) hW) ?_
            refine s1 rfl (lop_move (v := .tup _) rfl) ?_
            refine s1 rfl (lop_extract rfl rfl) ?_
            refine s1 rfl (lop_extract rfl rfl) ?_
            refine s1w rfl (lop_new (t := 9) (cs := [.int _ _, .int _ _, .int _ _, .int _ _, .int _ _, .z0, .z0, .int _ _, .int _ _]) Try.zeroValue50 rfl rfl rfl rfl) rfl ?_
            first
              | refine s0w rfl (lop_storeK (v := .agg [.int _ _, .int _ _, .int _ _, .int _ _, .int _ _, _, _, .int _ _, .int _ _]) (cs' := [.int _ _, .int _ _, .int _ _, .int _ _, .int _ _, _, _, .int _ _, .int _ _]) (f' := true) rfl rfl rfl Try.sizeOf50 rfl rfl rfl rfl rfl) ?_
              | refine s0w rfl (lop_storeK (v := .agg [.int _ _, .int _ _, .int _ _, .int _ _, .int _ _, _, _, .int _ _, .int _ _]) (cs' := [.int _ _, .int _ _, .int _ _, .int _ _, .int _ _, _, _, .int _ _, .int _ _]) (f' := false) rfl rfl rfl Try.sizeOf50 rfl rfl rfl rfl rfl) ?_
            refine s1 rfl (lop_assign (v := .bool _) rfl) ?_
            refine ops_nil ?_
            refine ok_reg ?_
            first
              | refine s1 rfl (lop_load_rf_agg (ys := [_, _, _]) rfl rfl Try.isAgg26 Try.sizeOf26 (Nat.le_of_ble_eq_true rfl) rfl) ?_
              | refine s1 rfl (lop_load_fp_agg (ys := [_, _, _]) rfl Try.isAgg26 Try.sizeOf26 (Nat.le_of_ble_eq_true rfl) rfl) ?_
            first
              | refine s1 rfl (lop_fieldAddr_rf (fo := 8) rfl Try.underlying50 rfl rfl Try.sizeOf3 (by decide)) ?_
              | refine s1 rfl (lop_fieldAddr_fp (fo := 8) rfl Try.underlying50 rfl rfl Try.sizeOf3 (by decide) rfl) ?_
            first
              | refine s1 rfl (lop_load_rf rfl rfl Try.isAgg3 rfl) ?_
              | refine s1 rfl (lop_load_fp rfl Try.isAgg3 rfl) ?_
            refine s1 rfl (lop_call rfl Try.call15 (FrzL.tf rfl) (.inl rfl) hS) ?_
            refine s1 rfl (lop_move (v := .tup _) rfl) ?_
            refine s1 rfl (lop_extract rfl rfl) ?_
            refine s1 rfl (lop_extract rfl rfl) ?_
            refine s1w rfl (lop_new (t := 11) (cs := [.int _ _, .int _ _, .int _ _, .int _ _, .int _ _, .z0, .z0, .int _ _, .int _ _]) Try.zeroValue50 rfl rfl rfl rfl) rfl ?_
            first
              | refine s0w rfl (lop_storeK (v := .agg [.int _ _, .int _ _, .int _ _, .int _ _, .int _ _, _, _, .int _ _, .int _ _]) (cs' := [.int _ _, .int _ _, .int _ _, .int _ _, .int _ _, _, _, .int _ _, .int _ _]) (f' := true) rfl rfl rfl Try.sizeOf50 rfl rfl rfl rfl rfl) ?_
              | refine s0w rfl (lop_storeK (v := .agg [.int _ _, .int _ _, .int _ _, .int _ _, .int _ _, _, _, .int _ _, .int _ _]) (cs' := [.int _ _, .int _ _, .int _ _, .int _ _, .int _ _, _, _, .int _ _, .int _ _]) (f' := false) rfl rfl rfl Try.sizeOf50 rfl rfl rfl rfl rfl) ?_
            refine s1 rfl (lop_assign (v := .bool _) rfl) ?_
            refine ops_nil ?_
            refine ok_reg ?_
            refine s1 rfl (lop_move (v := .bool _) rfl) ?_
            refine s1 rfl (lop_not rfl) ?_
            refine s1 rfl (lop_move (v := .bool _) rfl) ?_
            first
              | refine gsplitP 2 rfl rfl (fun g24_2 p24_2 => ?_) (fun g24_2 p24_2 => ?_)
              | refine gsplitB 2 rfl rfl (fun g24_2 p24_2 => ?_) (fun g24_2 p24_2 => ?_)
            · exfalso
              simp at g24_2
            · refine y1 rfl rfl g24_2 rfl (lop_move (v := .bool _) rfl) ?_
              refine y1 rfl rfl g24_2 rfl (lop_not rfl) ?_
              first
                | refine s1 rfl (lop_pick_f (v := .bool _) rfl g24_2 rfl) ?_
                | refine s1 rfl (lop_pick_t (v := .bool _) rfl rfl rfl) ?_
                | refine s1 rfl (lop_pick_f (v := .bool _) rfl rfl rfl) ?_
                | refine s1 rfl (lop_pick rfl rfl rfl) ?_
              refine s1 rfl (lop_move (v := .bool _) rfl) ?_
              first
                | refine gsplitP 6 rfl rfl (fun g24_6 p24_6 => ?_) (fun g24_6 p24_6 => ?_)
                | refine gsplitB 6 rfl rfl (fun g24_6 p24_6 => ?_) (fun g24_6 p24_6 => ?_)
              · exfalso
                simp at g24_6
              · first
                  | refine y1 rfl rfl g24_6 rfl (lop_fieldAddr_rf (fo := 7) rfl Try.underlying50 rfl rfl Try.sizeOf3 (by decide)) ?_
                  | refine y1 rfl rfl g24_6 rfl (lop_fieldAddr_fp (fo := 7) rfl Try.underlying50 rfl rfl Try.sizeOf3 (by decide) rfl) ?_
                first
                  | refine y1 rfl rfl g24_6 rfl (lop_load_rf rfl rfl Try.isAgg3 rfl) ?_
                  | refine y1 rfl rfl g24_6 rfl (lop_load_fp rfl Try.isAgg3 rfl) ?_
                first
                  | refine y1 rfl rfl g24_6 rfl (lop_fieldAddr_rf (fo := 0) rfl Try.underlying50 rfl rfl Try.sizeOf3 (by decide)) ?_
                  | refine y1 rfl rfl g24_6 rfl (lop_fieldAddr_fp (fo := 0) rfl Try.underlying50 rfl rfl Try.sizeOf3 (by decide) rfl) ?_
                first
                  | refine y1 rfl rfl g24_6 rfl (lop_load_rf rfl rfl Try.isAgg3 rfl) ?_
                  | refine y1 rfl rfl g24_6 rfl (lop_load_fp rfl Try.isAgg3 rfl) ?_
                refine y1 rfl rfl g24_6 rfl (lop_neq rfl rfl) ?_
                first
                  | refine s1 rfl (lop_pick_f (v := .bool _) rfl g24_2 rfl) ?_
                  | refine s1 rfl (lop_pick_f (v := .bool _) rfl g24_6 rfl) ?_
                  | refine s1 rfl (lop_pick_t (v := .bool _) rfl rfl rfl) ?_
                  | refine s1 rfl (lop_pick_f (v := .bool _) rfl rfl rfl) ?_
                  | refine s1 rfl (lop_pick rfl rfl rfl) ?_
                refine s1 rfl (lop_move (v := .bool _) rfl) ?_
                first
                  | refine gsplitP 13 rfl rfl (fun g24_13 p24_13 => ?_) (fun g24_13 p24_13 => ?_)
                  | refine gsplitB 13 rfl rfl (fun g24_13 p24_13 => ?_) (fun g24_13 p24_13 => ?_)
                · exfalso; omega
                · first
                    | refine y1 rfl rfl g24_13 rfl (lop_fieldAddr_rf (fo := 8) rfl Try.underlying50 rfl rfl Try.sizeOf3 (by decide)) ?_
                    | refine y1 rfl rfl g24_13 rfl (lop_fieldAddr_fp (fo := 8) rfl Try.underlying50 rfl rfl Try.sizeOf3 (by decide) rfl) ?_
                  first
                    | refine y1 rfl rfl g24_13 rfl (lop_load_rf rfl rfl Try.isAgg3 rfl) ?_
                    | refine y1 rfl rfl g24_13 rfl (lop_load_fp rfl Try.isAgg3 rfl) ?_
                  first
                    | refine y1 rfl rfl g24_13 rfl (lop_fieldAddr_rf (fo := 8) rfl Try.underlying50 rfl rfl Try.sizeOf3 (by decide)) ?_
                    | refine y1 rfl rfl g24_13 rfl (lop_fieldAddr_fp (fo := 8) rfl Try.underlying50 rfl rfl Try.sizeOf3 (by decide) rfl) ?_
                  first
                    | refine y1 rfl rfl g24_13 rfl (lop_load_rf rfl rfl Try.isAgg3 rfl) ?_
                    | refine y1 rfl rfl g24_13 rfl (lop_load_fp rfl Try.isAgg3 rfl) ?_
                  refine y1 rfl rfl g24_13 rfl (lop_neq rfl rfl) ?_
                  first
                    | refine s1 rfl (lop_pick_f (v := .bool _) rfl g24_2 rfl) ?_
                    | refine s1 rfl (lop_pick_f (v := .bool _) rfl g24_6 rfl) ?_
                    | refine s1 rfl (lop_pick_f (v := .bool _) rfl g24_13 rfl) ?_
                    | refine s1 rfl (lop_pick_t (v := .bool _) rfl rfl rfl) ?_
                    | refine s1 rfl (lop_pick_f (v := .bool _) rfl rfl rfl) ?_
                    | refine s1 rfl (lop_pick rfl rfl rfl) ?_
                  refine s1 rfl (lop_move (v := .bool _) rfl) ?_
                  first
                    | refine gsplitP 20 rfl rfl (fun g24_20 p24_20 => ?_) (fun g24_20 p24_20 => ?_)
                    | refine gsplitB 20 rfl rfl (fun g24_20 p24_20 => ?_) (fun g24_20 p24_20 => ?_)
                  · exfalso; omega
                  · first
                      | refine y1 rfl rfl g24_20 rfl (lop_fieldAddr_rf (fo := 1) rfl Try.underlying50 rfl rfl Try.sizeOf3 (by decide)) ?_
                      | refine y1 rfl rfl g24_20 rfl (lop_fieldAddr_fp (fo := 1) rfl Try.underlying50 rfl rfl Try.sizeOf3 (by decide) rfl) ?_
                    first
                      | refine y1 rfl rfl g24_20 rfl (lop_load_rf rfl rfl Try.isAgg3 rfl) ?_
                      | refine y1 rfl rfl g24_20 rfl (lop_load_fp rfl Try.isAgg3 rfl) ?_
                    first
                      | refine y1 rfl rfl g24_20 rfl (lop_fieldAddr_rf (fo := 1) rfl Try.underlying50 rfl rfl Try.sizeOf3 (by decide)) ?_
                      | refine y1 rfl rfl g24_20 rfl (lop_fieldAddr_fp (fo := 1) rfl Try.underlying50 rfl rfl Try.sizeOf3 (by decide) rfl) ?_
                    first
                      | refine y1 rfl rfl g24_20 rfl (lop_load_rf rfl rfl Try.isAgg3 rfl) ?_
                      | refine y1 rfl rfl g24_20 rfl (lop_load_fp rfl Try.isAgg3 rfl) ?_
                    refine y1 rfl rfl g24_20 rfl (lop_eql rfl rfl) ?_
                    first
                      | refine s1 rfl (lop_pick_f (v := .bool _) rfl g24_2 rfl) ?_
                      | refine s1 rfl (lop_pick_f (v := .bool _) rfl g24_6 rfl) ?_
                      | refine s1 rfl (lop_pick_f (v := .bool _) rfl g24_13 rfl) ?_
                      | refine s1 rfl (lop_pick_f (v := .bool _) rfl g24_20 rfl) ?_
                      | refine s1 rfl (lop_pick_t (v := .bool _) rfl rfl rfl) ?_
                      | refine s1 rfl (lop_pick_f (v := .bool _) rfl rfl rfl) ?_
                      | refine s1 rfl (lop_pick rfl rfl rfl) ?_
                    refine s1 rfl (lop_move (v := .bool _) rfl) ?_
                    first
                      | refine gsplitP 27 rfl rfl (fun g24_27 p24_27 => ?_) (fun g24_27 p24_27 => ?_)
                      | refine gsplitB 27 rfl rfl (fun g24_27 p24_27 => ?_) (fun g24_27 p24_27 => ?_)
                    · exfalso; omega
                    · first
                        | refine y1 rfl rfl g24_27 rfl (lop_fieldAddr_rf (fo := 4) rfl Try.underlying50 rfl rfl Try.sizeOf3 (by decide)) ?_
                        | refine y1 rfl rfl g24_27 rfl (lop_fieldAddr_fp (fo := 4) rfl Try.underlying50 rfl rfl Try.sizeOf3 (by decide) rfl) ?_
                      first
                        | refine y1 rfl rfl g24_27 rfl (lop_load_rf rfl rfl Try.isAgg3 rfl) ?_
                        | refine y1 rfl rfl g24_27 rfl (lop_load_fp rfl Try.isAgg3 rfl) ?_
                      refine y1 rfl rfl g24_27 rfl (lop_neq rfl rfl) ?_
                      first
                        | refine s1 rfl (lop_pick_f (v := .bool _) rfl g24_2 rfl) ?_
                        | refine s1 rfl (lop_pick_f (v := .bool _) rfl g24_6 rfl) ?_
                        | refine s1 rfl (lop_pick_f (v := .bool _) rfl g24_13 rfl) ?_
                        | refine s1 rfl (lop_pick_f (v := .bool _) rfl g24_20 rfl) ?_
                        | refine s1 rfl (lop_pick_f (v := .bool _) rfl g24_27 rfl) ?_
                        | refine s1 rfl (lop_pick_t (v := .bool _) rfl rfl rfl) ?_
                        | refine s1 rfl (lop_pick_f (v := .bool _) rfl rfl rfl) ?_
                        | refine s1 rfl (lop_pick rfl rfl rfl) ?_
                      refine s1 rfl (lop_move (v := .bool _) rfl) ?_
                      first
                        | refine gsplitP 32 rfl rfl (fun g24_32 p24_32 => ?_) (fun g24_32 p24_32 => ?_)
                        | refine gsplitB 32 rfl rfl (fun g24_32 p24_32 => ?_) (fun g24_32 p24_32 => ?_)
                      · exfalso; omega
                      · first
                          | refine y1 rfl rfl g24_32 rfl (lop_fieldAddr_rf (fo := 1) rfl Try.underlying50 rfl rfl Try.sizeOf3 (by decide)) ?_
                          | refine y1 rfl rfl g24_32 rfl (lop_fieldAddr_fp (fo := 1) rfl Try.underlying50 rfl rfl Try.sizeOf3 (by decide) rfl) ?_
                        first
                          | refine y1 rfl rfl g24_32 rfl (lop_load_rf rfl rfl Try.isAgg3 rfl) ?_
                          | refine y1 rfl rfl g24_32 rfl (lop_load_fp rfl Try.isAgg3 rfl) ?_
                        first
                          | refine y1 rfl rfl g24_32 rfl (lop_fieldAddr_rf (fo := 1) rfl Try.underlying50 rfl rfl Try.sizeOf3 (by decide)) ?_
                          | refine y1 rfl rfl g24_32 rfl (lop_fieldAddr_fp (fo := 1) rfl Try.underlying50 rfl rfl Try.sizeOf3 (by decide) rfl) ?_
                        first
                          | refine y1 rfl rfl g24_32 rfl (lop_load_rf rfl rfl Try.isAgg3 rfl) ?_
                          | refine y1 rfl rfl g24_32 rfl (lop_load_fp rfl Try.isAgg3 rfl) ?_
                        refine y1 rfl rfl g24_32 rfl (lop_bop rfl rfl rfl (bop_add (by omega) (by omega))) ?_
                        first
                          | refine y1 rfl rfl g24_32 rfl (lop_fieldAddr_rf (fo := 1) rfl Try.underlying50 rfl rfl Try.sizeOf3 (by decide)) ?_
                          | refine y1 rfl rfl g24_32 rfl (lop_fieldAddr_fp (fo := 1) rfl Try.underlying50 rfl rfl Try.sizeOf3 (by decide) rfl) ?_
                        first
                          | refine y1 rfl rfl g24_32 rfl (lop_load_rf rfl rfl Try.isAgg3 rfl) ?_
                          | refine y1 rfl rfl g24_32 rfl (lop_load_fp rfl Try.isAgg3 rfl) ?_
                        refine y1 rfl rfl g24_32 rfl (lop_bop rfl rfl rfl (bop_add (by omega) (by omega))) ?_
                        refine y1 rfl rfl g24_32 rfl (lop_neq rfl rfl) ?_
                        first
                          | refine s1 rfl (lop_pick_f (v := .bool _) rfl g24_2 rfl) ?_
                          | refine s1 rfl (lop_pick_f (v := .bool _) rfl g24_6 rfl) ?_
                          | refine s1 rfl (lop_pick_f (v := .bool _) rfl g24_13 rfl) ?_
                          | refine s1 rfl (lop_pick_f (v := .bool _) rfl g24_20 rfl) ?_
                          | refine s1 rfl (lop_pick_f (v := .bool _) rfl g24_27 rfl) ?_
                          | refine s1 rfl (lop_pick_f (v := .bool _) rfl g24_32 rfl) ?_
                          | refine s1 rfl (lop_pick_t (v := .bool _) rfl rfl rfl) ?_
                          | refine s1 rfl (lop_pick_f (v := .bool _) rfl rfl rfl) ?_
                          | refine s1 rfl (lop_pick rfl rfl rfl) ?_
                        refine ops_nil ?_
                        first
                          | refine ok_if _ rfl rfl (fun h_t176 => ?_) (fun h_t176 => ?_)
                          | refine ok_cond rfl rfl (fun h_t176 => ?_) (fun h_t176 => ?_)
                        · exfalso; omega
                        · refine ok_skip ?_
                          refine ok_region ?_
                          refine s1 rfl (lop_move (v := .int _ _) rfl) ?_
                          refine s1 rfl (lop_bop rfl rfl rfl (bop_add (by omega) (by omega))) ?_
                          refine s1 rfl (lop_assign (v := .int _ _) rfl) ?_
                          refine ops_nil ?_
                          exact ⟨⟨i + 1, by omega⟩, by simp only; omega, le_mk ⟨rfl, rfl, rfl, trivial⟩ ⟨.inr rfl, trivial⟩ rfl⟩
  · refine ok_exit ?_
    refine ok_reg ?_
    refine s1 rfl (lop_move (v := .bool _) rfl) ?_
    refine s1 rfl (lop_assign (v := .bool _) rfl) ?_
    refine ops_nil ?_
    refine ok_ret ?_
    exact ret_one rfl rfl rfl rfl rfl

end Go.Proofs
