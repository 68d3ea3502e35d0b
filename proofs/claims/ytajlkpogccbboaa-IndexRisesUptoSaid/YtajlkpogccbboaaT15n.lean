/- Chapter 15: walks. Printed by gen.py. -/
import Derived.Test.YtajlkpogccbboaaP15d
set_option linter.unusedVariables false
set_option linter.unusedSimpArgs false
set_option maxRecDepth 100000
namespace Go.Proofs
open Go.Hg

def inP (n : NameD) (p : SpanD) : Bool := decide (p.off = n.off ∧ p.n = n.n)
theorem any_succ {α : Type} {p : α → Bool} {l : List α} {j : Nat} (h : j < l.length) : (l.take (j + 1)).any p = ((l.take j).any p || p l[j]) := by
  rw [List.take_add_one, List.getElem?_eq_getElem h, List.any_append]
  simp
theorem runs_fit {l : List CmdD} (h : l.length ≤ 1048576) : Fit 1048590 (runsF l) := by
  unfold runsF
  exact (runK_fit l _ (by omega)).le (by omega)

theorem IndexNames_ac {l : List CmdD} (hl : CmdsOk l) : AC Try.prog 4 [rowOf CmdD.enc l] (.bool true) := by
  have hG := runs_good l
  have hF := runs_fit hl.1
  have hvl := hF.vols
  have hnl := hF.names
  refine AC.intro Try.func4 rfl (Nat.le_of_ble_eq_true rfl) ?_
  refine ok_reg ?_
  refine s1 rfl (lop_assign (v := .bool _) rfl) ?_
  refine ops_nil ?_
  refine ok_reg ?_
  refine s1 rfl (lop_call rfl Try.call9 (FrzL.tf rfl) (.inl rfl) shown_ac) ?_
  refine s1 rfl (lop_assign (v := .bool _) rfl) ?_
  refine ops_nil ?_
  refine ok_reg ?_
  first
    | refine s1 rfl (lop_move (v := .sl _ _) rfl) ?_
    | refine s1 rfl (lop_move (v := .os _ _ _ _) rfl) ?_
    | refine s1 rfl (lop_move (v := .z0) rfl) ?_
  refine s1 rfl (lop_call rfl Try.call14 (FrzL.tf rfl) (.inl rfl) (runs_ac hl)) ?_
  refine s1w rfl (lop_new (t := 4) (cs := [.z0, .z0, .z0]) Try.zeroValue26 rfl rfl rfl rfl) rfl ?_
  first
    | refine s0w rfl (lop_storeK (v := .agg [_, _, _]) (cs' := [_, _, _]) (f' := true) rfl rfl rfl Try.sizeOf26 rfl rfl rfl rfl rfl) ?_
    | refine s0w rfl (lop_storeK (v := .agg [_, _, _]) (cs' := [_, _, _]) (f' := false) rfl rfl rfl Try.sizeOf26 rfl rfl rfl rfl rfl) ?_
  refine ops_nil ?_
  refine ok_seq ?_
  refine ok_reg ?_
  refine s1 rfl (lop_assign (v := .int _ _) rfl) ?_
  refine ops_nil ?_
  refine ok_block ?_
  refine ok_loop (ι := {i : Nat // i ≤ (runsF l).names.length}) (fun i => ⟨[(3, .bool true), (4, .rf 4 0), (5, i64 i.1)], [(4, some (true, (runsF l).enc))], 104⟩) (fun i => (runsF l).names.length - i.1) (⟨0, Nat.zero_le _⟩) ?_ ?_
  · exact le_mk ⟨rfl, rfl, rfl, trivial⟩ ⟨.inr rfl, trivial⟩ rfl
  rintro ⟨i, hi⟩
  dsimp only
  refine ok_seq ?_
  refine ok_reg ?_
  refine s1 rfl (lop_move (v := .int _ _) rfl) ?_
  first
    | refine s1 rfl (lop_fieldAddr_rf (fo := 1) rfl Try.underlying26 rfl rfl Try.sizeOf23 (by decide)) ?_
    | refine s1 rfl (lop_fieldAddr_fp (fo := 1) rfl Try.underlying26 rfl rfl Try.sizeOf23 (by decide) rfl) ?_
  first
    | refine s1 rfl (lop_load_rf rfl rfl Try.isAgg23 rfl) ?_
    | refine s1 rfl (lop_load_fp rfl Try.isAgg23 rfl) ?_
  refine s1 rfl (lop_len rfl Try.underlying23 ⟨⟨_, rfl⟩, rfl⟩) ?_
  refine s1 rfl (lop_lss rfl rfl) ?_
  refine ops_nil ?_
  first
    | refine ok_if _ rfl rfl (fun h_t18 => ?_) (fun h_t18 => ?_)
    | refine ok_cond rfl rfl (fun h_t18 => ?_) (fun h_t18 => ?_)
  · have hri : i < (runsF l).names.length := by omega
    have hne := hG.each (runsF l).names[i] (List.getElem_mem hri)
    obtain ⟨k, v, hk, hid, hpart, hfit⟩ := hne.vol
    have hVI := hG.vi v (List.mem_of_getElem? hk)
    have hpl := hF.parts v (List.mem_of_getElem? hk)
    have hVol := index_Vol_ac (runsF l) (by omega) (runsF l).names[i].vol
    rw [← hid, volF_uniq hG.ci hk, hid] at hVol
    refine ok_skip ?_
    refine ok_seq ?_
    refine ok_block ?_
    refine ok_reg ?_
    first
      | refine s1 rfl (lop_fieldAddr_rf (fo := 1) rfl Try.underlying26 rfl rfl Try.sizeOf23 (by decide)) ?_
      | refine s1 rfl (lop_fieldAddr_fp (fo := 1) rfl Try.underlying26 rfl rfl Try.sizeOf23 (by decide) rfl) ?_
    first
      | refine s1 rfl (lop_load_rf rfl rfl Try.isAgg23 rfl) ?_
      | refine s1 rfl (lop_load_fp rfl Try.isAgg23 rfl) ?_
    refine s1 rfl (lop_move (v := .int _ _) rfl) ?_
    first
      | refine s1 rfl (lop_indexAddr_os rfl rfl Try.underlying23 Try.sizeOf47 rfl hri) ?_
      | refine s1 rfl (lop_indexAddr_sl rfl rfl Try.underlying23 Try.sizeOf47 rfl hri (flat_at NameD.len hri) (flat_ne NameD.len (by decide) hri)) ?_
    first
      | refine s1 rfl (lop_load_rf_agg rfl rfl Try.isAgg47 Try.sizeOf47 (by rw [List.length_append, NameD.len]; omega) (by rw [List.take_append_of_le_length (by rw [NameD.len]; omega), List.take_of_length_le (by rw [NameD.len]; omega)])) ?_
      | refine s1 rfl (lop_load_fp_agg rfl Try.isAgg47 Try.sizeOf47 (by rw [List.length_append, NameD.len]; omega) (by rw [List.take_append_of_le_length (by rw [NameD.len]; omega), List.take_of_length_le (by rw [NameD.len]; omega)])) ?_
    refine s1w rfl (lop_new (t := 6) (cs := [.str _, .int _ _, .int _ _, .int _ _, .int _ _]) Try.zeroValue47 rfl rfl rfl rfl) rfl ?_
    first
      | refine s0w rfl (lop_storeK (v := .agg [.str _, .int _ _, .int _ _, .int _ _, .int _ _]) (cs' := [.str _, .int _ _, .int _ _, .int _ _, .int _ _]) (f' := true) rfl rfl rfl Try.sizeOf47 rfl rfl rfl rfl rfl) ?_
      | refine s0w rfl (lop_storeK (v := .agg [.str _, .int _ _, .int _ _, .int _ _, .int _ _]) (cs' := [.str _, .int _ _, .int _ _, .int _ _, .int _ _]) (f' := false) rfl rfl rfl Try.sizeOf47 rfl rfl rfl rfl rfl) ?_
    refine ops_nil ?_
    refine ok_reg ?_
    first
      | refine s1 rfl (lop_load_rf_agg (ys := [_, _, _]) rfl rfl Try.isAgg26 Try.sizeOf26 (Nat.le_of_ble_eq_true rfl) rfl) ?_
      | refine s1 rfl (lop_load_fp_agg (ys := [_, _, _]) rfl Try.isAgg26 Try.sizeOf26 (Nat.le_of_ble_eq_true rfl) rfl) ?_
    first
      | refine s1 rfl (lop_fieldAddr_rf (fo := 1) rfl Try.underlying47 rfl rfl Try.sizeOf3 (by decide)) ?_
      | refine s1 rfl (lop_fieldAddr_fp (fo := 1) rfl Try.underlying47 rfl rfl Try.sizeOf3 (by decide) rfl) ?_
    first
      | refine s1 rfl (lop_load_rf rfl rfl Try.isAgg3 rfl) ?_
      | refine s1 rfl (lop_load_fp rfl Try.isAgg3 rfl) ?_
    refine s1 rfl (lop_call rfl Try.call15 (FrzL.tf rfl) (.inl rfl) hVol) ?_
    refine s1 rfl (lop_move (v := .tup _) rfl) ?_
    refine s1 rfl (lop_extract rfl rfl) ?_
    refine s1 rfl (lop_extract rfl rfl) ?_
    refine s1w rfl (lop_new (t := 7) (cs := [.int _ _, .int _ _, .int _ _, .int _ _, .int _ _, .z0, .z0, .int _ _, .int _ _]) Try.zeroValue50 rfl rfl rfl rfl) rfl ?_
    first
      | refine s0w rfl (lop_storeK (v := .agg [.int _ _, .int _ _, .int _ _, .int _ _, .int _ _, _, _, .int _ _, .int _ _]) (cs' := [.int _ _, .int _ _, .int _ _, .int _ _, .int _ _, _, _, .int _ _, .int _ _]) (f' := true) rfl rfl rfl Try.sizeOf50 rfl rfl rfl rfl rfl) ?_
      | refine s0w rfl (lop_storeK (v := .agg [.int _ _, .int _ _, .int _ _, .int _ _, .int _ _, _, _, .int _ _, .int _ _]) (cs' := [.int _ _, .int _ _, .int _ _, .int _ _, .int _ _, _, _, .int _ _, .int _ _]) (f' := false) rfl rfl rfl Try.sizeOf50 rfl rfl rfl rfl rfl) ?_
    refine s1 rfl (lop_assign (v := .bool _) rfl) ?_
    refine ops_nil ?_
    refine ok_seq ?_
    refine ok_drw Try.mixed ?_
    refine d1 rfl rfl (lop_move (v := .int _ _) rfl) ?_
    refine d1 rfl rfl (lop_gtr rfl rfl) ?_
    refine d1 rfl rfl (lop_move (v := .bool _) rfl) ?_
    first
      | refine dsplitP 2 rfl rfl (fun g8_2 p8_2 => ?_) (fun g8_2 p8_2 => ?_)
      | refine dsplitB 2 rfl rfl (fun g8_2 p8_2 => ?_) (fun g8_2 p8_2 => ?_)
    · have hr1 : i - 1 < (runsF l).names.length := by omega
      have hso : slt (runsF l).names[i - 1].name (runsF l).names[i].name = true := by
        have h5 := hG.sorted
        rw [List.pairwise_iff_getElem] at h5
        have := h5 (i - 1) i (by rw [List.length_map]; omega) (by rw [List.length_map]; omega) (by omega)
        rwa [List.getElem_map, List.getElem_map] at this
      first
        | refine dy1 rfl rfl g8_2 rfl rfl (lop_fieldAddr_rf (fo := 1) rfl Try.underlying26 rfl rfl Try.sizeOf23 (by decide)) ?_
        | refine dy1 rfl rfl g8_2 rfl rfl (lop_fieldAddr_fp (fo := 1) rfl Try.underlying26 rfl rfl Try.sizeOf23 (by decide) rfl) ?_
      first
        | refine dy1 rfl rfl g8_2 rfl rfl (lop_load_rf rfl rfl Try.isAgg23 rfl) ?_
        | refine dy1 rfl rfl g8_2 rfl rfl (lop_load_fp rfl Try.isAgg23 rfl) ?_
      refine dy1 rfl rfl g8_2 rfl rfl (lop_move (v := .int _ _) rfl) ?_
      refine dy1 rfl rfl g8_2 rfl rfl (lop_bop rfl rfl rfl (bop_sub (by omega) (by omega))) ?_
      refine dy1 rfl rfl g8_2 rfl rfl (lop_indexAddr_sl (i := i - 1) rfl rfl Try.underlying23 Try.sizeOf47 (show _ = ((i - 1 : Nat) : Int) by omega) hr1 (flat_at NameD.len hr1) (flat_ne NameD.len (by decide) hr1)) ?_
      first
        | refine dy1 rfl rfl g8_2 rfl rfl (lop_fieldAddr_rf (fo := 0) rfl Try.underlying47 rfl rfl Try.sizeOf9 (by decide)) ?_
        | refine dy1 rfl rfl g8_2 rfl rfl (lop_fieldAddr_fp (fo := 0) rfl Try.underlying47 rfl rfl Try.sizeOf9 (by decide) rfl) ?_
      first
        | refine dy1 rfl rfl g8_2 rfl rfl (lop_load_rf rfl rfl Try.isAgg9 rfl) ?_
        | refine dy1 rfl rfl g8_2 rfl rfl (lop_load_fp rfl Try.isAgg9 rfl) ?_
      first
        | refine dy1 rfl rfl g8_2 rfl rfl (lop_fieldAddr_rf (fo := 0) rfl Try.underlying47 rfl rfl Try.sizeOf9 (by decide)) ?_
        | refine dy1 rfl rfl g8_2 rfl rfl (lop_fieldAddr_fp (fo := 0) rfl Try.underlying47 rfl rfl Try.sizeOf9 (by decide) rfl) ?_
      first
        | refine dy1 rfl rfl g8_2 rfl rfl (lop_load_rf rfl rfl Try.isAgg9 rfl) ?_
        | refine dy1 rfl rfl g8_2 rfl rfl (lop_load_fp rfl Try.isAgg9 rfl) ?_
      refine dy1 rfl rfl g8_2 rfl rfl (lop_sgeq rfl rfl) ?_
      first
        | refine d1 rfl rfl (lop_pick_t (v := .bool _) rfl g8_2 rfl) ?_
        | refine d1 rfl rfl (lop_pick_t (v := .bool _) rfl rfl rfl) ?_
        | refine d1 rfl rfl (lop_pick_f (v := .bool _) rfl rfl rfl) ?_
        | refine d1 rfl rfl (lop_pick rfl rfl rfl) ?_
      refine d1 rfl rfl (lop_move (v := .bool _) rfl) ?_
      first
        | refine dsplitP 14 rfl rfl (fun g8_14 p8_14 => ?_) (fun g8_14 p8_14 => ?_)
        | refine dsplitB 14 rfl rfl (fun g8_14 p8_14 => ?_) (fun g8_14 p8_14 => ?_)
      · exfalso
        rw [hso] at g8_14
        cases g8_14
      · first
          | refine dy1 rfl rfl g8_14 rfl rfl (lop_fieldAddr_rf (fo := 0) rfl Try.underlying47 rfl rfl Try.sizeOf9 (by decide)) ?_
          | refine dy1 rfl rfl g8_14 rfl rfl (lop_fieldAddr_fp (fo := 0) rfl Try.underlying47 rfl rfl Try.sizeOf9 (by decide) rfl) ?_
        first
          | refine dy1 rfl rfl g8_14 rfl rfl (lop_load_rf rfl rfl Try.isAgg9 rfl) ?_
          | refine dy1 rfl rfl g8_14 rfl rfl (lop_load_fp rfl Try.isAgg9 rfl) ?_
        refine dy1 rfl rfl g8_14 rfl rfl (lop_seql rfl rfl) ?_
        first
          | refine d1 rfl rfl (lop_pick_t (v := .bool _) rfl g8_2 rfl) ?_
          | refine d1 rfl rfl (lop_pick_f (v := .bool _) rfl g8_14 rfl) ?_
          | refine d1 rfl rfl (lop_pick_t (v := .bool _) rfl rfl rfl) ?_
          | refine d1 rfl rfl (lop_pick_f (v := .bool _) rfl rfl rfl) ?_
          | refine d1 rfl rfl (lop_pick rfl rfl rfl) ?_
        refine d1 rfl rfl (lop_move (v := .bool _) rfl) ?_
        first
          | refine dsplitP 19 rfl rfl (fun g8_19 p8_19 => ?_) (fun g8_19 p8_19 => ?_)
          | refine dsplitB 19 rfl rfl (fun g8_19 p8_19 => ?_) (fun g8_19 p8_19 => ?_)
        · exact absurd p8_19 hne.ne
        · refine dy1 rfl rfl g8_19 rfl rfl (lop_move (v := .bool _) rfl) ?_
          refine dy1 rfl rfl g8_19 rfl rfl (lop_not rfl) ?_
          first
            | refine d1 rfl rfl (lop_pick_t (v := .bool _) rfl g8_2 rfl) ?_
            | refine d1 rfl rfl (lop_pick_f (v := .bool _) rfl g8_14 rfl) ?_
            | refine d1 rfl rfl (lop_pick_f (v := .bool _) rfl g8_19 rfl) ?_
            | refine d1 rfl rfl (lop_pick_t (v := .bool _) rfl rfl rfl) ?_
            | refine d1 rfl rfl (lop_pick_f (v := .bool _) rfl rfl rfl) ?_
            | refine d1 rfl rfl (lop_pick rfl rfl rfl) ?_
          refine dr_nil (by kernel_rfl) ?_
          first
            | refine ok_if _ rfl rfl (fun h_t55 => ?_) (fun h_t55 => ?_)
            | refine ok_cond rfl rfl (fun h_t55 => ?_) (fun h_t55 => ?_)
          · exfalso
            simp at h_t55
          · refine ok_skip ?_
            refine ok_reg ?_
            refine s1 rfl (lop_assign (v := .bool _) rfl) ?_
            refine ops_nil ?_
            refine ok_seq ?_
            refine ok_reg ?_
            refine s1 rfl (lop_assign (v := .int _ _) rfl) ?_
            refine ops_nil ?_
            refine ok_block ?_
            refine ok_loop (ι := {j : Nat // j ≤ v.parts.length}) (fun j => ⟨[(3, .bool true), (4, .rf 4 0), (5, i64 i), (6, .rf 6 0), (7, .rf 7 0), (9, .bool ((v.parts.take j.1).any (inP (runsF l).names[i]))), (10, i64 j.1)], [(4, some (true, (runsF l).enc)), (6, some (true, (runsF l).names[i].enc)), (7, some (true, v.enc))], 104⟩) (fun j => v.parts.length - j.1) (⟨0, Nat.zero_le _⟩) ?_ ?_
            · exact le_mk ⟨rfl, rfl, rfl, rfl, rfl, rfl, rfl, trivial⟩ ⟨.inr rfl, .inr rfl, .inr rfl, trivial⟩ rfl
            rintro ⟨j, hj0⟩
            dsimp only
            refine ok_seq ?_
            refine ok_reg ?_
            refine s1 rfl (lop_move (v := .int _ _) rfl) ?_
            first
              | refine s1 rfl (lop_fieldAddr_rf (fo := 5) rfl Try.underlying50 rfl rfl Try.sizeOf48 (by decide)) ?_
              | refine s1 rfl (lop_fieldAddr_fp (fo := 5) rfl Try.underlying50 rfl rfl Try.sizeOf48 (by decide) rfl) ?_
            first
              | refine s1 rfl (lop_load_rf rfl rfl Try.isAgg48 rfl) ?_
              | refine s1 rfl (lop_load_fp rfl Try.isAgg48 rfl) ?_
            refine s1 rfl (lop_len rfl Try.underlying48 ⟨⟨_, rfl⟩, rfl⟩) ?_
            refine s1 rfl (lop_lss rfl rfl) ?_
            refine ops_nil ?_
            first
              | refine ok_if _ rfl rfl (fun h_t60 => ?_) (fun h_t60 => ?_)
              | refine ok_cond rfl rfl (fun h_t60 => ?_) (fun h_t60 => ?_)
            · have hj : j < v.parts.length := by omega
              refine ok_skip ?_
              refine ok_seq ?_
              refine ok_block ?_
              refine ok_draw Try.mixed ?_
              refine d1 rfl rfl (lop_move (v := .bool _) rfl) ?_
              refine d1 rfl rfl (lop_move (v := .bool _) rfl) ?_
              first
                | refine dsplitP 1 rfl rfl (fun g14_1 p14_1 => ?_) (fun g14_1 p14_1 => ?_)
                | refine dsplitB 1 rfl rfl (fun g14_1 p14_1 => ?_) (fun g14_1 p14_1 => ?_)
              · refine dn1 rfl rfl g14_1 rfl ?_
                refine dn1 rfl rfl g14_1 rfl ?_
                refine dn1 rfl rfl g14_1 rfl ?_
                refine dn1 rfl rfl g14_1 rfl ?_
                refine dn1 rfl rfl g14_1 rfl ?_
                refine dn1 rfl rfl g14_1 rfl ?_
                refine dn1 rfl rfl g14_1 rfl ?_
                refine dn1 rfl rfl g14_1 rfl ?_
                refine dn1 rfl rfl g14_1 rfl ?_
                refine dp1 rfl (.inr (congrArg V.bool g14_1)) rfl rfl ?_
                refine dp1 rfl (.inl rfl) rfl rfl ?_
                refine dp1 rfl (.inl rfl) rfl rfl ?_
                refine dp1 rfl (.inl rfl) rfl rfl ?_
                refine dp1 rfl (.inl rfl) rfl rfl ?_
                refine dp1 rfl (.inl rfl) rfl rfl ?_
                refine dp1 rfl (.inl rfl) rfl rfl ?_
                refine dp1 rfl (.inl rfl) rfl rfl ?_
                refine dp1 rfl (.inl rfl) rfl rfl ?_
                refine dp1 rfl (.inl rfl) rfl rfl ?_
                refine dn1 rfl rfl g14_1 rfl ?_
                first
                  | refine d1 rfl rfl (lop_pick_t (v := .bool _) rfl g14_1 rfl) ?_
                  | refine d1 rfl rfl (lop_pick_f (v := .bool _) rfl undef rfl) ?_
                  | refine d1 rfl rfl (lop_pick_f (v := .bool _) rfl undef rfl) ?_
                  | refine d1 rfl rfl (lop_pick_f (v := .bool _) rfl undef rfl) ?_
                  | refine d1 rfl rfl (lop_pick_f (v := .bool _) rfl undef rfl) ?_
                  | refine d1 rfl rfl (lop_pick_f (v := .bool _) rfl undef rfl) ?_
                  | refine d1 rfl rfl (lop_pick_f (v := .bool _) rfl undef rfl) ?_
                  | refine d1 rfl rfl (lop_pick_f (v := .bool _) rfl undef rfl) ?_
                  | refine d1 rfl rfl (lop_pick_f (v := .bool _) rfl undef rfl) ?_
                  | refine d1 rfl rfl (lop_pick_f (v := .bool _) rfl undef rfl) ?_
                  | refine d1 rfl rfl (lop_pick_f (v := .bool _) rfl undef rfl) ?_
                  | refine d1 rfl rfl (lop_pick_t (v := .bool _) rfl rfl rfl) ?_
                  | refine d1 rfl rfl (lop_pick_f (v := .bool _) rfl rfl rfl) ?_
                  | refine d1 rfl rfl (lop_pick rfl rfl rfl) ?_
                refine d1 rfl rfl (lop_assign (v := .bool _) rfl) ?_
                refine dr_nil (by kernel_rfl) ?_
                refine ok_region ?_
                refine s1 rfl (lop_move (v := .int _ _) rfl) ?_
                refine s1 rfl (lop_bop rfl rfl rfl (bop_add (by omega) (by omega))) ?_
                refine s1 rfl (lop_assign (v := .int _ _) rfl) ?_
                refine ops_nil ?_
                exact ⟨⟨j + 1, by omega⟩, by simp only; omega, le_mk ⟨rfl, rfl, rfl, rfl, rfl, congrArg V.bool (by rw [any_succ hj]; first | (rw [g14_1]; rfl) | (rw [g14_1, Bool.false_or]; exact decide_eq_decide.2 (by omega)) | (rw [g14_1, Bool.false_or]; exact (decide_eq_false (by omega)).symm)), rfl, trivial⟩ ⟨.inr rfl, .inr rfl, .inr rfl, trivial⟩ rfl⟩
              · first
                  | refine dy1 rfl rfl g14_1 rfl rfl (lop_fieldAddr_rf (fo := 5) rfl Try.underlying50 rfl rfl Try.sizeOf48 (by decide)) ?_
                  | refine dy1 rfl rfl g14_1 rfl rfl (lop_fieldAddr_fp (fo := 5) rfl Try.underlying50 rfl rfl Try.sizeOf48 (by decide) rfl) ?_
                first
                  | refine dy1 rfl rfl g14_1 rfl rfl (lop_load_rf rfl rfl Try.isAgg48 rfl) ?_
                  | refine dy1 rfl rfl g14_1 rfl rfl (lop_load_fp rfl Try.isAgg48 rfl) ?_
                refine dy1 rfl rfl g14_1 rfl rfl (lop_move (v := .int _ _) rfl) ?_
                first
                  | refine dy1 rfl rfl g14_1 rfl rfl (lop_indexAddr_os rfl rfl Try.underlying48 Try.sizeOf54 rfl hj) ?_
                  | refine dy1 rfl rfl g14_1 rfl rfl (lop_indexAddr_sl rfl rfl Try.underlying48 Try.sizeOf54 rfl hj (flat_at SpanD.len hj) (flat_ne SpanD.len (by decide) hj)) ?_
                first
                  | refine dy1 rfl rfl g14_1 rfl rfl (lop_fieldAddr_rf (fo := 0) rfl Try.underlying54 rfl rfl Try.sizeOf3 (by decide)) ?_
                  | refine dy1 rfl rfl g14_1 rfl rfl (lop_fieldAddr_fp (fo := 0) rfl Try.underlying54 rfl rfl Try.sizeOf3 (by decide) rfl) ?_
                first
                  | refine dy1 rfl rfl g14_1 rfl rfl (lop_load_rf rfl rfl Try.isAgg3 rfl) ?_
                  | refine dy1 rfl rfl g14_1 rfl rfl (lop_load_fp rfl Try.isAgg3 rfl) ?_
                first
                  | refine dy1 rfl rfl g14_1 rfl rfl (lop_fieldAddr_rf (fo := 2) rfl Try.underlying47 rfl rfl Try.sizeOf3 (by decide)) ?_
                  | refine dy1 rfl rfl g14_1 rfl rfl (lop_fieldAddr_fp (fo := 2) rfl Try.underlying47 rfl rfl Try.sizeOf3 (by decide) rfl) ?_
                first
                  | refine dy1 rfl rfl g14_1 rfl rfl (lop_load_rf rfl rfl Try.isAgg3 rfl) ?_
                  | refine dy1 rfl rfl g14_1 rfl rfl (lop_load_fp rfl Try.isAgg3 rfl) ?_
                refine dy1 rfl rfl g14_1 rfl rfl (lop_eql rfl rfl) ?_
                refine dy1 rfl rfl g14_1 rfl rfl (lop_move (v := .bool _) rfl) ?_
                first
                  | refine dsplitP 11 rfl rfl (fun g14_11 p14_11 => ?_) (fun g14_11 p14_11 => ?_)
                  | refine dsplitB 11 rfl rfl (fun g14_11 p14_11 => ?_) (fun g14_11 p14_11 => ?_)
                · first
                    | refine dy1 rfl rfl g14_11 rfl rfl (lop_fieldAddr_rf (fo := 5) rfl Try.underlying50 rfl rfl Try.sizeOf48 (by decide)) ?_
                    | refine dy1 rfl rfl g14_11 rfl rfl (lop_fieldAddr_fp (fo := 5) rfl Try.underlying50 rfl rfl Try.sizeOf48 (by decide) rfl) ?_
                  first
                    | refine dy1 rfl rfl g14_11 rfl rfl (lop_load_rf rfl rfl Try.isAgg48 rfl) ?_
                    | refine dy1 rfl rfl g14_11 rfl rfl (lop_load_fp rfl Try.isAgg48 rfl) ?_
                  refine dy1 rfl rfl g14_11 rfl rfl (lop_move (v := .int _ _) rfl) ?_
                  first
                    | refine dy1 rfl rfl g14_11 rfl rfl (lop_indexAddr_os rfl rfl Try.underlying48 Try.sizeOf54 rfl hj) ?_
                    | refine dy1 rfl rfl g14_11 rfl rfl (lop_indexAddr_sl rfl rfl Try.underlying48 Try.sizeOf54 rfl hj (flat_at SpanD.len hj) (flat_ne SpanD.len (by decide) hj)) ?_
                  first
                    | refine dy1 rfl rfl g14_11 rfl rfl (lop_fieldAddr_rf (fo := 1) rfl Try.underlying54 rfl rfl Try.sizeOf3 (by decide)) ?_
                    | refine dy1 rfl rfl g14_11 rfl rfl (lop_fieldAddr_fp (fo := 1) rfl Try.underlying54 rfl rfl Try.sizeOf3 (by decide) rfl) ?_
                  first
                    | refine dy1 rfl rfl g14_11 rfl rfl (lop_load_rf rfl rfl Try.isAgg3 rfl) ?_
                    | refine dy1 rfl rfl g14_11 rfl rfl (lop_load_fp rfl Try.isAgg3 rfl) ?_
                  first
                    | refine dy1 rfl rfl g14_11 rfl rfl (lop_fieldAddr_rf (fo := 3) rfl Try.underlying47 rfl rfl Try.sizeOf3 (by decide)) ?_
                    | refine dy1 rfl rfl g14_11 rfl rfl (lop_fieldAddr_fp (fo := 3) rfl Try.underlying47 rfl rfl Try.sizeOf3 (by decide) rfl) ?_
                  first
                    | refine dy1 rfl rfl g14_11 rfl rfl (lop_load_rf rfl rfl Try.isAgg3 rfl) ?_
                    | refine dy1 rfl rfl g14_11 rfl rfl (lop_load_fp rfl Try.isAgg3 rfl) ?_
                  refine dy1 rfl rfl g14_11 rfl rfl (lop_eql rfl rfl) ?_
                  first
                    | refine dy1 rfl rfl g14_1 rfl rfl (lop_pick_f (v := .bool _) rfl g14_1 rfl) ?_
                    | refine dy1 rfl rfl g14_1 rfl rfl (lop_pick_t (v := .bool _) rfl g14_11 rfl) ?_
                    | refine dy1 rfl rfl g14_1 rfl rfl (lop_pick_t (v := .bool _) rfl rfl rfl) ?_
                    | refine dy1 rfl rfl g14_1 rfl rfl (lop_pick_f (v := .bool _) rfl rfl rfl) ?_
                    | refine dy1 rfl rfl g14_1 rfl rfl (lop_pick rfl rfl rfl) ?_
                  first
                    | refine d1 rfl rfl (lop_pick_f (v := .bool _) rfl g14_1 rfl) ?_
                    | refine d1 rfl rfl (lop_pick_t (v := .bool _) rfl g14_11 rfl) ?_
                    | refine d1 rfl rfl (lop_pick_t (v := .bool _) rfl rfl rfl) ?_
                    | refine d1 rfl rfl (lop_pick_f (v := .bool _) rfl rfl rfl) ?_
                    | refine d1 rfl rfl (lop_pick rfl rfl rfl) ?_
                  refine d1 rfl rfl (lop_assign (v := .bool _) rfl) ?_
                  refine dr_nil (by kernel_rfl) ?_
                  refine ok_region ?_
                  refine s1 rfl (lop_move (v := .int _ _) rfl) ?_
                  refine s1 rfl (lop_bop rfl rfl rfl (bop_add (by omega) (by omega))) ?_
                  refine s1 rfl (lop_assign (v := .int _ _) rfl) ?_
                  refine ops_nil ?_
                  exact ⟨⟨j + 1, by omega⟩, by simp only; omega, le_mk ⟨rfl, rfl, rfl, rfl, rfl, congrArg V.bool (by rw [any_succ hj]; first | (rw [g14_1]; rfl) | (rw [g14_1, Bool.false_or]; exact decide_eq_decide.2 (by omega)) | (rw [g14_1, Bool.false_or]; exact (decide_eq_false (by omega)).symm)), rfl, trivial⟩ ⟨.inr rfl, .inr rfl, .inr rfl, trivial⟩ rfl⟩
                · refine dn1 rfl rfl g14_11 rfl ?_
                  refine dn1 rfl rfl g14_11 rfl ?_
                  refine dn1 rfl rfl g14_11 rfl ?_
                  refine dn1 rfl rfl g14_11 rfl ?_
                  refine dn1 rfl rfl g14_11 rfl ?_
                  refine dn1 rfl rfl g14_11 rfl ?_
                  refine dn1 rfl rfl g14_11 rfl ?_
                  refine dn1 rfl rfl g14_11 rfl ?_
                  refine dn1 rfl rfl g14_11 rfl ?_
                  first
                    | refine dy1 rfl rfl g14_1 rfl rfl (lop_pick_f (v := .bool _) rfl g14_1 rfl) ?_
                    | refine dy1 rfl rfl g14_1 rfl rfl (lop_pick_f (v := .bool _) rfl g14_11 rfl) ?_
                    | refine dy1 rfl rfl g14_1 rfl rfl (lop_pick_t (v := .bool _) rfl rfl rfl) ?_
                    | refine dy1 rfl rfl g14_1 rfl rfl (lop_pick_f (v := .bool _) rfl rfl rfl) ?_
                    | refine dy1 rfl rfl g14_1 rfl rfl (lop_pick rfl rfl rfl) ?_
                  first
                    | refine d1 rfl rfl (lop_pick_f (v := .bool _) rfl g14_1 rfl) ?_
                    | refine d1 rfl rfl (lop_pick_f (v := .bool _) rfl g14_11 rfl) ?_
                    | refine d1 rfl rfl (lop_pick_t (v := .bool _) rfl rfl rfl) ?_
                    | refine d1 rfl rfl (lop_pick_f (v := .bool _) rfl rfl rfl) ?_
                    | refine d1 rfl rfl (lop_pick rfl rfl rfl) ?_
                  refine d1 rfl rfl (lop_assign (v := .bool _) rfl) ?_
                  refine dr_nil (by kernel_rfl) ?_
                  refine ok_region ?_
                  refine s1 rfl (lop_move (v := .int _ _) rfl) ?_
                  refine s1 rfl (lop_bop rfl rfl rfl (bop_add (by omega) (by omega))) ?_
                  refine s1 rfl (lop_assign (v := .int _ _) rfl) ?_
                  refine ops_nil ?_
                  exact ⟨⟨j + 1, by omega⟩, by simp only; omega, le_mk ⟨rfl, rfl, rfl, rfl, rfl, congrArg V.bool (by rw [any_succ hj]; first | (rw [g14_1]; rfl) | (rw [g14_1, Bool.false_or]; exact decide_eq_decide.2 (by omega)) | (rw [g14_1, Bool.false_or]; exact (decide_eq_false (by omega)).symm)), rfl, trivial⟩ ⟨.inr rfl, .inr rfl, .inr rfl, trivial⟩ rfl⟩
            · have hany : (v.parts.take j).any (inP (runsF l).names[i]) = true := by
                rw [List.take_of_length_le (by omega)]
                exact List.any_eq_true.2 ⟨_, hpart, by simp [inP]⟩
              refine ok_exit ?_
              refine ok_reg ?_
              refine s1 rfl (lop_move (v := .bool _) rfl) ?_
              refine s1 rfl (lop_not rfl) ?_
              refine s1 rfl (lop_move (v := .bool _) rfl) ?_
              first
                | refine gsplitP 2 rfl rfl (fun g15_2 p15_2 => ?_) (fun g15_2 p15_2 => ?_)
                | refine gsplitB 2 rfl rfl (fun g15_2 p15_2 => ?_) (fun g15_2 p15_2 => ?_)
              · exfalso
                rw [hany] at g15_2
                cases g15_2
              · first
                  | refine y1 rfl rfl g15_2 rfl (lop_fieldAddr_rf (fo := 2) rfl Try.underlying47 rfl rfl Try.sizeOf3 (by decide)) ?_
                  | refine y1 rfl rfl g15_2 rfl (lop_fieldAddr_fp (fo := 2) rfl Try.underlying47 rfl rfl Try.sizeOf3 (by decide) rfl) ?_
                first
                  | refine y1 rfl rfl g15_2 rfl (lop_load_rf rfl rfl Try.isAgg3 rfl) ?_
                  | refine y1 rfl rfl g15_2 rfl (lop_load_fp rfl Try.isAgg3 rfl) ?_
                first
                  | refine y1 rfl rfl g15_2 rfl (lop_fieldAddr_rf (fo := 3) rfl Try.underlying47 rfl rfl Try.sizeOf3 (by decide)) ?_
                  | refine y1 rfl rfl g15_2 rfl (lop_fieldAddr_fp (fo := 3) rfl Try.underlying47 rfl rfl Try.sizeOf3 (by decide) rfl) ?_
                first
                  | refine y1 rfl rfl g15_2 rfl (lop_load_rf rfl rfl Try.isAgg3 rfl) ?_
                  | refine y1 rfl rfl g15_2 rfl (lop_load_fp rfl Try.isAgg3 rfl) ?_
                refine y1 rfl rfl g15_2 rfl (lop_bop rfl rfl rfl (bop_add (by have := hne.off; have := hne.n; omega) (by have := hne.off; have := hne.n; omega))) ?_
                first
                  | refine y1 rfl rfl g15_2 rfl (lop_fieldAddr_rf (fo := 3) rfl Try.underlying50 rfl rfl Try.sizeOf3 (by decide)) ?_
                  | refine y1 rfl rfl g15_2 rfl (lop_fieldAddr_fp (fo := 3) rfl Try.underlying50 rfl rfl Try.sizeOf3 (by decide) rfl) ?_
                first
                  | refine y1 rfl rfl g15_2 rfl (lop_load_rf rfl rfl Try.isAgg3 rfl) ?_
                  | refine y1 rfl rfl g15_2 rfl (lop_load_fp rfl Try.isAgg3 rfl) ?_
                refine y1 rfl rfl g15_2 rfl (lop_gtr rfl rfl) ?_
                first
                  | refine s1 rfl (lop_pick_f (v := .bool _) rfl g15_2 rfl) ?_
                  | refine s1 rfl (lop_pick_t (v := .bool _) rfl rfl rfl) ?_
                  | refine s1 rfl (lop_pick_f (v := .bool _) rfl rfl rfl) ?_
                  | refine s1 rfl (lop_pick rfl rfl rfl) ?_
                refine s1 rfl (lop_move (v := .bool _) rfl) ?_
                first
                  | refine gsplitP 12 rfl rfl (fun g15_12 p15_12 => ?_) (fun g15_12 p15_12 => ?_)
                  | refine gsplitB 12 rfl rfl (fun g15_12 p15_12 => ?_) (fun g15_12 p15_12 => ?_)
                · exfalso; omega
                · first
                    | refine y1 rfl rfl g15_12 rfl (lop_fieldAddr_rf (fo := 3) rfl Try.underlying50 rfl rfl Try.sizeOf3 (by decide)) ?_
                    | refine y1 rfl rfl g15_12 rfl (lop_fieldAddr_fp (fo := 3) rfl Try.underlying50 rfl rfl Try.sizeOf3 (by decide) rfl) ?_
                  first
                    | refine y1 rfl rfl g15_12 rfl (lop_load_rf rfl rfl Try.isAgg3 rfl) ?_
                    | refine y1 rfl rfl g15_12 rfl (lop_load_fp rfl Try.isAgg3 rfl) ?_
                  refine y1 rfl rfl g15_12 rfl (lop_gtr rfl rfl) ?_
                  first
                    | refine s1 rfl (lop_pick_f (v := .bool _) rfl g15_2 rfl) ?_
                    | refine s1 rfl (lop_pick_f (v := .bool _) rfl g15_12 rfl) ?_
                    | refine s1 rfl (lop_pick_t (v := .bool _) rfl rfl rfl) ?_
                    | refine s1 rfl (lop_pick_f (v := .bool _) rfl rfl rfl) ?_
                    | refine s1 rfl (lop_pick rfl rfl rfl) ?_
                  refine ops_nil ?_
                  first
                    | refine ok_if _ rfl rfl (fun h_t102 => ?_) (fun h_t102 => ?_)
                    | refine ok_cond rfl rfl (fun h_t102 => ?_) (fun h_t102 => ?_)
                  · exfalso
                    have := hVI.used
                    omega
                  · refine ok_skip ?_
                    refine ok_region ?_
                    refine s1 rfl (lop_move (v := .int _ _) rfl) ?_
                    refine s1 rfl (lop_bop rfl rfl rfl (bop_add (by omega) (by omega))) ?_
                    refine s1 rfl (lop_assign (v := .int _ _) rfl) ?_
                    refine ops_nil ?_
                    exact ⟨⟨i + 1, by omega⟩, by simp only; omega, le_mk ⟨rfl, rfl, rfl, trivial⟩ ⟨.inr rfl, trivial⟩ rfl⟩
    · refine dn1 rfl rfl g8_2 rfl ?_
      refine dn1 rfl rfl g8_2 rfl ?_
      refine dn1 rfl rfl g8_2 rfl ?_
      refine dn1 rfl rfl g8_2 rfl ?_
      refine dn1 rfl rfl g8_2 rfl ?_
      refine dn1 rfl rfl g8_2 rfl ?_
      refine dn1 rfl rfl g8_2 rfl ?_
      refine dn1 rfl rfl g8_2 rfl ?_
      refine dn1 rfl rfl g8_2 rfl ?_
      refine dn1 rfl rfl g8_2 rfl ?_
      first
        | refine d1 rfl rfl (lop_pick_f (v := .bool _) rfl g8_2 rfl) ?_
        | refine d1 rfl rfl (lop_pick_t (v := .bool _) rfl rfl rfl) ?_
        | refine d1 rfl rfl (lop_pick_f (v := .bool _) rfl rfl rfl) ?_
        | refine d1 rfl rfl (lop_pick rfl rfl rfl) ?_
      refine d1 rfl rfl (lop_move (v := .bool _) rfl) ?_
      first
        | refine dy1 rfl rfl rfl rfl rfl (lop_fieldAddr_rf (fo := 0) rfl Try.underlying47 rfl rfl Try.sizeOf9 (by decide)) ?_
        | refine dy1 rfl rfl rfl rfl rfl (lop_fieldAddr_fp (fo := 0) rfl Try.underlying47 rfl rfl Try.sizeOf9 (by decide) rfl) ?_
      first
        | refine dy1 rfl rfl rfl rfl rfl (lop_load_rf rfl rfl Try.isAgg9 rfl) ?_
        | refine dy1 rfl rfl rfl rfl rfl (lop_load_fp rfl Try.isAgg9 rfl) ?_
      refine dy1 rfl rfl rfl rfl rfl (lop_seql rfl rfl) ?_
      first
        | refine d1 rfl rfl (lop_pick_f (v := .bool _) rfl g8_2 rfl) ?_
        | refine d1 rfl rfl (lop_pick_f (v := .bool _) rfl rfl rfl) ?_
        | refine d1 rfl rfl (lop_pick_t (v := .bool _) rfl rfl rfl) ?_
        | refine d1 rfl rfl (lop_pick_f (v := .bool _) rfl rfl rfl) ?_
        | refine d1 rfl rfl (lop_pick rfl rfl rfl) ?_
      refine d1 rfl rfl (lop_move (v := .bool _) rfl) ?_
      first
        | refine dsplitP 19 rfl rfl (fun g8_19 p8_19 => ?_) (fun g8_19 p8_19 => ?_)
        | refine dsplitB 19 rfl rfl (fun g8_19 p8_19 => ?_) (fun g8_19 p8_19 => ?_)
      · exact absurd p8_19 hne.ne
      · refine dy1 rfl rfl g8_19 rfl rfl (lop_move (v := .bool _) rfl) ?_
        refine dy1 rfl rfl g8_19 rfl rfl (lop_not rfl) ?_
        first
          | refine d1 rfl rfl (lop_pick_f (v := .bool _) rfl g8_2 rfl) ?_
          | refine d1 rfl rfl (lop_pick_f (v := .bool _) rfl rfl rfl) ?_
          | refine d1 rfl rfl (lop_pick_f (v := .bool _) rfl g8_19 rfl) ?_
          | refine d1 rfl rfl (lop_pick_t (v := .bool _) rfl rfl rfl) ?_
          | refine d1 rfl rfl (lop_pick_f (v := .bool _) rfl rfl rfl) ?_
          | refine d1 rfl rfl (lop_pick rfl rfl rfl) ?_
        refine dr_nil (by kernel_rfl) ?_
        first
          | refine ok_if _ rfl rfl (fun h_t55 => ?_) (fun h_t55 => ?_)
          | refine ok_cond rfl rfl (fun h_t55 => ?_) (fun h_t55 => ?_)
        · exfalso
          simp at h_t55
        · refine ok_skip ?_
          refine ok_reg ?_
          refine s1 rfl (lop_assign (v := .bool _) rfl) ?_
          refine ops_nil ?_
          refine ok_seq ?_
          refine ok_reg ?_
          refine s1 rfl (lop_assign (v := .int _ _) rfl) ?_
          refine ops_nil ?_
          refine ok_block ?_
          refine ok_loop (ι := {j : Nat // j ≤ v.parts.length}) (fun j => ⟨[(3, .bool true), (4, .rf 4 0), (5, i64 i), (6, .rf 6 0), (7, .rf 7 0), (9, .bool ((v.parts.take j.1).any (inP (runsF l).names[i]))), (10, i64 j.1)], [(4, some (true, (runsF l).enc)), (6, some (true, (runsF l).names[i].enc)), (7, some (true, v.enc))], 104⟩) (fun j => v.parts.length - j.1) (⟨0, Nat.zero_le _⟩) ?_ ?_
          · exact le_mk ⟨rfl, rfl, rfl, rfl, rfl, rfl, rfl, trivial⟩ ⟨.inr rfl, .inr rfl, .inr rfl, trivial⟩ rfl
          rintro ⟨j, hj0⟩
          dsimp only
          refine ok_seq ?_
          refine ok_reg ?_
          refine s1 rfl (lop_move (v := .int _ _) rfl) ?_
          first
            | refine s1 rfl (lop_fieldAddr_rf (fo := 5) rfl Try.underlying50 rfl rfl Try.sizeOf48 (by decide)) ?_
            | refine s1 rfl (lop_fieldAddr_fp (fo := 5) rfl Try.underlying50 rfl rfl Try.sizeOf48 (by decide) rfl) ?_
          first
            | refine s1 rfl (lop_load_rf rfl rfl Try.isAgg48 rfl) ?_
            | refine s1 rfl (lop_load_fp rfl Try.isAgg48 rfl) ?_
          refine s1 rfl (lop_len rfl Try.underlying48 ⟨⟨_, rfl⟩, rfl⟩) ?_
          refine s1 rfl (lop_lss rfl rfl) ?_
          refine ops_nil ?_
          first
            | refine ok_if _ rfl rfl (fun h_t60 => ?_) (fun h_t60 => ?_)
            | refine ok_cond rfl rfl (fun h_t60 => ?_) (fun h_t60 => ?_)
          · have hj : j < v.parts.length := by omega
            refine ok_skip ?_
            refine ok_seq ?_
            refine ok_block ?_
            refine ok_draw Try.mixed ?_
            refine d1 rfl rfl (lop_move (v := .bool _) rfl) ?_
            refine d1 rfl rfl (lop_move (v := .bool _) rfl) ?_
            first
              | refine dsplitP 1 rfl rfl (fun g14_1 p14_1 => ?_) (fun g14_1 p14_1 => ?_)
              | refine dsplitB 1 rfl rfl (fun g14_1 p14_1 => ?_) (fun g14_1 p14_1 => ?_)
            · refine dn1 rfl rfl g14_1 rfl ?_
              refine dn1 rfl rfl g14_1 rfl ?_
              refine dn1 rfl rfl g14_1 rfl ?_
              refine dn1 rfl rfl g14_1 rfl ?_
              refine dn1 rfl rfl g14_1 rfl ?_
              refine dn1 rfl rfl g14_1 rfl ?_
              refine dn1 rfl rfl g14_1 rfl ?_
              refine dn1 rfl rfl g14_1 rfl ?_
              refine dn1 rfl rfl g14_1 rfl ?_
              refine dp1 rfl (.inr (congrArg V.bool g14_1)) rfl rfl ?_
              refine dp1 rfl (.inl rfl) rfl rfl ?_
              refine dp1 rfl (.inl rfl) rfl rfl ?_
              refine dp1 rfl (.inl rfl) rfl rfl ?_
              refine dp1 rfl (.inl rfl) rfl rfl ?_
              refine dp1 rfl (.inl rfl) rfl rfl ?_
              refine dp1 rfl (.inl rfl) rfl rfl ?_
              refine dp1 rfl (.inl rfl) rfl rfl ?_
              refine dp1 rfl (.inl rfl) rfl rfl ?_
              refine dp1 rfl (.inl rfl) rfl rfl ?_
              refine dn1 rfl rfl g14_1 rfl ?_
              first
                | refine d1 rfl rfl (lop_pick_t (v := .bool _) rfl g14_1 rfl) ?_
                | refine d1 rfl rfl (lop_pick_f (v := .bool _) rfl undef rfl) ?_
                | refine d1 rfl rfl (lop_pick_f (v := .bool _) rfl undef rfl) ?_
                | refine d1 rfl rfl (lop_pick_f (v := .bool _) rfl undef rfl) ?_
                | refine d1 rfl rfl (lop_pick_f (v := .bool _) rfl undef rfl) ?_
                | refine d1 rfl rfl (lop_pick_f (v := .bool _) rfl undef rfl) ?_
                | refine d1 rfl rfl (lop_pick_f (v := .bool _) rfl undef rfl) ?_
                | refine d1 rfl rfl (lop_pick_f (v := .bool _) rfl undef rfl) ?_
                | refine d1 rfl rfl (lop_pick_f (v := .bool _) rfl undef rfl) ?_
                | refine d1 rfl rfl (lop_pick_f (v := .bool _) rfl undef rfl) ?_
                | refine d1 rfl rfl (lop_pick_f (v := .bool _) rfl undef rfl) ?_
                | refine d1 rfl rfl (lop_pick_t (v := .bool _) rfl rfl rfl) ?_
                | refine d1 rfl rfl (lop_pick_f (v := .bool _) rfl rfl rfl) ?_
                | refine d1 rfl rfl (lop_pick rfl rfl rfl) ?_
              refine d1 rfl rfl (lop_assign (v := .bool _) rfl) ?_
              refine dr_nil (by kernel_rfl) ?_
              refine ok_region ?_
              refine s1 rfl (lop_move (v := .int _ _) rfl) ?_
              refine s1 rfl (lop_bop rfl rfl rfl (bop_add (by omega) (by omega))) ?_
              refine s1 rfl (lop_assign (v := .int _ _) rfl) ?_
              refine ops_nil ?_
              exact ⟨⟨j + 1, by omega⟩, by simp only; omega, le_mk ⟨rfl, rfl, rfl, rfl, rfl, congrArg V.bool (by rw [any_succ hj]; first | (rw [g14_1]; rfl) | (rw [g14_1, Bool.false_or]; exact decide_eq_decide.2 (by omega)) | (rw [g14_1, Bool.false_or]; exact (decide_eq_false (by omega)).symm)), rfl, trivial⟩ ⟨.inr rfl, .inr rfl, .inr rfl, trivial⟩ rfl⟩
            · first
                | refine dy1 rfl rfl g14_1 rfl rfl (lop_fieldAddr_rf (fo := 5) rfl Try.underlying50 rfl rfl Try.sizeOf48 (by decide)) ?_
                | refine dy1 rfl rfl g14_1 rfl rfl (lop_fieldAddr_fp (fo := 5) rfl Try.underlying50 rfl rfl Try.sizeOf48 (by decide) rfl) ?_
              first
                | refine dy1 rfl rfl g14_1 rfl rfl (lop_load_rf rfl rfl Try.isAgg48 rfl) ?_
                | refine dy1 rfl rfl g14_1 rfl rfl (lop_load_fp rfl Try.isAgg48 rfl) ?_
              refine dy1 rfl rfl g14_1 rfl rfl (lop_move (v := .int _ _) rfl) ?_
              first
                | refine dy1 rfl rfl g14_1 rfl rfl (lop_indexAddr_os rfl rfl Try.underlying48 Try.sizeOf54 rfl hj) ?_
                | refine dy1 rfl rfl g14_1 rfl rfl (lop_indexAddr_sl rfl rfl Try.underlying48 Try.sizeOf54 rfl hj (flat_at SpanD.len hj) (flat_ne SpanD.len (by decide) hj)) ?_
              first
                | refine dy1 rfl rfl g14_1 rfl rfl (lop_fieldAddr_rf (fo := 0) rfl Try.underlying54 rfl rfl Try.sizeOf3 (by decide)) ?_
                | refine dy1 rfl rfl g14_1 rfl rfl (lop_fieldAddr_fp (fo := 0) rfl Try.underlying54 rfl rfl Try.sizeOf3 (by decide) rfl) ?_
              first
                | refine dy1 rfl rfl g14_1 rfl rfl (lop_load_rf rfl rfl Try.isAgg3 rfl) ?_
                | refine dy1 rfl rfl g14_1 rfl rfl (lop_load_fp rfl Try.isAgg3 rfl) ?_
              first
                | refine dy1 rfl rfl g14_1 rfl rfl (lop_fieldAddr_rf (fo := 2) rfl Try.underlying47 rfl rfl Try.sizeOf3 (by decide)) ?_
                | refine dy1 rfl rfl g14_1 rfl rfl (lop_fieldAddr_fp (fo := 2) rfl Try.underlying47 rfl rfl Try.sizeOf3 (by decide) rfl) ?_
              first
                | refine dy1 rfl rfl g14_1 rfl rfl (lop_load_rf rfl rfl Try.isAgg3 rfl) ?_
                | refine dy1 rfl rfl g14_1 rfl rfl (lop_load_fp rfl Try.isAgg3 rfl) ?_
              refine dy1 rfl rfl g14_1 rfl rfl (lop_eql rfl rfl) ?_
              refine dy1 rfl rfl g14_1 rfl rfl (lop_move (v := .bool _) rfl) ?_
              first
                | refine dsplitP 11 rfl rfl (fun g14_11 p14_11 => ?_) (fun g14_11 p14_11 => ?_)
                | refine dsplitB 11 rfl rfl (fun g14_11 p14_11 => ?_) (fun g14_11 p14_11 => ?_)
              · first
                  | refine dy1 rfl rfl g14_11 rfl rfl (lop_fieldAddr_rf (fo := 5) rfl Try.underlying50 rfl rfl Try.sizeOf48 (by decide)) ?_
                  | refine dy1 rfl rfl g14_11 rfl rfl (lop_fieldAddr_fp (fo := 5) rfl Try.underlying50 rfl rfl Try.sizeOf48 (by decide) rfl) ?_
                first
                  | refine dy1 rfl rfl g14_11 rfl rfl (lop_load_rf rfl rfl Try.isAgg48 rfl) ?_
                  | refine dy1 rfl rfl g14_11 rfl rfl (lop_load_fp rfl Try.isAgg48 rfl) ?_
                refine dy1 rfl rfl g14_11 rfl rfl (lop_move (v := .int _ _) rfl) ?_
                first
                  | refine dy1 rfl rfl g14_11 rfl rfl (lop_indexAddr_os rfl rfl Try.underlying48 Try.sizeOf54 rfl hj) ?_
                  | refine dy1 rfl rfl g14_11 rfl rfl (lop_indexAddr_sl rfl rfl Try.underlying48 Try.sizeOf54 rfl hj (flat_at SpanD.len hj) (flat_ne SpanD.len (by decide) hj)) ?_
                first
                  | refine dy1 rfl rfl g14_11 rfl rfl (lop_fieldAddr_rf (fo := 1) rfl Try.underlying54 rfl rfl Try.sizeOf3 (by decide)) ?_
                  | refine dy1 rfl rfl g14_11 rfl rfl (lop_fieldAddr_fp (fo := 1) rfl Try.underlying54 rfl rfl Try.sizeOf3 (by decide) rfl) ?_
                first
                  | refine dy1 rfl rfl g14_11 rfl rfl (lop_load_rf rfl rfl Try.isAgg3 rfl) ?_
                  | refine dy1 rfl rfl g14_11 rfl rfl (lop_load_fp rfl Try.isAgg3 rfl) ?_
                first
                  | refine dy1 rfl rfl g14_11 rfl rfl (lop_fieldAddr_rf (fo := 3) rfl Try.underlying47 rfl rfl Try.sizeOf3 (by decide)) ?_
                  | refine dy1 rfl rfl g14_11 rfl rfl (lop_fieldAddr_fp (fo := 3) rfl Try.underlying47 rfl rfl Try.sizeOf3 (by decide) rfl) ?_
                first
                  | refine dy1 rfl rfl g14_11 rfl rfl (lop_load_rf rfl rfl Try.isAgg3 rfl) ?_
                  | refine dy1 rfl rfl g14_11 rfl rfl (lop_load_fp rfl Try.isAgg3 rfl) ?_
                refine dy1 rfl rfl g14_11 rfl rfl (lop_eql rfl rfl) ?_
                first
                  | refine dy1 rfl rfl g14_1 rfl rfl (lop_pick_f (v := .bool _) rfl g14_1 rfl) ?_
                  | refine dy1 rfl rfl g14_1 rfl rfl (lop_pick_t (v := .bool _) rfl g14_11 rfl) ?_
                  | refine dy1 rfl rfl g14_1 rfl rfl (lop_pick_t (v := .bool _) rfl rfl rfl) ?_
                  | refine dy1 rfl rfl g14_1 rfl rfl (lop_pick_f (v := .bool _) rfl rfl rfl) ?_
                  | refine dy1 rfl rfl g14_1 rfl rfl (lop_pick rfl rfl rfl) ?_
                first
                  | refine d1 rfl rfl (lop_pick_f (v := .bool _) rfl g14_1 rfl) ?_
                  | refine d1 rfl rfl (lop_pick_t (v := .bool _) rfl g14_11 rfl) ?_
                  | refine d1 rfl rfl (lop_pick_t (v := .bool _) rfl rfl rfl) ?_
                  | refine d1 rfl rfl (lop_pick_f (v := .bool _) rfl rfl rfl) ?_
                  | refine d1 rfl rfl (lop_pick rfl rfl rfl) ?_
                refine d1 rfl rfl (lop_assign (v := .bool _) rfl) ?_
                refine dr_nil (by kernel_rfl) ?_
                refine ok_region ?_
                refine s1 rfl (lop_move (v := .int _ _) rfl) ?_
                refine s1 rfl (lop_bop rfl rfl rfl (bop_add (by omega) (by omega))) ?_
                refine s1 rfl (lop_assign (v := .int _ _) rfl) ?_
                refine ops_nil ?_
                exact ⟨⟨j + 1, by omega⟩, by simp only; omega, le_mk ⟨rfl, rfl, rfl, rfl, rfl, congrArg V.bool (by rw [any_succ hj]; first | (rw [g14_1]; rfl) | (rw [g14_1, Bool.false_or]; exact decide_eq_decide.2 (by omega)) | (rw [g14_1, Bool.false_or]; exact (decide_eq_false (by omega)).symm)), rfl, trivial⟩ ⟨.inr rfl, .inr rfl, .inr rfl, trivial⟩ rfl⟩
              · refine dn1 rfl rfl g14_11 rfl ?_
                refine dn1 rfl rfl g14_11 rfl ?_
                refine dn1 rfl rfl g14_11 rfl ?_
                refine dn1 rfl rfl g14_11 rfl ?_
                refine dn1 rfl rfl g14_11 rfl ?_
                refine dn1 rfl rfl g14_11 rfl ?_
                refine dn1 rfl rfl g14_11 rfl ?_
                refine dn1 rfl rfl g14_11 rfl ?_
                refine dn1 rfl rfl g14_11 rfl ?_
                first
                  | refine dy1 rfl rfl g14_1 rfl rfl (lop_pick_f (v := .bool _) rfl g14_1 rfl) ?_
                  | refine dy1 rfl rfl g14_1 rfl rfl (lop_pick_f (v := .bool _) rfl g14_11 rfl) ?_
                  | refine dy1 rfl rfl g14_1 rfl rfl (lop_pick_t (v := .bool _) rfl rfl rfl) ?_
                  | refine dy1 rfl rfl g14_1 rfl rfl (lop_pick_f (v := .bool _) rfl rfl rfl) ?_
                  | refine dy1 rfl rfl g14_1 rfl rfl (lop_pick rfl rfl rfl) ?_
                first
                  | refine d1 rfl rfl (lop_pick_f (v := .bool _) rfl g14_1 rfl) ?_
                  | refine d1 rfl rfl (lop_pick_f (v := .bool _) rfl g14_11 rfl) ?_
                  | refine d1 rfl rfl (lop_pick_t (v := .bool _) rfl rfl rfl) ?_
                  | refine d1 rfl rfl (lop_pick_f (v := .bool _) rfl rfl rfl) ?_
                  | refine d1 rfl rfl (lop_pick rfl rfl rfl) ?_
                refine d1 rfl rfl (lop_assign (v := .bool _) rfl) ?_
                refine dr_nil (by kernel_rfl) ?_
                refine ok_region ?_
                refine s1 rfl (lop_move (v := .int _ _) rfl) ?_
                refine s1 rfl (lop_bop rfl rfl rfl (bop_add (by omega) (by omega))) ?_
                refine s1 rfl (lop_assign (v := .int _ _) rfl) ?_
                refine ops_nil ?_
                exact ⟨⟨j + 1, by omega⟩, by simp only; omega, le_mk ⟨rfl, rfl, rfl, rfl, rfl, congrArg V.bool (by rw [any_succ hj]; first | (rw [g14_1]; rfl) | (rw [g14_1, Bool.false_or]; exact decide_eq_decide.2 (by omega)) | (rw [g14_1, Bool.false_or]; exact (decide_eq_false (by omega)).symm)), rfl, trivial⟩ ⟨.inr rfl, .inr rfl, .inr rfl, trivial⟩ rfl⟩
          · have hany : (v.parts.take j).any (inP (runsF l).names[i]) = true := by
              rw [List.take_of_length_le (by omega)]
              exact List.any_eq_true.2 ⟨_, hpart, by simp [inP]⟩
            refine ok_exit ?_
            refine ok_reg ?_
            refine s1 rfl (lop_move (v := .bool _) rfl) ?_
            refine s1 rfl (lop_not rfl) ?_
            refine s1 rfl (lop_move (v := .bool _) rfl) ?_
            first
              | refine gsplitP 2 rfl rfl (fun g15_2 p15_2 => ?_) (fun g15_2 p15_2 => ?_)
              | refine gsplitB 2 rfl rfl (fun g15_2 p15_2 => ?_) (fun g15_2 p15_2 => ?_)
            · exfalso
              rw [hany] at g15_2
              cases g15_2
            · first
                | refine y1 rfl rfl g15_2 rfl (lop_fieldAddr_rf (fo := 2) rfl Try.underlying47 rfl rfl Try.sizeOf3 (by decide)) ?_
                | refine y1 rfl rfl g15_2 rfl (lop_fieldAddr_fp (fo := 2) rfl Try.underlying47 rfl rfl Try.sizeOf3 (by decide) rfl) ?_
              first
                | refine y1 rfl rfl g15_2 rfl (lop_load_rf rfl rfl Try.isAgg3 rfl) ?_
                | refine y1 rfl rfl g15_2 rfl (lop_load_fp rfl Try.isAgg3 rfl) ?_
              first
                | refine y1 rfl rfl g15_2 rfl (lop_fieldAddr_rf (fo := 3) rfl Try.underlying47 rfl rfl Try.sizeOf3 (by decide)) ?_
                | refine y1 rfl rfl g15_2 rfl (lop_fieldAddr_fp (fo := 3) rfl Try.underlying47 rfl rfl Try.sizeOf3 (by decide) rfl) ?_
              first
                | refine y1 rfl rfl g15_2 rfl (lop_load_rf rfl rfl Try.isAgg3 rfl) ?_
                | refine y1 rfl rfl g15_2 rfl (lop_load_fp rfl Try.isAgg3 rfl) ?_
              refine y1 rfl rfl g15_2 rfl (lop_bop rfl rfl rfl (bop_add (by have := hne.off; have := hne.n; omega) (by have := hne.off; have := hne.n; omega))) ?_
              first
                | refine y1 rfl rfl g15_2 rfl (lop_fieldAddr_rf (fo := 3) rfl Try.underlying50 rfl rfl Try.sizeOf3 (by decide)) ?_
                | refine y1 rfl rfl g15_2 rfl (lop_fieldAddr_fp (fo := 3) rfl Try.underlying50 rfl rfl Try.sizeOf3 (by decide) rfl) ?_
              first
                | refine y1 rfl rfl g15_2 rfl (lop_load_rf rfl rfl Try.isAgg3 rfl) ?_
                | refine y1 rfl rfl g15_2 rfl (lop_load_fp rfl Try.isAgg3 rfl) ?_
              refine y1 rfl rfl g15_2 rfl (lop_gtr rfl rfl) ?_
              first
                | refine s1 rfl (lop_pick_f (v := .bool _) rfl g15_2 rfl) ?_
                | refine s1 rfl (lop_pick_t (v := .bool _) rfl rfl rfl) ?_
                | refine s1 rfl (lop_pick_f (v := .bool _) rfl rfl rfl) ?_
                | refine s1 rfl (lop_pick rfl rfl rfl) ?_
              refine s1 rfl (lop_move (v := .bool _) rfl) ?_
              first
                | refine gsplitP 12 rfl rfl (fun g15_12 p15_12 => ?_) (fun g15_12 p15_12 => ?_)
                | refine gsplitB 12 rfl rfl (fun g15_12 p15_12 => ?_) (fun g15_12 p15_12 => ?_)
              · exfalso; omega
              · first
                  | refine y1 rfl rfl g15_12 rfl (lop_fieldAddr_rf (fo := 3) rfl Try.underlying50 rfl rfl Try.sizeOf3 (by decide)) ?_
                  | refine y1 rfl rfl g15_12 rfl (lop_fieldAddr_fp (fo := 3) rfl Try.underlying50 rfl rfl Try.sizeOf3 (by decide) rfl) ?_
                first
                  | refine y1 rfl rfl g15_12 rfl (lop_load_rf rfl rfl Try.isAgg3 rfl) ?_
                  | refine y1 rfl rfl g15_12 rfl (lop_load_fp rfl Try.isAgg3 rfl) ?_
                refine y1 rfl rfl g15_12 rfl (lop_gtr rfl rfl) ?_
                first
                  | refine s1 rfl (lop_pick_f (v := .bool _) rfl g15_2 rfl) ?_
                  | refine s1 rfl (lop_pick_f (v := .bool _) rfl g15_12 rfl) ?_
                  | refine s1 rfl (lop_pick_t (v := .bool _) rfl rfl rfl) ?_
                  | refine s1 rfl (lop_pick_f (v := .bool _) rfl rfl rfl) ?_
                  | refine s1 rfl (lop_pick rfl rfl rfl) ?_
                refine ops_nil ?_
                first
                  | refine ok_if _ rfl rfl (fun h_t102 => ?_) (fun h_t102 => ?_)
                  | refine ok_cond rfl rfl (fun h_t102 => ?_) (fun h_t102 => ?_)
                · exfalso
                  have := hVI.used
                  omega
                · refine ok_skip ?_
                  refine ok_region ?_
                  refine s1 rfl (lop_move (v := .int _ _) rfl) ?_
                  refine s1 rfl (lop_bop rfl rfl rfl (bop_add (by omega) (by omega))) ?_
                  refine s1 rfl (lop_assign (v := .int _ _) rfl) ?_
                  refine ops_nil ?_
                  exact ⟨⟨i + 1, by omega⟩, by simp only; omega, le_mk ⟨rfl, rfl, rfl, trivial⟩ ⟨.inr rfl, trivial⟩ rfl⟩
  · refine ok_exit ?_
    refine ok_reg ?_
    refine s1 rfl (lop_move (v := .bool _) rfl) ?_
    refine s1 rfl (lop_assign (v := .bool _) rfl) ?_
    refine ops_nil ?_
    refine ok_ret ?_
    exact ret_one rfl rfl rfl rfl rfl

end Go.Proofs
