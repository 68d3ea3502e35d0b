/- Chapter 15: walks. Printed by gen.py. -/
import Derived.Test.YtajlkpogccbboaaT15n
set_option linter.unusedVariables false
set_option linter.unusedSimpArgs false
set_option maxRecDepth 100000
namespace Go.Proofs
open Go.Hg

def runFrom (x : IdxD) (l : List CmdD) (i : Nat) : IdxD := (l.take i).foldl (fun x c => (doF x c).1) x
def runM (x : IdxD) (l : List CmdD) : IdxD := runFrom x l (min l.length 300)
theorem runFrom_succ {x : IdxD} {l : List CmdD} {i : Nat} (h : i < l.length) : runFrom x l (i + 1) = (doF (runFrom x l i) l[i]).1 := by
  unfold runFrom
  rw [List.take_add_one, List.getElem?_eq_getElem h, List.foldl_append]
  rfl
theorem runFrom_fit {x : IdxD} {n : Nat} (hx : Fit n x) (hn : 14 ≤ n) (l : List CmdD) : ∀ i, i ≤ l.length → Fit (n + i) (runFrom x l i)
  | 0, _ => hx
  | i + 1, h => by
    rw [runFrom_succ h]
    exact do_fit (runFrom_fit hx hn l i (by omega)) (by omega)
theorem runFrom_good {x : IdxD} (hx : Good x) (l : List CmdD) : ∀ i, i ≤ l.length → Good (runFrom x l i)
  | 0, _ => hx
  | i + 1, h => by
    rw [runFrom_succ h]
    exact do_good (runFrom_good hx l i (by omega))
theorem runFrom_up (x : IdxD) (l : List CmdD) : ∀ i, i ≤ l.length → VUp x.vols (runFrom x l i).vols
  | 0, _ => VUp.refl _
  | i + 1, h => by
    rw [runFrom_succ h]
    exact (runFrom_up x l i (by omega)).trans do_up

set_option maxHeartbeats 1000000 in
theorem IndexRises_ac {l more : List CmdD} (hl : CmdsOk l) (hm : CmdsOk more) : AC Try.prog 6 [rowOf CmdD.enc l, rowOf CmdD.enc more] (.bool true) := by
  have hG := runs_good l
  have hF := runs_fit hl.1
  have hml := hm.1
  refine AC.intro Try.func6 rfl (Nat.le_of_ble_eq_true rfl) ?_
  refine ok_reg ?_
  refine s1 rfl (lop_assign (v := .bool _) rfl) ?_
  refine ops_nil ?_
  refine ok_reg ?_
  refine s1 rfl (lop_call rfl Try.call9 (FrzL.tf rfl) (.inl rfl) shown_ac) ?_
  refine s1 rfl (lop_assign (v := .bool _) rfl) ?_
  refine ops_nil ?_
  refine ok_reg ?_
  first
    | refine s1 rfl (lop_move (v := .sl _ _) rfl) ?_
    | refine s1 rfl (lop_move (v := .os _ _ _ _) rfl) ?_
    | refine s1 rfl (lop_move (v := .z0) rfl) ?_
  refine s1 rfl (lop_call rfl Try.call14 (FrzL.tf rfl) (.inl rfl) (runs_ac hl)) ?_
  refine s1w rfl (lop_new (t := 6) (cs := [.z0, .z0, .z0]) Try.zeroValue26 rfl rfl rfl rfl) rfl ?_
  first
    | refine s0w rfl (lop_storeK (v := .agg [_, _, _]) (cs' := [_, _, _]) (f' := true) rfl rfl rfl Try.sizeOf26 rfl rfl rfl rfl rfl) ?_
    | refine s0w rfl (lop_storeK (v := .agg [_, _, _]) (cs' := [_, _, _]) (f' := false) rfl rfl rfl Try.sizeOf26 rfl rfl rfl rfl rfl) ?_
  refine ops_nil ?_
  refine ok_reg ?_
  first
    | refine s1 rfl (lop_load_rf_agg (ys := [_, _, _]) rfl rfl Try.isAgg26 Try.sizeOf26 (Nat.le_of_ble_eq_true rfl) rfl) ?_
    | refine s1 rfl (lop_load_fp_agg (ys := [_, _, _]) rfl Try.isAgg26 Try.sizeOf26 (Nat.le_of_ble_eq_true rfl) rfl) ?_
  refine s1w rfl (lop_new (t := 7) (cs := [.z0, .z0, .z0]) Try.zeroValue26 rfl rfl rfl rfl) rfl ?_
  first
    | refine s0w rfl (lop_storeK (v := .agg [_, _, _]) (cs' := [_, _, _]) (f' := true) rfl rfl rfl Try.sizeOf26 rfl rfl rfl rfl rfl) ?_
    | refine s0w rfl (lop_storeK (v := .agg [_, _, _]) (cs' := [_, _, _]) (f' := false) rfl rfl rfl Try.sizeOf26 rfl rfl rfl rfl rfl) ?_
  refine ops_nil ?_
  refine ok_seq ?_
  refine ok_reg ?_
  refine s1 rfl (lop_assign (v := .int _ _) rfl) ?_
  refine ops_nil ?_
  refine ok_block ?_
  refine ok_loop (ι := {i : Nat // i ≤ more.length ∧ i ≤ 300}) (fun i => ⟨[(1, rowOf CmdD.enc more), (5, .bool true), (6, .rf 6 0), (7, .rf 7 0), (8, i64 i.1)], [(6, some (true, (runsF l).enc)), (7, some (true, (runFrom (runsF l) more i.1).enc))], 102⟩) (fun i => more.length - i.1) (⟨0, Nat.zero_le _, Nat.zero_le _⟩) ?_ ?_
  · exact le_mk ⟨rfl, rfl, rfl, rfl, rfl, trivial⟩ ⟨.inr rfl, .inr rfl, trivial⟩ rfl
  rintro ⟨i, hi, hi3⟩
  dsimp only
  have hfit := (runFrom_fit hF (by omega) more i hi).le (show 1048590 + i ≤ 549755000000 by omega)
  refine ok_seq ?_
  refine ok_reg ?_
  refine s1 rfl (lop_move (v := .int _ _) rfl) ?_
  first
    | refine s1 rfl (lop_move (v := .sl _ _) rfl) ?_
    | refine s1 rfl (lop_move (v := .os _ _ _ _) rfl) ?_
    | refine s1 rfl (lop_move (v := .z0) rfl) ?_
  refine s1 rfl (lop_len rfl Try.underlying44 ⟨⟨_, rfl⟩, rfl⟩) ?_
  refine s1 rfl (lop_lss rfl rfl) ?_
  refine s1 rfl (lop_move (v := .bool _) rfl) ?_
  first
    | refine gsplitP 4 rfl rfl (fun g5_4 p5_4 => ?_) (fun g5_4 p5_4 => ?_)
    | refine gsplitB 4 rfl rfl (fun g5_4 p5_4 => ?_) (fun g5_4 p5_4 => ?_)
  · have hri : i < more.length := by omega
    have hpl := hm.2 more[i] (List.getElem_mem hri)
    refine y1 rfl rfl g5_4 rfl (lop_move (v := .int _ _) rfl) ?_
    refine y1 rfl rfl g5_4 rfl (lop_lss rfl rfl) ?_
    first
      | refine s1 rfl (lop_pick_t (v := .bool _) rfl g5_4 rfl) ?_
      | refine s1 rfl (lop_pick_t (v := .bool _) rfl rfl rfl) ?_
      | refine s1 rfl (lop_pick_f (v := .bool _) rfl rfl rfl) ?_
      | refine s1 rfl (lop_pick rfl rfl rfl) ?_
    refine ops_nil ?_
    first
      | refine ok_if _ rfl rfl (fun h_t24 => ?_) (fun h_t24 => ?_)
      | refine ok_cond rfl rfl (fun h_t24 => ?_) (fun h_t24 => ?_)
    · refine ok_skip ?_
      refine ok_seq ?_
      refine ok_block ?_
      refine ok_draw Try.mixed ?_
      first
        | refine d1 rfl rfl (lop_load_rf_agg (ys := [_, _, _]) rfl rfl Try.isAgg26 Try.sizeOf26 (Nat.le_of_ble_eq_true rfl) rfl) ?_
        | refine d1 rfl rfl (lop_load_fp_agg (ys := [_, _, _]) rfl Try.isAgg26 Try.sizeOf26 (Nat.le_of_ble_eq_true rfl) rfl) ?_
      first
        | refine d1 rfl rfl (lop_move (v := .sl _ _) rfl) ?_
        | refine d1 rfl rfl (lop_move (v := .os _ _ _ _) rfl) ?_
        | refine d1 rfl rfl (lop_move (v := .z0) rfl) ?_
      refine d1 rfl rfl (lop_move (v := .int _ _) rfl) ?_
      first
        | refine d1 rfl rfl (lop_indexAddr_os rfl rfl Try.underlying44 Try.sizeOf30 rfl hri) ?_
        | refine d1 rfl rfl (lop_indexAddr_sl rfl rfl Try.underlying44 Try.sizeOf30 rfl hri (flat_at CmdD.len hri) (flat_ne CmdD.len (by decide) hri)) ?_
      first
        | refine d1 rfl rfl (lop_load_rf_agg rfl rfl Try.isAgg30 Try.sizeOf30 (by rw [List.length_append, CmdD.len]; omega) (by rw [List.take_append_of_le_length (by rw [CmdD.len]; omega), List.take_of_length_le (by rw [CmdD.len]; omega)])) ?_
        | refine d1 rfl rfl (lop_load_fp_agg rfl Try.isAgg30 Try.sizeOf30 (by rw [List.length_append, CmdD.len]; omega) (by rw [List.take_append_of_le_length (by rw [CmdD.len]; omega), List.take_of_length_le (by rw [CmdD.len]; omega)])) ?_
      refine d1 rfl rfl (lop_call rfl Try.call11 (FrzL.tf rfl) (.inl rfl) (index_Do_ac hfit (c := more[i]) (by omega))) ?_
      refine d1 rfl rfl (lop_move (v := .tup _) rfl) ?_
      refine d1 rfl rfl (lop_extract rfl rfl) ?_
      refine d1 rfl rfl (lop_extract rfl rfl) ?_
      first
        | refine d0w rfl rfl (lop_storeK (v := .agg [_, _, _]) (cs' := [_, _, _]) (f' := true) rfl rfl rfl Try.sizeOf26 rfl rfl rfl rfl rfl) ?_
        | refine d0w rfl rfl (lop_storeK (v := .agg [_, _, _]) (cs' := [_, _, _]) (f' := false) rfl rfl rfl Try.sizeOf26 rfl rfl rfl rfl rfl) ?_
      refine dr_nil (by kernel_rfl) ?_
      refine ok_region ?_
      refine s1 rfl (lop_move (v := .int _ _) rfl) ?_
      refine s1 rfl (lop_bop rfl rfl rfl (bop_add (by omega) (by omega))) ?_
      refine s1 rfl (lop_assign (v := .int _ _) rfl) ?_
      refine ops_nil ?_
      exact ⟨⟨i + 1, by omega, by omega⟩, by simp only; omega, le_mk ⟨rfl, rfl, rfl, rfl, rfl, trivial⟩ ⟨.inr rfl, .inr (by rw [runFrom_succ hri]; rfl), trivial⟩ rfl⟩
    · refine ok_exit ?_
      refine ok_seq ?_
      refine ok_reg ?_
      have e9 : i = min more.length 300 := by omega
      have hYu := runFrom_up (runsF l) more i hi
      have hYg := runFrom_good hG more i hi
      clear hfit
      subst e9
      have hYf := runFrom_fit hF (by omega) more _ hi
      have hYv := hYf.vols
      refine s1 rfl (lop_assign (v := .int _ _) rfl) ?_
      refine ops_nil ?_
      refine ok_block ?_
      refine ok_loop (ι := {i : Nat // i ≤ (runsF l).vols.length}) (fun i => ⟨[(5, .bool true), (6, .rf 6 0), (7, .rf 7 0), (9, i64 i.1)], [(6, some (true, (runsF l).enc)), (7, some (true, (runFrom (runsF l) more (min more.length 300)).enc))], 102⟩) (fun i => (runsF l).vols.length - i.1) (⟨0, Nat.zero_le _⟩) ?_ ?_
      · exact le_mk ⟨rfl, rfl, rfl, rfl, trivial⟩ ⟨.inr rfl, .inr rfl, trivial⟩ rfl
      rintro ⟨i, hi⟩
      dsimp only
      have hvl := hF.vols
      refine ok_seq ?_
      refine ok_reg ?_
      refine s1 rfl (lop_move (v := .int _ _) rfl) ?_
      first
        | refine s1 rfl (lop_fieldAddr_rf (fo := 0) rfl Try.underlying26 rfl rfl Try.sizeOf22 (by decide)) ?_
        | refine s1 rfl (lop_fieldAddr_fp (fo := 0) rfl Try.underlying26 rfl rfl Try.sizeOf22 (by decide) rfl) ?_
      first
        | refine s1 rfl (lop_load_rf rfl rfl Try.isAgg22 rfl) ?_
        | refine s1 rfl (lop_load_fp rfl Try.isAgg22 rfl) ?_
      refine s1 rfl (lop_len rfl Try.underlying22 ⟨⟨_, rfl⟩, rfl⟩) ?_
      refine s1 rfl (lop_lss rfl rfl) ?_
      refine ops_nil ?_
      first
        | refine ok_if _ rfl rfl (fun h_t40 => ?_) (fun h_t40 => ?_)
        | refine ok_cond rfl rfl (fun h_t40 => ?_) (fun h_t40 => ?_)
      · have hri : i < (runsF l).vols.length := by omega
        obtain ⟨w, hw, hU⟩ := hYu i (runsF l).vols[i] (List.getElem?_eq_getElem hri)
        have hVol := index_Vol_ac (runFrom (runsF l) more (min more.length 300)) (by omega) (runsF l).vols[i].id
        rw [← hU.id, volF_uniq hYg.ci hw, hU.id] at hVol
        dsimp only at hVol
        have u1 := hU.phase
        have u2 := hU.used
        have u3 := hU.len
        have u4 := hU.home
        have u5 := hU.fixed
        refine ok_skip ?_
        refine ok_seq ?_
        refine ok_block ?_
        refine ok_reg ?_
        first
          | refine s1 rfl (lop_fieldAddr_rf (fo := 0) rfl Try.underlying26 rfl rfl Try.sizeOf22 (by decide)) ?_
          | refine s1 rfl (lop_fieldAddr_fp (fo := 0) rfl Try.underlying26 rfl rfl Try.sizeOf22 (by decide) rfl) ?_
        first
          | refine s1 rfl (lop_load_rf rfl rfl Try.isAgg22 rfl) ?_
          | refine s1 rfl (lop_load_fp rfl Try.isAgg22 rfl) ?_
        refine s1 rfl (lop_move (v := .int _ _) rfl) ?_
        first
          | refine s1 rfl (lop_indexAddr_os rfl rfl Try.underlying22 Try.sizeOf50 rfl hri) ?_
          | refine s1 rfl (lop_indexAddr_sl rfl rfl Try.underlying22 Try.sizeOf50 rfl hri (flat_at VolD.len hri) (flat_ne VolD.len (by decide) hri)) ?_
        first
          | refine s1 rfl (lop_load_rf_agg rfl rfl Try.isAgg50 Try.sizeOf50 (by rw [List.length_append, VolD.len]; omega) (by rw [List.take_append_of_le_length (by rw [VolD.len]; omega), List.take_of_length_le (by rw [VolD.len]; omega)])) ?_
          | refine s1 rfl (lop_load_fp_agg rfl Try.isAgg50 Try.sizeOf50 (by rw [List.length_append, VolD.len]; omega) (by rw [List.take_append_of_le_length (by rw [VolD.len]; omega), List.take_of_length_le (by rw [VolD.len]; omega)])) ?_
        refine s1w rfl (lop_new (t := 10) (cs := [.int _ _, .int _ _, .int _ _, .int _ _, .int _ _, .z0, .z0, .int _ _, .int _ _]) Try.zeroValue50 rfl rfl rfl rfl) rfl ?_
        first
          | refine s0w rfl (lop_storeK (v := .agg [.int _ _, .int _ _, .int _ _, .int _ _, .int _ _, _, _, .int _ _, .int _ _]) (cs' := [.int _ _, .int _ _, .int _ _, .int _ _, .int _ _, _, _, .int _ _, .int _ _]) (f' := true) rfl rfl rfl Try.sizeOf50 rfl rfl rfl rfl rfl) ?_
          | refine s0w rfl (lop_storeK (v := .agg [.int _ _, .int _ _, .int _ _, .int _ _, .int _ _, _, _, .int _ _, .int _ _]) (cs' := [.int _ _, .int _ _, .int _ _, .int _ _, .int _ _, _, _, .int _ _, .int _ _]) (f' := false) rfl rfl rfl Try.sizeOf50 rfl rfl rfl rfl rfl) ?_
        refine ops_nil ?_
        refine ok_reg ?_
        first
          | refine s1 rfl (lop_load_rf_agg (ys := [_, _, _]) rfl rfl Try.isAgg26 Try.sizeOf26 (Nat.le_of_ble_eq_true rfl) rfl) ?_
          | refine s1 rfl (lop_load_fp_agg (ys := [_, _, _]) rfl Try.isAgg26 Try.sizeOf26 (Nat.le_of_ble_eq_true rfl) rfl) ?_
        first
          | refine s1 rfl (lop_fieldAddr_rf (fo := 0) rfl Try.underlying50 rfl rfl Try.sizeOf3 (by decide)) ?_
          | refine s1 rfl (lop_fieldAddr_fp (fo := 0) rfl Try.underlying50 rfl rfl Try.sizeOf3 (by decide) rfl) ?_
        first
          | refine s1 rfl (lop_load_rf rfl rfl Try.isAgg3 rfl) ?_
          | refine s1 rfl (lop_load_fp rfl Try.isAgg3 rfl) ?_
        refine s1 rfl (lop_call rfl Try.call15 (FrzL.tf rfl) (.inl rfl) hVol) ?_
        refine s1 rfl (lop_move (v := .tup _) rfl) ?_
        refine s1 rfl (lop_extract rfl rfl) ?_
        refine s1 rfl (lop_extract rfl rfl) ?_
        refine s1w rfl (lop_new (t := 11) (cs := [.int _ _, .int _ _, .int _ _, .int _ _, .int _ _, .z0, .z0, .int _ _, .int _ _]) Try.zeroValue50 rfl rfl rfl rfl) rfl ?_
        first
          | refine s0w rfl (lop_storeK (v := .agg [.int _ _, .int _ _, .int _ _, .int _ _, .int _ _, _, _, .int _ _, .int _ _]) (cs' := [.int _ _, .int _ _, .int _ _, .int _ _, .int _ _, _, _, .int _ _, .int _ _]) (f' := true) rfl rfl rfl Try.sizeOf50 rfl rfl rfl rfl rfl) ?_
          | refine s0w rfl (lop_storeK (v := .agg [.int _ _, .int _ _, .int _ _, .int _ _, .int _ _, _, _, .int _ _, .int _ _]) (cs' := [.int _ _, .int _ _, .int _ _, .int _ _, .int _ _, _, _, .int _ _, .int _ _]) (f' := false) rfl rfl rfl Try.sizeOf50 rfl rfl rfl rfl rfl) ?_
        refine s1 rfl (lop_assign (v := .bool _) rfl) ?_
        refine ops_nil ?_
        refine ok_reg ?_
        refine s1 rfl (lop_move (v := .bool _) rfl) ?_
        refine s1 rfl (lop_not rfl) ?_
        refine s1 rfl (lop_move (v := .bool _) rfl) ?_
        first
          | refine gsplitP 2 rfl rfl (fun g13_2 p13_2 => ?_) (fun g13_2 p13_2 => ?_)
          | refine gsplitB 2 rfl rfl (fun g13_2 p13_2 => ?_) (fun g13_2 p13_2 => ?_)
        · exfalso
          simp at g13_2
        · first
            | refine y1 rfl rfl g13_2 rfl (lop_fieldAddr_rf (fo := 4) rfl Try.underlying50 rfl rfl Try.sizeOf3 (by decide)) ?_
            | refine y1 rfl rfl g13_2 rfl (lop_fieldAddr_fp (fo := 4) rfl Try.underlying50 rfl rfl Try.sizeOf3 (by decide) rfl) ?_
          first
            | refine y1 rfl rfl g13_2 rfl (lop_load_rf rfl rfl Try.isAgg3 rfl) ?_
            | refine y1 rfl rfl g13_2 rfl (lop_load_fp rfl Try.isAgg3 rfl) ?_
          first
            | refine y1 rfl rfl g13_2 rfl (lop_fieldAddr_rf (fo := 4) rfl Try.underlying50 rfl rfl Try.sizeOf3 (by decide)) ?_
            | refine y1 rfl rfl g13_2 rfl (lop_fieldAddr_fp (fo := 4) rfl Try.underlying50 rfl rfl Try.sizeOf3 (by decide) rfl) ?_
          first
            | refine y1 rfl rfl g13_2 rfl (lop_load_rf rfl rfl Try.isAgg3 rfl) ?_
            | refine y1 rfl rfl g13_2 rfl (lop_load_fp rfl Try.isAgg3 rfl) ?_
          refine y1 rfl rfl g13_2 rfl (lop_lss rfl rfl) ?_
          first
            | refine s1 rfl (lop_pick_f (v := .bool _) rfl g13_2 rfl) ?_
            | refine s1 rfl (lop_pick_t (v := .bool _) rfl rfl rfl) ?_
            | refine s1 rfl (lop_pick_f (v := .bool _) rfl rfl rfl) ?_
            | refine s1 rfl (lop_pick rfl rfl rfl) ?_
          refine s1 rfl (lop_move (v := .bool _) rfl) ?_
          first
            | refine gsplitP 9 rfl rfl (fun g13_9 p13_9 => ?_) (fun g13_9 p13_9 => ?_)
            | refine gsplitB 9 rfl rfl (fun g13_9 p13_9 => ?_) (fun g13_9 p13_9 => ?_)
          · exfalso; omega
          · first
              | refine y1 rfl rfl g13_9 rfl (lop_fieldAddr_rf (fo := 3) rfl Try.underlying50 rfl rfl Try.sizeOf3 (by decide)) ?_
              | refine y1 rfl rfl g13_9 rfl (lop_fieldAddr_fp (fo := 3) rfl Try.underlying50 rfl rfl Try.sizeOf3 (by decide) rfl) ?_
            first
              | refine y1 rfl rfl g13_9 rfl (lop_load_rf rfl rfl Try.isAgg3 rfl) ?_
              | refine y1 rfl rfl g13_9 rfl (lop_load_fp rfl Try.isAgg3 rfl) ?_
            first
              | refine y1 rfl rfl g13_9 rfl (lop_fieldAddr_rf (fo := 3) rfl Try.underlying50 rfl rfl Try.sizeOf3 (by decide)) ?_
              | refine y1 rfl rfl g13_9 rfl (lop_fieldAddr_fp (fo := 3) rfl Try.underlying50 rfl rfl Try.sizeOf3 (by decide) rfl) ?_
            first
              | refine y1 rfl rfl g13_9 rfl (lop_load_rf rfl rfl Try.isAgg3 rfl) ?_
              | refine y1 rfl rfl g13_9 rfl (lop_load_fp rfl Try.isAgg3 rfl) ?_
            refine y1 rfl rfl g13_9 rfl (lop_lss rfl rfl) ?_
            first
              | refine s1 rfl (lop_pick_f (v := .bool _) rfl g13_2 rfl) ?_
              | refine s1 rfl (lop_pick_f (v := .bool _) rfl g13_9 rfl) ?_
              | refine s1 rfl (lop_pick_t (v := .bool _) rfl rfl rfl) ?_
              | refine s1 rfl (lop_pick_f (v := .bool _) rfl rfl rfl) ?_
              | refine s1 rfl (lop_pick rfl rfl rfl) ?_
            refine s1 rfl (lop_move (v := .bool _) rfl) ?_
            first
              | refine gsplitP 16 rfl rfl (fun g13_16 p13_16 => ?_) (fun g13_16 p13_16 => ?_)
              | refine gsplitB 16 rfl rfl (fun g13_16 p13_16 => ?_) (fun g13_16 p13_16 => ?_)
            · exfalso; omega
            · first
                | refine y1 rfl rfl g13_16 rfl (lop_fieldAddr_rf (fo := 5) rfl Try.underlying50 rfl rfl Try.sizeOf48 (by decide)) ?_
                | refine y1 rfl rfl g13_16 rfl (lop_fieldAddr_fp (fo := 5) rfl Try.underlying50 rfl rfl Try.sizeOf48 (by decide) rfl) ?_
              first
                | refine y1 rfl rfl g13_16 rfl (lop_load_rf rfl rfl Try.isAgg48 rfl) ?_
                | refine y1 rfl rfl g13_16 rfl (lop_load_fp rfl Try.isAgg48 rfl) ?_
              refine y1 rfl rfl g13_16 rfl (lop_len rfl Try.underlying48 ⟨⟨_, rfl⟩, rfl⟩) ?_
              first
                | refine y1 rfl rfl g13_16 rfl (lop_fieldAddr_rf (fo := 5) rfl Try.underlying50 rfl rfl Try.sizeOf48 (by decide)) ?_
                | refine y1 rfl rfl g13_16 rfl (lop_fieldAddr_fp (fo := 5) rfl Try.underlying50 rfl rfl Try.sizeOf48 (by decide) rfl) ?_
              first
                | refine y1 rfl rfl g13_16 rfl (lop_load_rf rfl rfl Try.isAgg48 rfl) ?_
                | refine y1 rfl rfl g13_16 rfl (lop_load_fp rfl Try.isAgg48 rfl) ?_
              refine y1 rfl rfl g13_16 rfl (lop_len rfl Try.underlying48 ⟨⟨_, rfl⟩, rfl⟩) ?_
              refine y1 rfl rfl g13_16 rfl (lop_lss rfl rfl) ?_
              first
                | refine s1 rfl (lop_pick_f (v := .bool _) rfl g13_2 rfl) ?_
                | refine s1 rfl (lop_pick_f (v := .bool _) rfl g13_9 rfl) ?_
                | refine s1 rfl (lop_pick_f (v := .bool _) rfl g13_16 rfl) ?_
                | refine s1 rfl (lop_pick_t (v := .bool _) rfl rfl rfl) ?_
                | refine s1 rfl (lop_pick_f (v := .bool _) rfl rfl rfl) ?_
                | refine s1 rfl (lop_pick rfl rfl rfl) ?_
              refine s1 rfl (lop_move (v := .bool _) rfl) ?_
              first
                | refine gsplitP 25 rfl rfl (fun g13_25 p13_25 => ?_) (fun g13_25 p13_25 => ?_)
                | refine gsplitB 25 rfl rfl (fun g13_25 p13_25 => ?_) (fun g13_25 p13_25 => ?_)
              · exfalso; omega
              · first
                  | refine y1 rfl rfl g13_25 rfl (lop_fieldAddr_rf (fo := 1) rfl Try.underlying50 rfl rfl Try.sizeOf3 (by decide)) ?_
                  | refine y1 rfl rfl g13_25 rfl (lop_fieldAddr_fp (fo := 1) rfl Try.underlying50 rfl rfl Try.sizeOf3 (by decide) rfl) ?_
                first
                  | refine y1 rfl rfl g13_25 rfl (lop_load_rf rfl rfl Try.isAgg3 rfl) ?_
                  | refine y1 rfl rfl g13_25 rfl (lop_load_fp rfl Try.isAgg3 rfl) ?_
                first
                  | refine y1 rfl rfl g13_25 rfl (lop_fieldAddr_rf (fo := 1) rfl Try.underlying50 rfl rfl Try.sizeOf3 (by decide)) ?_
                  | refine y1 rfl rfl g13_25 rfl (lop_fieldAddr_fp (fo := 1) rfl Try.underlying50 rfl rfl Try.sizeOf3 (by decide) rfl) ?_
                first
                  | refine y1 rfl rfl g13_25 rfl (lop_load_rf rfl rfl Try.isAgg3 rfl) ?_
                  | refine y1 rfl rfl g13_25 rfl (lop_load_fp rfl Try.isAgg3 rfl) ?_
                refine y1 rfl rfl g13_25 rfl (lop_neq rfl rfl) ?_
                first
                  | refine s1 rfl (lop_pick_f (v := .bool _) rfl g13_2 rfl) ?_
                  | refine s1 rfl (lop_pick_f (v := .bool _) rfl g13_9 rfl) ?_
                  | refine s1 rfl (lop_pick_f (v := .bool _) rfl g13_16 rfl) ?_
                  | refine s1 rfl (lop_pick_f (v := .bool _) rfl g13_25 rfl) ?_
                  | refine s1 rfl (lop_pick_t (v := .bool _) rfl rfl rfl) ?_
                  | refine s1 rfl (lop_pick_f (v := .bool _) rfl rfl rfl) ?_
                  | refine s1 rfl (lop_pick rfl rfl rfl) ?_
                refine s1 rfl (lop_move (v := .bool _) rfl) ?_
                first
                  | refine gsplitP 32 rfl rfl (fun g13_32 p13_32 => ?_) (fun g13_32 p13_32 => ?_)
                  | refine gsplitB 32 rfl rfl (fun g13_32 p13_32 => ?_) (fun g13_32 p13_32 => ?_)
                · exfalso; omega
                · first
                    | refine y1 rfl rfl g13_32 rfl (lop_fieldAddr_rf (fo := 4) rfl Try.underlying50 rfl rfl Try.sizeOf3 (by decide)) ?_
                    | refine y1 rfl rfl g13_32 rfl (lop_fieldAddr_fp (fo := 4) rfl Try.underlying50 rfl rfl Try.sizeOf3 (by decide) rfl) ?_
                  first
                    | refine y1 rfl rfl g13_32 rfl (lop_load_rf rfl rfl Try.isAgg3 rfl) ?_
                    | refine y1 rfl rfl g13_32 rfl (lop_load_fp rfl Try.isAgg3 rfl) ?_
                  refine y1 rfl rfl g13_32 rfl (lop_geq rfl rfl) ?_
                  refine y1 rfl rfl g13_32 rfl (lop_move (v := .bool _) rfl) ?_
                  first
                    | refine gsplitP 36 rfl rfl (fun g13_36 p13_36 => ?_) (fun g13_36 p13_36 => ?_)
                    | refine gsplitB 36 rfl rfl (fun g13_36 p13_36 => ?_) (fun g13_36 p13_36 => ?_)
                  · have u5 := u5 p13_36
                    first
                      | refine y1 rfl rfl g13_36 rfl (lop_fieldAddr_rf (fo := 5) rfl Try.underlying50 rfl rfl Try.sizeOf48 (by decide)) ?_
                      | refine y1 rfl rfl g13_36 rfl (lop_fieldAddr_fp (fo := 5) rfl Try.underlying50 rfl rfl Try.sizeOf48 (by decide) rfl) ?_
                    first
                      | refine y1 rfl rfl g13_36 rfl (lop_load_rf rfl rfl Try.isAgg48 rfl) ?_
                      | refine y1 rfl rfl g13_36 rfl (lop_load_fp rfl Try.isAgg48 rfl) ?_
                    refine y1 rfl rfl g13_36 rfl (lop_len rfl Try.underlying48 ⟨⟨_, rfl⟩, rfl⟩) ?_
                    first
                      | refine y1 rfl rfl g13_36 rfl (lop_fieldAddr_rf (fo := 5) rfl Try.underlying50 rfl rfl Try.sizeOf48 (by decide)) ?_
                      | refine y1 rfl rfl g13_36 rfl (lop_fieldAddr_fp (fo := 5) rfl Try.underlying50 rfl rfl Try.sizeOf48 (by decide) rfl) ?_
                    first
                      | refine y1 rfl rfl g13_36 rfl (lop_load_rf rfl rfl Try.isAgg48 rfl) ?_
                      | refine y1 rfl rfl g13_36 rfl (lop_load_fp rfl Try.isAgg48 rfl) ?_
                    refine y1 rfl rfl g13_36 rfl (lop_len rfl Try.underlying48 ⟨⟨_, rfl⟩, rfl⟩) ?_
                    refine y1 rfl rfl g13_36 rfl (lop_neq rfl rfl) ?_
                    first
                      | refine y1 rfl rfl g13_32 rfl (lop_pick_f (v := .bool _) rfl g13_2 rfl) ?_
                      | refine y1 rfl rfl g13_32 rfl (lop_pick_f (v := .bool _) rfl g13_9 rfl) ?_
                      | refine y1 rfl rfl g13_32 rfl (lop_pick_f (v := .bool _) rfl g13_16 rfl) ?_
                      | refine y1 rfl rfl g13_32 rfl (lop_pick_f (v := .bool _) rfl g13_25 rfl) ?_
                      | refine y1 rfl rfl g13_32 rfl (lop_pick_f (v := .bool _) rfl g13_32 rfl) ?_
                      | refine y1 rfl rfl g13_32 rfl (lop_pick_t (v := .bool _) rfl g13_36 rfl) ?_
                      | refine y1 rfl rfl g13_32 rfl (lop_pick_t (v := .bool _) rfl rfl rfl) ?_
                      | refine y1 rfl rfl g13_32 rfl (lop_pick_f (v := .bool _) rfl rfl rfl) ?_
                      | refine y1 rfl rfl g13_32 rfl (lop_pick rfl rfl rfl) ?_
                    first
                      | refine s1 rfl (lop_pick_f (v := .bool _) rfl g13_2 rfl) ?_
                      | refine s1 rfl (lop_pick_f (v := .bool _) rfl g13_9 rfl) ?_
                      | refine s1 rfl (lop_pick_f (v := .bool _) rfl g13_16 rfl) ?_
                      | refine s1 rfl (lop_pick_f (v := .bool _) rfl g13_25 rfl) ?_
                      | refine s1 rfl (lop_pick_f (v := .bool _) rfl g13_32 rfl) ?_
                      | refine s1 rfl (lop_pick_t (v := .bool _) rfl g13_36 rfl) ?_
                      | refine s1 rfl (lop_pick_t (v := .bool _) rfl rfl rfl) ?_
                      | refine s1 rfl (lop_pick_f (v := .bool _) rfl rfl rfl) ?_
                      | refine s1 rfl (lop_pick rfl rfl rfl) ?_
                    refine ops_nil ?_
                    first
                      | refine ok_if _ rfl rfl (fun h_t100 => ?_) (fun h_t100 => ?_)
                      | refine ok_cond rfl rfl (fun h_t100 => ?_) (fun h_t100 => ?_)
                    · exfalso; omega
                    · refine ok_skip ?_
                      refine ok_region ?_
                      refine s1 rfl (lop_move (v := .int _ _) rfl) ?_
                      refine s1 rfl (lop_bop rfl rfl rfl (bop_add (by omega) (by omega))) ?_
                      refine s1 rfl (lop_assign (v := .int _ _) rfl) ?_
                      refine ops_nil ?_
                      exact ⟨⟨i + 1, by omega⟩, by simp only; omega, le_mk ⟨rfl, rfl, rfl, rfl, trivial⟩ ⟨.inr rfl, .inr rfl, trivial⟩ rfl⟩
                  · refine n1 rfl rfl g13_36 ?_
                    refine n1 rfl rfl g13_36 ?_
                    refine n1 rfl rfl g13_36 ?_
                    refine n1 rfl rfl g13_36 ?_
                    refine n1 rfl rfl g13_36 ?_
                    refine n1 rfl rfl g13_36 ?_
                    refine n1 rfl rfl g13_36 ?_
                    first
                      | refine y1 rfl rfl g13_32 rfl (lop_pick_f (v := .bool _) rfl g13_2 rfl) ?_
                      | refine y1 rfl rfl g13_32 rfl (lop_pick_f (v := .bool _) rfl g13_9 rfl) ?_
                      | refine y1 rfl rfl g13_32 rfl (lop_pick_f (v := .bool _) rfl g13_16 rfl) ?_
                      | refine y1 rfl rfl g13_32 rfl (lop_pick_f (v := .bool _) rfl g13_25 rfl) ?_
                      | refine y1 rfl rfl g13_32 rfl (lop_pick_f (v := .bool _) rfl g13_32 rfl) ?_
                      | refine y1 rfl rfl g13_32 rfl (lop_pick_f (v := .bool _) rfl g13_36 rfl) ?_
                      | refine y1 rfl rfl g13_32 rfl (lop_pick_t (v := .bool _) rfl rfl rfl) ?_
                      | refine y1 rfl rfl g13_32 rfl (lop_pick_f (v := .bool _) rfl rfl rfl) ?_
                      | refine y1 rfl rfl g13_32 rfl (lop_pick rfl rfl rfl) ?_
                    first
                      | refine s1 rfl (lop_pick_f (v := .bool _) rfl g13_2 rfl) ?_
                      | refine s1 rfl (lop_pick_f (v := .bool _) rfl g13_9 rfl) ?_
                      | refine s1 rfl (lop_pick_f (v := .bool _) rfl g13_16 rfl) ?_
                      | refine s1 rfl (lop_pick_f (v := .bool _) rfl g13_25 rfl) ?_
                      | refine s1 rfl (lop_pick_f (v := .bool _) rfl g13_32 rfl) ?_
                      | refine s1 rfl (lop_pick_f (v := .bool _) rfl g13_36 rfl) ?_
                      | refine s1 rfl (lop_pick_t (v := .bool _) rfl rfl rfl) ?_
                      | refine s1 rfl (lop_pick_f (v := .bool _) rfl rfl rfl) ?_
                      | refine s1 rfl (lop_pick rfl rfl rfl) ?_
                    refine ops_nil ?_
                    refine ok_false rfl rfl ?_
                    refine ok_skip ?_
                    refine ok_region ?_
                    refine s1 rfl (lop_move (v := .int _ _) rfl) ?_
                    refine s1 rfl (lop_bop rfl rfl rfl (bop_add (by omega) (by omega))) ?_
                    refine s1 rfl (lop_assign (v := .int _ _) rfl) ?_
                    refine ops_nil ?_
                    exact ⟨⟨i + 1, by omega⟩, by simp only; omega, le_mk ⟨rfl, rfl, rfl, rfl, trivial⟩ ⟨.inr rfl, .inr rfl, trivial⟩ rfl⟩
      · refine ok_exit ?_
        refine ok_reg ?_
        refine s1 rfl (lop_move (v := .bool _) rfl) ?_
        refine s1 rfl (lop_assign (v := .bool _) rfl) ?_
        refine ops_nil ?_
        refine ok_ret ?_
        exact ret_one rfl rfl rfl rfl rfl
  · refine n1 rfl rfl g5_4 ?_
    refine n1 rfl rfl g5_4 ?_
    first
      | refine s1 rfl (lop_pick_f (v := .bool _) rfl g5_4 rfl) ?_
      | refine s1 rfl (lop_pick_t (v := .bool _) rfl rfl rfl) ?_
      | refine s1 rfl (lop_pick_f (v := .bool _) rfl rfl rfl) ?_
      | refine s1 rfl (lop_pick rfl rfl rfl) ?_
    refine ops_nil ?_
    refine ok_false rfl rfl ?_
    refine ok_exit ?_
    refine ok_seq ?_
    refine ok_reg ?_
    have e9 : i = min more.length 300 := by omega
    have hYu := runFrom_up (runsF l) more i hi
    have hYg := runFrom_good hG more i hi
    clear hfit
    subst e9
    have hYf := runFrom_fit hF (by omega) more _ hi
    have hYv := hYf.vols
    refine s1 rfl (lop_assign (v := .int _ _) rfl) ?_
    refine ops_nil ?_
    refine ok_block ?_
    refine ok_loop (ι := {i : Nat // i ≤ (runsF l).vols.length}) (fun i => ⟨[(5, .bool true), (6, .rf 6 0), (7, .rf 7 0), (9, i64 i.1)], [(6, some (true, (runsF l).enc)), (7, some (true, (runFrom (runsF l) more (min more.length 300)).enc))], 102⟩) (fun i => (runsF l).vols.length - i.1) (⟨0, Nat.zero_le _⟩) ?_ ?_
    · exact le_mk ⟨rfl, rfl, rfl, rfl, trivial⟩ ⟨.inr rfl, .inr rfl, trivial⟩ rfl
    rintro ⟨i, hi⟩
    dsimp only
    have hvl := hF.vols
    refine ok_seq ?_
    refine ok_reg ?_
    refine s1 rfl (lop_move (v := .int _ _) rfl) ?_
    first
      | refine s1 rfl (lop_fieldAddr_rf (fo := 0) rfl Try.underlying26 rfl rfl Try.sizeOf22 (by decide)) ?_
      | refine s1 rfl (lop_fieldAddr_fp (fo := 0) rfl Try.underlying26 rfl rfl Try.sizeOf22 (by decide) rfl) ?_
    first
      | refine s1 rfl (lop_load_rf rfl rfl Try.isAgg22 rfl) ?_
      | refine s1 rfl (lop_load_fp rfl Try.isAgg22 rfl) ?_
    refine s1 rfl (lop_len rfl Try.underlying22 ⟨⟨_, rfl⟩, rfl⟩) ?_
    refine s1 rfl (lop_lss rfl rfl) ?_
    refine ops_nil ?_
    first
      | refine ok_if _ rfl rfl (fun h_t40 => ?_) (fun h_t40 => ?_)
      | refine ok_cond rfl rfl (fun h_t40 => ?_) (fun h_t40 => ?_)
    · have hri : i < (runsF l).vols.length := by omega
      obtain ⟨w, hw, hU⟩ := hYu i (runsF l).vols[i] (List.getElem?_eq_getElem hri)
      have hVol := index_Vol_ac (runFrom (runsF l) more (min more.length 300)) (by omega) (runsF l).vols[i].id
      rw [← hU.id, volF_uniq hYg.ci hw, hU.id] at hVol
      dsimp only at hVol
      have u1 := hU.phase
      have u2 := hU.used
      have u3 := hU.len
      have u4 := hU.home
      have u5 := hU.fixed
      refine ok_skip ?_
      refine ok_seq ?_
      refine ok_block ?_
      refine ok_reg ?_
      first
        | refine s1 rfl (lop_fieldAddr_rf (fo := 0) rfl Try.underlying26 rfl rfl Try.sizeOf22 (by decide)) ?_
        | refine s1 rfl (lop_fieldAddr_fp (fo := 0) rfl Try.underlying26 rfl rfl Try.sizeOf22 (by decide) rfl) ?_
      first
        | refine s1 rfl (lop_load_rf rfl rfl Try.isAgg22 rfl) ?_
        | refine s1 rfl (lop_load_fp rfl Try.isAgg22 rfl) ?_
      refine s1 rfl (lop_move (v := .int _ _) rfl) ?_
      first
        | refine s1 rfl (lop_indexAddr_os rfl rfl Try.underlying22 Try.sizeOf50 rfl hri) ?_
        | refine s1 rfl (lop_indexAddr_sl rfl rfl Try.underlying22 Try.sizeOf50 rfl hri (flat_at VolD.len hri) (flat_ne VolD.len (by decide) hri)) ?_
      first
        | refine s1 rfl (lop_load_rf_agg rfl rfl Try.isAgg50 Try.sizeOf50 (by rw [List.length_append, VolD.len]; omega) (by rw [List.take_append_of_le_length (by rw [VolD.len]; omega), List.take_of_length_le (by rw [VolD.len]; omega)])) ?_
        | refine s1 rfl (lop_load_fp_agg rfl Try.isAgg50 Try.sizeOf50 (by rw [List.length_append, VolD.len]; omega) (by rw [List.take_append_of_le_length (by rw [VolD.len]; omega), List.take_of_length_le (by rw [VolD.len]; omega)])) ?_
      refine s1w rfl (lop_new (t := 10) (cs := [.int _ _, .int _ _, .int _ _, .int _ _, .int _ _, .z0, .z0, .int _ _, .int _ _]) Try.zeroValue50 rfl rfl rfl rfl) rfl ?_
      first
        | refine s0w rfl (lop_storeK (v := .agg [.int _ _, .int _ _, .int _ _, .int _ _, .int _ _, _, _, .int _ _, .int _ _]) (cs' := [.int _ _, .int _ _, .int _ _, .int _ _, .int _ _, _, _, .int _ _, .int _ _]) (f' := true) rfl rfl rfl Try.sizeOf50 rfl rfl rfl rfl rfl) ?_
        | refine s0w rfl (lop_storeK (v := .agg [.int _ _, .int _ _, .int _ _, .int _ _, .int _ _, _, _, .int _ _, .int _ _]) (cs' := [.int _ _, .int _ _, .int _ _, .int _ _, .int _ _, _, _, .int _ _, .int _ _]) (f' := false) rfl rfl rfl Try.sizeOf50 rfl rfl rfl rfl rfl) ?_
      refine ops_nil ?_
      refine ok_reg ?_
      first
        | refine s1 rfl (lop_load_rf_agg (ys := [_, _, _]) rfl rfl Try.isAgg26 Try.sizeOf26 (Nat.le_of_ble_eq_true rfl) rfl) ?_
        | refine s1 rfl (lop_load_fp_agg (ys := [_, _, _]) rfl Try.isAgg26 Try.sizeOf26 (Nat.le_of_ble_eq_true rfl) rfl) ?_
      first
        | refine s1 rfl (lop_fieldAddr_rf (fo := 0) rfl Try.underlying50 rfl rfl Try.sizeOf3 (by decide)) ?_
        | refine s1 rfl (lop_fieldAddr_fp (fo := 0) rfl Try.underlying50 rfl rfl Try.sizeOf3 (by decide) rfl) ?_
      first
        | refine s1 rfl (lop_load_rf rfl rfl Try.isAgg3 rfl) ?_
        | refine s1 rfl (lop_load_fp rfl Try.isAgg3 rfl) ?_
      refine s1 rfl (lop_call rfl Try.call15 (FrzL.tf rfl) (.inl rfl) hVol) ?_
      refine s1 rfl (lop_move (v := .tup _) rfl) ?_
      refine s1 rfl (lop_extract rfl rfl) ?_
      refine s1 rfl (lop_extract rfl rfl) ?_
      refine s1w rfl (lop_new (t := 11) (cs := [.int _ _, .int _ _, .int _ _, .int _ _, .int _ _, .z0, .z0, .int _ _, .int _ _]) Try.zeroValue50 rfl rfl rfl rfl) rfl ?_
      first
        | refine s0w rfl (lop_storeK (v := .agg [.int _ _, .int _ _, .int _ _, .int _ _, .int _ _, _, _, .int _ _, .int _ _]) (cs' := [.int _ _, .int _ _, .int _ _, .int _ _, .int _ _, _, _, .int _ _, .int _ _]) (f' := true) rfl rfl rfl Try.sizeOf50 rfl rfl rfl rfl rfl) ?_
        | refine s0w rfl (lop_storeK (v := .agg [.int _ _, .int _ _, .int _ _, .int _ _, .int _ _, _, _, .int _ _, .int _ _]) (cs' := [.int _ _, .int _ _, .int _ _, .int _ _, .int _ _, _, _, .int _ _, .int _ _]) (f' := false) rfl rfl rfl Try.sizeOf50 rfl rfl rfl rfl rfl) ?_
      refine s1 rfl (lop_assign (v := .bool _) rfl) ?_
      refine ops_nil ?_
      refine ok_reg ?_
      refine s1 rfl (lop_move (v := .bool _) rfl) ?_
      refine s1 rfl (lop_not rfl) ?_
      refine s1 rfl (lop_move (v := .bool _) rfl) ?_
      first
        | refine gsplitP 2 rfl rfl (fun g13_2 p13_2 => ?_) (fun g13_2 p13_2 => ?_)
        | refine gsplitB 2 rfl rfl (fun g13_2 p13_2 => ?_) (fun g13_2 p13_2 => ?_)
      · exfalso
        simp at g13_2
      · first
          | refine y1 rfl rfl g13_2 rfl (lop_fieldAddr_rf (fo := 4) rfl Try.underlying50 rfl rfl Try.sizeOf3 (by decide)) ?_
          | refine y1 rfl rfl g13_2 rfl (lop_fieldAddr_fp (fo := 4) rfl Try.underlying50 rfl rfl Try.sizeOf3 (by decide) rfl) ?_
        first
          | refine y1 rfl rfl g13_2 rfl (lop_load_rf rfl rfl Try.isAgg3 rfl) ?_
          | refine y1 rfl rfl g13_2 rfl (lop_load_fp rfl Try.isAgg3 rfl) ?_
        first
          | refine y1 rfl rfl g13_2 rfl (lop_fieldAddr_rf (fo := 4) rfl Try.underlying50 rfl rfl Try.sizeOf3 (by decide)) ?_
          | refine y1 rfl rfl g13_2 rfl (lop_fieldAddr_fp (fo := 4) rfl Try.underlying50 rfl rfl Try.sizeOf3 (by decide) rfl) ?_
        first
          | refine y1 rfl rfl g13_2 rfl (lop_load_rf rfl rfl Try.isAgg3 rfl) ?_
          | refine y1 rfl rfl g13_2 rfl (lop_load_fp rfl Try.isAgg3 rfl) ?_
        refine y1 rfl rfl g13_2 rfl (lop_lss rfl rfl) ?_
        first
          | refine s1 rfl (lop_pick_f (v := .bool _) rfl g13_2 rfl) ?_
          | refine s1 rfl (lop_pick_t (v := .bool _) rfl rfl rfl) ?_
          | refine s1 rfl (lop_pick_f (v := .bool _) rfl rfl rfl) ?_
          | refine s1 rfl (lop_pick rfl rfl rfl) ?_
        refine s1 rfl (lop_move (v := .bool _) rfl) ?_
        first
          | refine gsplitP 9 rfl rfl (fun g13_9 p13_9 => ?_) (fun g13_9 p13_9 => ?_)
          | refine gsplitB 9 rfl rfl (fun g13_9 p13_9 => ?_) (fun g13_9 p13_9 => ?_)
        · exfalso; omega
        · first
            | refine y1 rfl rfl g13_9 rfl (lop_fieldAddr_rf (fo := 3) rfl Try.underlying50 rfl rfl Try.sizeOf3 (by decide)) ?_
            | refine y1 rfl rfl g13_9 rfl (lop_fieldAddr_fp (fo := 3) rfl Try.underlying50 rfl rfl Try.sizeOf3 (by decide) rfl) ?_
          first
            | refine y1 rfl rfl g13_9 rfl (lop_load_rf rfl rfl Try.isAgg3 rfl) ?_
            | refine y1 rfl rfl g13_9 rfl (lop_load_fp rfl Try.isAgg3 rfl) ?_
          first
            | refine y1 rfl rfl g13_9 rfl (lop_fieldAddr_rf (fo := 3) rfl Try.underlying50 rfl rfl Try.sizeOf3 (by decide)) ?_
            | refine y1 rfl rfl g13_9 rfl (lop_fieldAddr_fp (fo := 3) rfl Try.underlying50 rfl rfl Try.sizeOf3 (by decide) rfl) ?_
          first
            | refine y1 rfl rfl g13_9 rfl (lop_load_rf rfl rfl Try.isAgg3 rfl) ?_
            | refine y1 rfl rfl g13_9 rfl (lop_load_fp rfl Try.isAgg3 rfl) ?_
          refine y1 rfl rfl g13_9 rfl (lop_lss rfl rfl) ?_
          first
            | refine s1 rfl (lop_pick_f (v := .bool _) rfl g13_2 rfl) ?_
            | refine s1 rfl (lop_pick_f (v := .bool _) rfl g13_9 rfl) ?_
            | refine s1 rfl (lop_pick_t (v := .bool _) rfl rfl rfl) ?_
            | refine s1 rfl (lop_pick_f (v := .bool _) rfl rfl rfl) ?_
            | refine s1 rfl (lop_pick rfl rfl rfl) ?_
          refine s1 rfl (lop_move (v := .bool _) rfl) ?_
          first
            | refine gsplitP 16 rfl rfl (fun g13_16 p13_16 => ?_) (fun g13_16 p13_16 => ?_)
            | refine gsplitB 16 rfl rfl (fun g13_16 p13_16 => ?_) (fun g13_16 p13_16 => ?_)
          · exfalso; omega
          · first
              | refine y1 rfl rfl g13_16 rfl (lop_fieldAddr_rf (fo := 5) rfl Try.underlying50 rfl rfl Try.sizeOf48 (by decide)) ?_
              | refine y1 rfl rfl g13_16 rfl (lop_fieldAddr_fp (fo := 5) rfl Try.underlying50 rfl rfl Try.sizeOf48 (by decide) rfl) ?_
            first
              | refine y1 rfl rfl g13_16 rfl (lop_load_rf rfl rfl Try.isAgg48 rfl) ?_
              | refine y1 rfl rfl g13_16 rfl (lop_load_fp rfl Try.isAgg48 rfl) ?_
            refine y1 rfl rfl g13_16 rfl (lop_len rfl Try.underlying48 ⟨⟨_, rfl⟩, rfl⟩) ?_
            first
              | refine y1 rfl rfl g13_16 rfl (lop_fieldAddr_rf (fo := 5) rfl Try.underlying50 rfl rfl Try.sizeOf48 (by decide)) ?_
              | refine y1 rfl rfl g13_16 rfl (lop_fieldAddr_fp (fo := 5) rfl Try.underlying50 rfl rfl Try.sizeOf48 (by decide) rfl) ?_
            first
              | refine y1 rfl rfl g13_16 rfl (lop_load_rf rfl rfl Try.isAgg48 rfl) ?_
              | refine y1 rfl rfl g13_16 rfl (lop_load_fp rfl Try.isAgg48 rfl) ?_
            refine y1 rfl rfl g13_16 rfl (lop_len rfl Try.underlying48 ⟨⟨_, rfl⟩, rfl⟩) ?_
            refine y1 rfl rfl g13_16 rfl (lop_lss rfl rfl) ?_
            first
              | refine s1 rfl (lop_pick_f (v := .bool _) rfl g13_2 rfl) ?_
              | refine s1 rfl (lop_pick_f (v := .bool _) rfl g13_9 rfl) ?_
              | refine s1 rfl (lop_pick_f (v := .bool _) rfl g13_16 rfl) ?_
              | refine s1 rfl (lop_pick_t (v := .bool _) rfl rfl rfl) ?_
              | refine s1 rfl (lop_pick_f (v := .bool _) rfl rfl rfl) ?_
              | refine s1 rfl (lop_pick rfl rfl rfl) ?_
            refine s1 rfl (lop_move (v := .bool _) rfl) ?_
            first
              | refine gsplitP 25 rfl rfl (fun g13_25 p13_25 => ?_) (fun g13_25 p13_25 => ?_)
              | refine gsplitB 25 rfl rfl (fun g13_25 p13_25 => ?_) (fun g13_25 p13_25 => ?_)
            · exfalso; omega
            · first
                | refine y1 rfl rfl g13_25 rfl (lop_fieldAddr_rf (fo := 1) rfl Try.underlying50 rfl rfl Try.sizeOf3 (by decide)) ?_
                | refine y1 rfl rfl g13_25 rfl (lop_fieldAddr_fp (fo := 1) rfl Try.underlying50 rfl rfl Try.sizeOf3 (by decide) rfl) ?_
              first
                | refine y1 rfl rfl g13_25 rfl (lop_load_rf rfl rfl Try.isAgg3 rfl) ?_
                | refine y1 rfl rfl g13_25 rfl (lop_load_fp rfl Try.isAgg3 rfl) ?_
              first
                | refine y1 rfl rfl g13_25 rfl (lop_fieldAddr_rf (fo := 1) rfl Try.underlying50 rfl rfl Try.sizeOf3 (by decide)) ?_
                | refine y1 rfl rfl g13_25 rfl (lop_fieldAddr_fp (fo := 1) rfl Try.underlying50 rfl rfl Try.sizeOf3 (by decide) rfl) ?_
              first
                | refine y1 rfl rfl g13_25 rfl (lop_load_rf rfl rfl Try.isAgg3 rfl) ?_
                | refine y1 rfl rfl g13_25 rfl (lop_load_fp rfl Try.isAgg3 rfl) ?_
              refine y1 rfl rfl g13_25 rfl (lop_neq rfl rfl) ?_
              first
                | refine s1 rfl (lop_pick_f (v := .bool _) rfl g13_2 rfl) ?_
                | refine s1 rfl (lop_pick_f (v := .bool _) rfl g13_9 rfl) ?_
                | refine s1 rfl (lop_pick_f (v := .bool _) rfl g13_16 rfl) ?_
                | refine s1 rfl (lop_pick_f (v := .bool _) rfl g13_25 rfl) ?_
                | refine s1 rfl (lop_pick_t (v := .bool _) rfl rfl rfl) ?_
                | refine s1 rfl (lop_pick_f (v := .bool _) rfl rfl rfl) ?_
                | refine s1 rfl (lop_pick rfl rfl rfl) ?_
              refine s1 rfl (lop_move (v := .bool _) rfl) ?_
              first
                | refine gsplitP 32 rfl rfl (fun g13_32 p13_32 => ?_) (fun g13_32 p13_32 => ?_)
                | refine gsplitB 32 rfl rfl (fun g13_32 p13_32 => ?_) (fun g13_32 p13_32 => ?_)
              · exfalso; omega
              · first
                  | refine y1 rfl rfl g13_32 rfl (lop_fieldAddr_rf (fo := 4) rfl Try.underlying50 rfl rfl Try.sizeOf3 (by decide)) ?_
                  | refine y1 rfl rfl g13_32 rfl (lop_fieldAddr_fp (fo := 4) rfl Try.underlying50 rfl rfl Try.sizeOf3 (by decide) rfl) ?_
                first
                  | refine y1 rfl rfl g13_32 rfl (lop_load_rf rfl rfl Try.isAgg3 rfl) ?_
                  | refine y1 rfl rfl g13_32 rfl (lop_load_fp rfl Try.isAgg3 rfl) ?_
                refine y1 rfl rfl g13_32 rfl (lop_geq rfl rfl) ?_
                refine y1 rfl rfl g13_32 rfl (lop_move (v := .bool _) rfl) ?_
                first
                  | refine gsplitP 36 rfl rfl (fun g13_36 p13_36 => ?_) (fun g13_36 p13_36 => ?_)
                  | refine gsplitB 36 rfl rfl (fun g13_36 p13_36 => ?_) (fun g13_36 p13_36 => ?_)
                · have u5 := u5 p13_36
                  first
                    | refine y1 rfl rfl g13_36 rfl (lop_fieldAddr_rf (fo := 5) rfl Try.underlying50 rfl rfl Try.sizeOf48 (by decide)) ?_
                    | refine y1 rfl rfl g13_36 rfl (lop_fieldAddr_fp (fo := 5) rfl Try.underlying50 rfl rfl Try.sizeOf48 (by decide) rfl) ?_
                  first
                    | refine y1 rfl rfl g13_36 rfl (lop_load_rf rfl rfl Try.isAgg48 rfl) ?_
                    | refine y1 rfl rfl g13_36 rfl (lop_load_fp rfl Try.isAgg48 rfl) ?_
                  refine y1 rfl rfl g13_36 rfl (lop_len rfl Try.underlying48 ⟨⟨_, rfl⟩, rfl⟩) ?_
                  first
                    | refine y1 rfl rfl g13_36 rfl (lop_fieldAddr_rf (fo := 5) rfl Try.underlying50 rfl rfl Try.sizeOf48 (by decide)) ?_
                    | refine y1 rfl rfl g13_36 rfl (lop_fieldAddr_fp (fo := 5) rfl Try.underlying50 rfl rfl Try.sizeOf48 (by decide) rfl) ?_
                  first
                    | refine y1 rfl rfl g13_36 rfl (lop_load_rf rfl rfl Try.isAgg48 rfl) ?_
                    | refine y1 rfl rfl g13_36 rfl (lop_load_fp rfl Try.isAgg48 rfl) ?_
                  refine y1 rfl rfl g13_36 rfl (lop_len rfl Try.underlying48 ⟨⟨_, rfl⟩, rfl⟩) ?_
                  refine y1 rfl rfl g13_36 rfl (lop_neq rfl rfl) ?_
                  first
                    | refine y1 rfl rfl g13_32 rfl (lop_pick_f (v := .bool _) rfl g13_2 rfl) ?_
                    | refine y1 rfl rfl g13_32 rfl (lop_pick_f (v := .bool _) rfl g13_9 rfl) ?_
                    | refine y1 rfl rfl g13_32 rfl (lop_pick_f (v := .bool _) rfl g13_16 rfl) ?_
                    | refine y1 rfl rfl g13_32 rfl (lop_pick_f (v := .bool _) rfl g13_25 rfl) ?_
                    | refine y1 rfl rfl g13_32 rfl (lop_pick_f (v := .bool _) rfl g13_32 rfl) ?_
                    | refine y1 rfl rfl g13_32 rfl (lop_pick_t (v := .bool _) rfl g13_36 rfl) ?_
                    | refine y1 rfl rfl g13_32 rfl (lop_pick_t (v := .bool _) rfl rfl rfl) ?_
                    | refine y1 rfl rfl g13_32 rfl (lop_pick_f (v := .bool _) rfl rfl rfl) ?_
                    | refine y1 rfl rfl g13_32 rfl (lop_pick rfl rfl rfl) ?_
                  first
                    | refine s1 rfl (lop_pick_f (v := .bool _) rfl g13_2 rfl) ?_
                    | refine s1 rfl (lop_pick_f (v := .bool _) rfl g13_9 rfl) ?_
                    | refine s1 rfl (lop_pick_f (v := .bool _) rfl g13_16 rfl) ?_
                    | refine s1 rfl (lop_pick_f (v := .bool _) rfl g13_25 rfl) ?_
                    | refine s1 rfl (lop_pick_f (v := .bool _) rfl g13_32 rfl) ?_
                    | refine s1 rfl (lop_pick_t (v := .bool _) rfl g13_36 rfl) ?_
                    | refine s1 rfl (lop_pick_t (v := .bool _) rfl rfl rfl) ?_
                    | refine s1 rfl (lop_pick_f (v := .bool _) rfl rfl rfl) ?_
                    | refine s1 rfl (lop_pick rfl rfl rfl) ?_
                  refine ops_nil ?_
                  first
                    | refine ok_if _ rfl rfl (fun h_t100 => ?_) (fun h_t100 => ?_)
                    | refine ok_cond rfl rfl (fun h_t100 => ?_) (fun h_t100 => ?_)
                  · exfalso; omega
                  · refine ok_skip ?_
                    refine ok_region ?_
                    refine s1 rfl (lop_move (v := .int _ _) rfl) ?_
                    refine s1 rfl (lop_bop rfl rfl rfl (bop_add (by omega) (by omega))) ?_
                    refine s1 rfl (lop_assign (v := .int _ _) rfl) ?_
                    refine ops_nil ?_
                    exact ⟨⟨i + 1, by omega⟩, by simp only; omega, le_mk ⟨rfl, rfl, rfl, rfl, trivial⟩ ⟨.inr rfl, .inr rfl, trivial⟩ rfl⟩
                · refine n1 rfl rfl g13_36 ?_
                  refine n1 rfl rfl g13_36 ?_
                  refine n1 rfl rfl g13_36 ?_
                  refine n1 rfl rfl g13_36 ?_
                  refine n1 rfl rfl g13_36 ?_
                  refine n1 rfl rfl g13_36 ?_
                  refine n1 rfl rfl g13_36 ?_
                  first
                    | refine y1 rfl rfl g13_32 rfl (lop_pick_f (v := .bool _) rfl g13_2 rfl) ?_
                    | refine y1 rfl rfl g13_32 rfl (lop_pick_f (v := .bool _) rfl g13_9 rfl) ?_
                    | refine y1 rfl rfl g13_32 rfl (lop_pick_f (v := .bool _) rfl g13_16 rfl) ?_
                    | refine y1 rfl rfl g13_32 rfl (lop_pick_f (v := .bool _) rfl g13_25 rfl) ?_
                    | refine y1 rfl rfl g13_32 rfl (lop_pick_f (v := .bool _) rfl g13_32 rfl) ?_
                    | refine y1 rfl rfl g13_32 rfl (lop_pick_f (v := .bool _) rfl g13_36 rfl) ?_
                    | refine y1 rfl rfl g13_32 rfl (lop_pick_t (v := .bool _) rfl rfl rfl) ?_
                    | refine y1 rfl rfl g13_32 rfl (lop_pick_f (v := .bool _) rfl rfl rfl) ?_
                    | refine y1 rfl rfl g13_32 rfl (lop_pick rfl rfl rfl) ?_
                  first
                    | refine s1 rfl (lop_pick_f (v := .bool _) rfl g13_2 rfl) ?_
                    | refine s1 rfl (lop_pick_f (v := .bool _) rfl g13_9 rfl) ?_
                    | refine s1 rfl (lop_pick_f (v := .bool _) rfl g13_16 rfl) ?_
                    | refine s1 rfl (lop_pick_f (v := .bool _) rfl g13_25 rfl) ?_
                    | refine s1 rfl (lop_pick_f (v := .bool _) rfl g13_32 rfl) ?_
                    | refine s1 rfl (lop_pick_f (v := .bool _) rfl g13_36 rfl) ?_
                    | refine s1 rfl (lop_pick_t (v := .bool _) rfl rfl rfl) ?_
                    | refine s1 rfl (lop_pick_f (v := .bool _) rfl rfl rfl) ?_
                    | refine s1 rfl (lop_pick rfl rfl rfl) ?_
                  refine ops_nil ?_
                  refine ok_false rfl rfl ?_
                  refine ok_skip ?_
                  refine ok_region ?_
                  refine s1 rfl (lop_move (v := .int _ _) rfl) ?_
                  refine s1 rfl (lop_bop rfl rfl rfl (bop_add (by omega) (by omega))) ?_
                  refine s1 rfl (lop_assign (v := .int _ _) rfl) ?_
                  refine ops_nil ?_
                  exact ⟨⟨i + 1, by omega⟩, by simp only; omega, le_mk ⟨rfl, rfl, rfl, rfl, trivial⟩ ⟨.inr rfl, .inr rfl, trivial⟩ rfl⟩
    · refine ok_exit ?_
      refine ok_reg ?_
      refine s1 rfl (lop_move (v := .bool _) rfl) ?_
      refine s1 rfl (lop_assign (v := .bool _) rfl) ?_
      refine ops_nil ?_
      refine ok_ret ?_
      exact ret_one rfl rfl rfl rfl rfl

end Go.Proofs
