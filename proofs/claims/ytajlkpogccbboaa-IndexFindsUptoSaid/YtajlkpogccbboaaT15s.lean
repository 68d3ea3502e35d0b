/- Chapter 15: walks. Printed by gen.py. -/
import Derived.Test.YtajlkpogccbboaaT15q
set_option linter.unusedVariables false
set_option linter.unusedSimpArgs false
set_option maxRecDepth 100000
namespace Go.Proofs
open Go.Hg

theorem ref15_VolAt_ac (x : IdxD) (hx : x.vols.length ≤ 549755813888) (id : Int) : AC Try.prog 17 [.agg x.enc, i64 id] (i64 (idxOf (fun v => decide (v.id = id)) x.vols)) := by
 refine AC.intro Try.func17 rfl (Nat.le_of_ble_eq_true rfl) ?_
 refine ok_reg ?_
 first
  | refine s1w rfl (lop_box (t := 2) (v := .agg [_, _, _]) (f := true) (cs := [_, _, _]) rfl rfl rfl rfl (fun h => by cases h)) rfl ?_
  | refine s1w rfl (lop_box (t := 2) (v := .agg [_, _, _]) (f := false) (cs := [_, _, _]) rfl rfl rfl rfl (fun _ => rfl)) rfl ?_
 refine s1 rfl (lop_assign (v := .int _ _) rfl) ?_
 refine ops_nil ?_
 refine ok_seq ?_
 refine ok_reg ?_
 refine s1 rfl (lop_assign (v := .int _ _) rfl) ?_
 refine ops_nil ?_
 refine ok_block ?_
 refine ok_loop (ι := {i : Nat // i ≤ x.vols.length ∧ ∀ j, (h : j < x.vols.length) → j < i → (fun v => decide (v.id = id)) x.vols[j] = false}) (fun i => ⟨[(1, i64 id), (2, .rf 2 0), (5, i64 i.1)], [(2, some (true, x.enc))], 22⟩) (fun i => x.vols.length - i.1) (⟨0, Nat.zero_le _, fun _ _ h => absurd h (Nat.not_lt_zero _)⟩) ?_ ?_
 ·exact le_mk ⟨rfl, rfl, rfl, trivial⟩ ⟨.inr rfl, trivial⟩ rfl
 rintro ⟨i, hi, hn⟩
 dsimp only
 refine ok_seq ?_
 refine ok_reg ?_
 refine s1 rfl (lop_move (v := .int _ _) rfl) ?_
 first
  | refine s1 rfl (lop_fieldAddr_rf (fo := 0) rfl Try.underlying26 rfl rfl Try.sizeOf22 (by decide)) ?_
  | refine s1 rfl (lop_fieldAddr_fp (fo := 0) rfl Try.underlying26 rfl rfl Try.sizeOf22 (by decide) rfl) ?_
 first
  | refine s1 rfl (lop_load_rf rfl rfl Try.isAgg22 rfl) ?_
  | refine s1 rfl (lop_load_fp rfl Try.isAgg22 rfl) ?_
 refine s1 rfl (lop_len rfl Try.underlying22 ⟨⟨_, rfl⟩, rfl⟩) ?_
 refine s1 rfl (lop_lss rfl rfl) ?_
 refine ops_nil ?_
 first
  | refine ok_if _ rfl rfl (fun h_t10 => ?_) (fun h_t10 => ?_)
  | refine ok_cond rfl rfl (fun h_t10 => ?_) (fun h_t10 => ?_)
 ·have hi1 : i < x.vols.length := by omega
  refine ok_skip ?_
  refine ok_seq ?_
  refine ok_block ?_
  refine ok_reg ?_
  first
   | refine s1 rfl (lop_fieldAddr_rf (fo := 0) rfl Try.underlying26 rfl rfl Try.sizeOf22 (by decide)) ?_
   | refine s1 rfl (lop_fieldAddr_fp (fo := 0) rfl Try.underlying26 rfl rfl Try.sizeOf22 (by decide) rfl) ?_
  first
   | refine s1 rfl (lop_load_rf rfl rfl Try.isAgg22 rfl) ?_
   | refine s1 rfl (lop_load_fp rfl Try.isAgg22 rfl) ?_
  refine s1 rfl (lop_move (v := .int _ _) rfl) ?_
  first
   | refine s1 rfl (lop_indexAddr_os rfl rfl Try.underlying22 Try.sizeOf50 rfl hi1) ?_
   | refine s1 rfl (lop_indexAddr_sl rfl rfl Try.underlying22 Try.sizeOf50 rfl hi1 (flat_at VolD.len hi1) (flat_ne VolD.len (by decide) hi1)) ?_
  first
   | refine s1 rfl (lop_fieldAddr_rf (fo := 0) rfl Try.underlying50 rfl rfl Try.sizeOf3 (by decide)) ?_
   | refine s1 rfl (lop_fieldAddr_fp (fo := 0) rfl Try.underlying50 rfl rfl Try.sizeOf3 (by decide) rfl) ?_
  first
   | refine s1 rfl (lop_load_rf rfl rfl Try.isAgg3 rfl) ?_
   | refine s1 rfl (lop_load_fp rfl Try.isAgg3 rfl) ?_
  refine s1 rfl (lop_move (v := .int _ _) rfl) ?_
  refine s1 rfl (lop_eql rfl rfl) ?_
  refine ops_nil ?_
  first
   | refine ok_if _ rfl rfl (fun h_t20 => ?_) (fun h_t20 => ?_)
   | refine ok_cond rfl rfl (fun h_t20 => ?_) (fun h_t20 => ?_)
  ·refine ok_reg ?_
   refine s1 rfl (lop_move (v := .int _ _) rfl) ?_
   refine s1 rfl (lop_assign (v := .int _ _) rfl) ?_
   refine ops_nil ?_
   refine ok_ret ?_
   exact ret_one rfl rfl rfl rfl (congrArg i64 (idxOf_at (p := (fun v => decide (v.id = id))) hi1 (decide_eq_true (by simpa using h_t20)) hn))
  ·refine ok_skip ?_
   refine ok_region ?_
   refine s1 rfl (lop_move (v := .int _ _) rfl) ?_
   refine s1 rfl (lop_bop rfl rfl rfl (bop_add (by omega) (by omega))) ?_
   refine s1 rfl (lop_assign (v := .int _ _) rfl) ?_
   refine ops_nil ?_
   exact ⟨⟨i + 1, by omega, none_step (p := (fun v => decide (v.id = id))) hn hi1 (decide_eq_false (by simpa using h_t20))⟩, by simp only; omega, le_mk ⟨rfl, rfl, rfl, trivial⟩ ⟨.inr rfl, trivial⟩ rfl⟩
 ·refine ok_exit ?_
  refine ok_reg ?_
  refine s1 rfl (lop_assign (v := .int _ _) rfl) ?_
  refine ops_nil ?_
  refine ok_ret ?_
  exact ret_one rfl rfl rfl rfl (congrArg i64 (idxOf_no (p := (fun v => decide (v.id = id))) fun j hj => hn j hj (by omega)))

theorem ref15_NameAt_ac (x : IdxD) (hx : x.names.length ≤ 549755813888) (s : ByteArray) : AC Try.prog 18 [.agg x.enc, .str s] (i64 (idxOf (fun v => decide (v.name = s)) x.names)) := by
 refine AC.intro Try.func18 rfl (Nat.le_of_ble_eq_true rfl) ?_
 refine ok_reg ?_
 first
  | refine s1w rfl (lop_box (t := 2) (v := .agg [_, _, _]) (f := true) (cs := [_, _, _]) rfl rfl rfl rfl (fun h => by cases h)) rfl ?_
  | refine s1w rfl (lop_box (t := 2) (v := .agg [_, _, _]) (f := false) (cs := [_, _, _]) rfl rfl rfl rfl (fun _ => rfl)) rfl ?_
 refine s1 rfl (lop_assign (v := .int _ _) rfl) ?_
 refine ops_nil ?_
 refine ok_seq ?_
 refine ok_reg ?_
 refine s1 rfl (lop_assign (v := .int _ _) rfl) ?_
 refine ops_nil ?_
 refine ok_block ?_
 refine ok_loop (ι := {i : Nat // i ≤ x.names.length ∧ ∀ j, (h : j < x.names.length) → j < i → (fun v => decide (v.name = s)) x.names[j] = false}) (fun i => ⟨[(1, .str s), (2, .rf 2 0), (5, i64 i.1)], [(2, some (true, x.enc))], 22⟩) (fun i => x.names.length - i.1) (⟨0, Nat.zero_le _, fun _ _ h => absurd h (Nat.not_lt_zero _)⟩) ?_ ?_
 ·exact le_mk ⟨rfl, rfl, rfl, trivial⟩ ⟨.inr rfl, trivial⟩ rfl
 rintro ⟨i, hi, hn⟩
 dsimp only
 refine ok_seq ?_
 refine ok_reg ?_
 refine s1 rfl (lop_move (v := .int _ _) rfl) ?_
 first
  | refine s1 rfl (lop_fieldAddr_rf (fo := 1) rfl Try.underlying26 rfl rfl Try.sizeOf23 (by decide)) ?_
  | refine s1 rfl (lop_fieldAddr_fp (fo := 1) rfl Try.underlying26 rfl rfl Try.sizeOf23 (by decide) rfl) ?_
 first
  | refine s1 rfl (lop_load_rf rfl rfl Try.isAgg23 rfl) ?_
  | refine s1 rfl (lop_load_fp rfl Try.isAgg23 rfl) ?_
 refine s1 rfl (lop_len rfl Try.underlying23 ⟨⟨_, rfl⟩, rfl⟩) ?_
 refine s1 rfl (lop_lss rfl rfl) ?_
 refine ops_nil ?_
 first
  | refine ok_if _ rfl rfl (fun h_t10 => ?_) (fun h_t10 => ?_)
  | refine ok_cond rfl rfl (fun h_t10 => ?_) (fun h_t10 => ?_)
 ·have hi1 : i < x.names.length := by omega
  refine ok_skip ?_
  refine ok_seq ?_
  refine ok_block ?_
  refine ok_reg ?_
  first
   | refine s1 rfl (lop_fieldAddr_rf (fo := 1) rfl Try.underlying26 rfl rfl Try.sizeOf23 (by decide)) ?_
   | refine s1 rfl (lop_fieldAddr_fp (fo := 1) rfl Try.underlying26 rfl rfl Try.sizeOf23 (by decide) rfl) ?_
  first
   | refine s1 rfl (lop_load_rf rfl rfl Try.isAgg23 rfl) ?_
   | refine s1 rfl (lop_load_fp rfl Try.isAgg23 rfl) ?_
  refine s1 rfl (lop_move (v := .int _ _) rfl) ?_
  first
   | refine s1 rfl (lop_indexAddr_os rfl rfl Try.underlying23 Try.sizeOf47 rfl hi1) ?_
   | refine s1 rfl (lop_indexAddr_sl rfl rfl Try.underlying23 Try.sizeOf47 rfl hi1 (flat_at NameD.len hi1) (flat_ne NameD.len (by decide) hi1)) ?_
  first
   | refine s1 rfl (lop_fieldAddr_rf (fo := 0) rfl Try.underlying47 rfl rfl Try.sizeOf9 (by decide)) ?_
   | refine s1 rfl (lop_fieldAddr_fp (fo := 0) rfl Try.underlying47 rfl rfl Try.sizeOf9 (by decide) rfl) ?_
  first
   | refine s1 rfl (lop_load_rf rfl rfl Try.isAgg9 rfl) ?_
   | refine s1 rfl (lop_load_fp rfl Try.isAgg9 rfl) ?_
  refine s1 rfl (lop_move (v := .str _) rfl) ?_
  refine s1 rfl (lop_seql rfl rfl) ?_
  refine ops_nil ?_
  first
   | refine ok_if _ rfl rfl (fun h_t20 => ?_) (fun h_t20 => ?_)
   | refine ok_cond rfl rfl (fun h_t20 => ?_) (fun h_t20 => ?_)
  ·refine ok_reg ?_
   refine s1 rfl (lop_move (v := .int _ _) rfl) ?_
   refine s1 rfl (lop_assign (v := .int _ _) rfl) ?_
   refine ops_nil ?_
   refine ok_ret ?_
   exact ret_one rfl rfl rfl rfl (congrArg i64 (idxOf_at (p := (fun v => decide (v.name = s))) hi1 (decide_eq_true (by simpa using h_t20)) hn))
  ·refine ok_skip ?_
   refine ok_region ?_
   refine s1 rfl (lop_move (v := .int _ _) rfl) ?_
   refine s1 rfl (lop_bop rfl rfl rfl (bop_add (by omega) (by omega))) ?_
   refine s1 rfl (lop_assign (v := .int _ _) rfl) ?_
   refine ops_nil ?_
   exact ⟨⟨i + 1, by omega, none_step (p := (fun v => decide (v.name = s))) hn hi1 (decide_eq_false (by simpa using h_t20))⟩, by simp only; omega, le_mk ⟨rfl, rfl, rfl, trivial⟩ ⟨.inr rfl, trivial⟩ rfl⟩
 ·refine ok_exit ?_
  refine ok_reg ?_
  refine s1 rfl (lop_assign (v := .int _ _) rfl) ?_
  refine ops_nil ?_
  refine ok_ret ?_
  exact ret_one rfl rfl rfl rfl (congrArg i64 (idxOf_no (p := (fun v => decide (v.name = s))) fun j hj => hn j hj (by omega)))

theorem ref15_LastAt_ac (x : IdxD) (hx : x.last.length ≤ 549755813888) (id : Int) : AC Try.prog 19 [.agg x.enc, i64 id] (i64 (idxOf (fun v => decide (v.client = id)) x.last)) := by
 refine AC.intro Try.func19 rfl (Nat.le_of_ble_eq_true rfl) ?_
 refine ok_reg ?_
 first
  | refine s1w rfl (lop_box (t := 2) (v := .agg [_, _, _]) (f := true) (cs := [_, _, _]) rfl rfl rfl rfl (fun h => by cases h)) rfl ?_
  | refine s1w rfl (lop_box (t := 2) (v := .agg [_, _, _]) (f := false) (cs := [_, _, _]) rfl rfl rfl rfl (fun _ => rfl)) rfl ?_
 refine s1 rfl (lop_assign (v := .int _ _) rfl) ?_
 refine ops_nil ?_
 refine ok_seq ?_
 refine ok_reg ?_
 refine s1 rfl (lop_assign (v := .int _ _) rfl) ?_
 refine ops_nil ?_
 refine ok_block ?_
 refine ok_loop (ι := {i : Nat // i ≤ x.last.length ∧ ∀ j, (h : j < x.last.length) → j < i → (fun v => decide (v.client = id)) x.last[j] = false}) (fun i => ⟨[(1, i64 id), (2, .rf 2 0), (5, i64 i.1)], [(2, some (true, x.enc))], 22⟩) (fun i => x.last.length - i.1) (⟨0, Nat.zero_le _, fun _ _ h => absurd h (Nat.not_lt_zero _)⟩) ?_ ?_
 ·exact le_mk ⟨rfl, rfl, rfl, trivial⟩ ⟨.inr rfl, trivial⟩ rfl
 rintro ⟨i, hi, hn⟩
 dsimp only
 refine ok_seq ?_
 refine ok_reg ?_
 refine s1 rfl (lop_move (v := .int _ _) rfl) ?_
 first
  | refine s1 rfl (lop_fieldAddr_rf (fo := 2) rfl Try.underlying26 rfl rfl Try.sizeOf24 (by decide)) ?_
  | refine s1 rfl (lop_fieldAddr_fp (fo := 2) rfl Try.underlying26 rfl rfl Try.sizeOf24 (by decide) rfl) ?_
 first
  | refine s1 rfl (lop_load_rf rfl rfl Try.isAgg24 rfl) ?_
  | refine s1 rfl (lop_load_fp rfl Try.isAgg24 rfl) ?_
 refine s1 rfl (lop_len rfl Try.underlying24 ⟨⟨_, rfl⟩, rfl⟩) ?_
 refine s1 rfl (lop_lss rfl rfl) ?_
 refine ops_nil ?_
 first
  | refine ok_if _ rfl rfl (fun h_t10 => ?_) (fun h_t10 => ?_)
  | refine ok_cond rfl rfl (fun h_t10 => ?_) (fun h_t10 => ?_)
 ·have hi1 : i < x.last.length := by omega
  refine ok_skip ?_
  refine ok_seq ?_
  refine ok_block ?_
  refine ok_reg ?_
  first
   | refine s1 rfl (lop_fieldAddr_rf (fo := 2) rfl Try.underlying26 rfl rfl Try.sizeOf24 (by decide)) ?_
   | refine s1 rfl (lop_fieldAddr_fp (fo := 2) rfl Try.underlying26 rfl rfl Try.sizeOf24 (by decide) rfl) ?_
  first
   | refine s1 rfl (lop_load_rf rfl rfl Try.isAgg24 rfl) ?_
   | refine s1 rfl (lop_load_fp rfl Try.isAgg24 rfl) ?_
  refine s1 rfl (lop_move (v := .int _ _) rfl) ?_
  first
   | refine s1 rfl (lop_indexAddr_os rfl rfl Try.underlying24 Try.sizeOf39 rfl hi1) ?_
   | refine s1 rfl (lop_indexAddr_sl rfl rfl Try.underlying24 Try.sizeOf39 rfl hi1 (flat_at SessD.len hi1) (flat_ne SessD.len (by decide) hi1)) ?_
  first
   | refine s1 rfl (lop_fieldAddr_rf (fo := 0) rfl Try.underlying39 rfl rfl Try.sizeOf3 (by decide)) ?_
   | refine s1 rfl (lop_fieldAddr_fp (fo := 0) rfl Try.underlying39 rfl rfl Try.sizeOf3 (by decide) rfl) ?_
  first
   | refine s1 rfl (lop_load_rf rfl rfl Try.isAgg3 rfl) ?_
   | refine s1 rfl (lop_load_fp rfl Try.isAgg3 rfl) ?_
  refine s1 rfl (lop_move (v := .int _ _) rfl) ?_
  refine s1 rfl (lop_eql rfl rfl) ?_
  refine ops_nil ?_
  first
   | refine ok_if _ rfl rfl (fun h_t20 => ?_) (fun h_t20 => ?_)
   | refine ok_cond rfl rfl (fun h_t20 => ?_) (fun h_t20 => ?_)
  ·refine ok_reg ?_
   refine s1 rfl (lop_move (v := .int _ _) rfl) ?_
   refine s1 rfl (lop_assign (v := .int _ _) rfl) ?_
   refine ops_nil ?_
   refine ok_ret ?_
   exact ret_one rfl rfl rfl rfl (congrArg i64 (idxOf_at (p := (fun v => decide (v.client = id))) hi1 (decide_eq_true (by simpa using h_t20)) hn))
  ·refine ok_skip ?_
   refine ok_region ?_
   refine s1 rfl (lop_move (v := .int _ _) rfl) ?_
   refine s1 rfl (lop_bop rfl rfl rfl (bop_add (by omega) (by omega))) ?_
   refine s1 rfl (lop_assign (v := .int _ _) rfl) ?_
   refine ops_nil ?_
   exact ⟨⟨i + 1, by omega, none_step (p := (fun v => decide (v.client = id))) hn hi1 (decide_eq_false (by simpa using h_t20))⟩, by simp only; omega, le_mk ⟨rfl, rfl, rfl, trivial⟩ ⟨.inr rfl, trivial⟩ rfl⟩
 ·refine ok_exit ?_
  refine ok_reg ?_
  refine s1 rfl (lop_assign (v := .int _ _) rfl) ?_
  refine ops_nil ?_
  refine ok_ret ?_
  exact ret_one rfl rfl rfl rfl (congrArg i64 (idxOf_no (p := (fun v => decide (v.client = id))) fun j hj => hn j hj (by omega)))

theorem equal_Name_ac {l m : List NameD} (hl : l.length ≤ 549755813888) : AC Try.prog 34 [rowOf NameD.enc l, rowOf NameD.enc m] (.bool (decide (l = m))) := by
 refine AC.intro Try.func34 rfl (Nat.le_of_ble_eq_true rfl) ?_
 refine ok_reg ?_
 refine s1 rfl (lop_assign (v := .bool _) rfl) ?_
 refine ops_nil ?_
 refine ok_seq ?_
 refine ok_reg ?_
 first
  | refine s1 rfl (lop_move (v := .sl _ _) rfl) ?_
  | refine s1 rfl (lop_move (v := .os _ _ _ _) rfl) ?_
  | refine s1 rfl (lop_move (v := .z0) rfl) ?_
 refine s1 rfl (lop_len rfl Try.underlying23 ⟨⟨_, rfl⟩, rfl⟩) ?_
 first
  | refine s1 rfl (lop_move (v := .sl _ _) rfl) ?_
  | refine s1 rfl (lop_move (v := .os _ _ _ _) rfl) ?_
  | refine s1 rfl (lop_move (v := .z0) rfl) ?_
 refine s1 rfl (lop_len rfl Try.underlying23 ⟨⟨_, rfl⟩, rfl⟩) ?_
 refine s1 rfl (lop_neq rfl rfl) ?_
 refine ops_nil ?_
 first
  | refine ok_if _ rfl rfl (fun h_t10 => ?_) (fun h_t10 => ?_)
  | refine ok_cond rfl rfl (fun h_t10 => ?_) (fun h_t10 => ?_)
 ·refine ok_reg ?_
  refine s1 rfl (lop_assign (v := .bool _) rfl) ?_
  refine ops_nil ?_
  refine ok_ret ?_
  exact ret_one rfl rfl rfl rfl (congrArg V.bool ((decide_eq_false (ne_len (by omega))).symm))
 ·refine ok_skip ?_
  refine ok_seq ?_
  refine ok_reg ?_
  first
   | refine s1 rfl (lop_move (v := .sl _ _) rfl) ?_
   | refine s1 rfl (lop_move (v := .os _ _ _ _) rfl) ?_
   | refine s1 rfl (lop_move (v := .z0) rfl) ?_
  refine s1 rfl (lop_len rfl Try.underlying23 ⟨⟨_, rfl⟩, rfl⟩) ?_
  refine s1 rfl (lop_move (v := .int _ _) rfl) ?_
  refine ops_nil ?_
  refine ok_block ?_
  refine ok_loop (ι := {i : Nat // i ≤ l.length ∧ ∀ j, (h1 : j < l.length) → (h2 : j < m.length) → j < i → l[j] = m[j]}) (fun i => ⟨[(0, rowOf NameD.enc l), (1, rowOf NameD.enc m), (11, rowOf NameD.enc l), (12, i64 l.length), (13, i64 i.1)], [], 26⟩) (fun i => l.length - i.1) (⟨0, Nat.zero_le _, fun _ _ _ h => absurd h (Nat.not_lt_zero _)⟩) ?_ ?_
  ·exact le_mk ⟨rfl, rfl, rfl, rfl, rfl, trivial⟩ trivial rfl
  rintro ⟨i, hi, hn⟩
  dsimp only
  refine ok_reg ?_
  refine s1 rfl (lop_lss rfl rfl) ?_
  refine ops_nil ?_
  refine ok_seq ?_
  first
   | refine ok_if _ rfl rfl (fun h_t14 => ?_) (fun h_t14 => ?_)
   | refine ok_cond rfl rfl (fun h_t14 => ?_) (fun h_t14 => ?_)
  ·have hi1 : i < l.length := by omega
   have hi2 : i < m.length := by omega
   refine ok_skip ?_
   refine ok_seq ?_
   refine ok_block ?_
   refine ok_reg ?_
   refine s1 rfl (lop_move (v := .int _ _) rfl) ?_
   refine s1 rfl (lop_assign (v := .int _ _) rfl) ?_
   refine ops_nil ?_
   refine ok_drw Try.mixed ?_
   first
    | refine d1 rfl rfl (lop_move (v := .sl _ _) rfl) ?_
    | refine d1 rfl rfl (lop_move (v := .os _ _ _ _) rfl) ?_
    | refine d1 rfl rfl (lop_move (v := .z0) rfl) ?_
   refine d1 rfl rfl (lop_move (v := .int _ _) rfl) ?_
   first
    | refine d1 rfl rfl (lop_indexAddr_os rfl rfl Try.underlying23 Try.sizeOf47 rfl hi1) ?_
    | refine d1 rfl rfl (lop_indexAddr_sl rfl rfl Try.underlying23 Try.sizeOf47 rfl hi1 (flat_at NameD.len hi1) (flat_ne NameD.len (by decide) hi1)) ?_
   first
    | refine d1 rfl rfl (lop_load_rf_agg rfl rfl Try.isAgg47 Try.sizeOf47 (by rw [List.length_append, NameD.len]; omega) (by rw [List.take_append_of_le_length (by rw [NameD.len]; omega), List.take_of_length_le (by rw [NameD.len]; omega)])) ?_
    | refine d1 rfl rfl (lop_load_fp_agg rfl Try.isAgg47 Try.sizeOf47 (by rw [List.length_append, NameD.len]; omega) (by rw [List.take_append_of_le_length (by rw [NameD.len]; omega), List.take_of_length_le (by rw [NameD.len]; omega)])) ?_
   first
    | refine d1 rfl rfl (lop_move (v := .sl _ _) rfl) ?_
    | refine d1 rfl rfl (lop_move (v := .os _ _ _ _) rfl) ?_
    | refine d1 rfl rfl (lop_move (v := .z0) rfl) ?_
   refine d1 rfl rfl (lop_move (v := .int _ _) rfl) ?_
   first
    | refine d1 rfl rfl (lop_indexAddr_os rfl rfl Try.underlying23 Try.sizeOf47 rfl hi2) ?_
    | refine d1 rfl rfl (lop_indexAddr_sl rfl rfl Try.underlying23 Try.sizeOf47 rfl hi2 (flat_at NameD.len hi2) (flat_ne NameD.len (by decide) hi2)) ?_
   first
    | refine d1 rfl rfl (lop_load_rf_agg rfl rfl Try.isAgg47 Try.sizeOf47 (by rw [List.length_append, NameD.len]; omega) (by rw [List.take_append_of_le_length (by rw [NameD.len]; omega), List.take_of_length_le (by rw [NameD.len]; omega)])) ?_
    | refine d1 rfl rfl (lop_load_fp_agg rfl Try.isAgg47 Try.sizeOf47 (by rw [List.length_append, NameD.len]; omega) (by rw [List.take_append_of_le_length (by rw [NameD.len]; omega), List.take_of_length_le (by rw [NameD.len]; omega)])) ?_
   refine d1 rfl rfl (lop_aneq rfl rfl rfl rfl eqg47 (ne47 l[i] m[i])) ?_
   refine dr_nil (by kernel_rfl) ?_
   first
    | refine ok_if _ rfl rfl (fun h_t24 => ?_) (fun h_t24 => ?_)
    | refine ok_cond rfl rfl (fun h_t24 => ?_) (fun h_t24 => ?_)
   ·refine ok_reg ?_
    refine s1 rfl (lop_assign (v := .bool _) rfl) ?_
    refine ops_nil ?_
    refine ok_ret ?_
    exact ret_one rfl rfl rfl rfl (congrArg V.bool ((decide_eq_false (ne_at hi1 hi2 (by simpa using h_t24))).symm))
   ·refine ok_skip ?_
    refine ok_region ?_
    refine s1 rfl (lop_bop rfl rfl rfl (bop_add (by omega) (by omega))) ?_
    refine s1 rfl (lop_move (v := .int _ _) rfl) ?_
    refine ops_nil ?_
    exact ⟨⟨i + 1, by omega, eq_step hn hi1 hi2 (by simpa using h_t24)⟩, by simp only; omega, le_mk ⟨rfl, rfl, rfl, rfl, rfl, trivial⟩ trivial rfl⟩
  ·refine ok_exit ?_
   refine ok_reg ?_
   refine s1 rfl (lop_assign (v := .bool _) rfl) ?_
   refine ops_nil ?_
   refine ok_ret ?_
   exact ret_one rfl rfl rfl rfl (congrArg V.bool ((decide_eq_true (eq_all (by omega) (fun j h1 h2 _ => hn j h1 h2 (by omega)))).symm))

theorem equal_Sess_ac {l m : List SessD} (hl : l.length ≤ 549755813888) : AC Try.prog 35 [rowOf SessD.enc l, rowOf SessD.enc m] (.bool (decide (l = m))) := by
 refine AC.intro Try.func35 rfl (Nat.le_of_ble_eq_true rfl) ?_
 refine ok_reg ?_
 refine s1 rfl (lop_assign (v := .bool _) rfl) ?_
 refine ops_nil ?_
 refine ok_seq ?_
 refine ok_reg ?_
 first
  | refine s1 rfl (lop_move (v := .sl _ _) rfl) ?_
  | refine s1 rfl (lop_move (v := .os _ _ _ _) rfl) ?_
  | refine s1 rfl (lop_move (v := .z0) rfl) ?_
 refine s1 rfl (lop_len rfl Try.underlying24 ⟨⟨_, rfl⟩, rfl⟩) ?_
 first
  | refine s1 rfl (lop_move (v := .sl _ _) rfl) ?_
  | refine s1 rfl (lop_move (v := .os _ _ _ _) rfl) ?_
  | refine s1 rfl (lop_move (v := .z0) rfl) ?_
 refine s1 rfl (lop_len rfl Try.underlying24 ⟨⟨_, rfl⟩, rfl⟩) ?_
 refine s1 rfl (lop_neq rfl rfl) ?_
 refine ops_nil ?_
 first
  | refine ok_if _ rfl rfl (fun h_t10 => ?_) (fun h_t10 => ?_)
  | refine ok_cond rfl rfl (fun h_t10 => ?_) (fun h_t10 => ?_)
 ·refine ok_reg ?_
  refine s1 rfl (lop_assign (v := .bool _) rfl) ?_
  refine ops_nil ?_
  refine ok_ret ?_
  exact ret_one rfl rfl rfl rfl (congrArg V.bool ((decide_eq_false (ne_len (by omega))).symm))
 ·refine ok_skip ?_
  refine ok_seq ?_
  refine ok_reg ?_
  first
   | refine s1 rfl (lop_move (v := .sl _ _) rfl) ?_
   | refine s1 rfl (lop_move (v := .os _ _ _ _) rfl) ?_
   | refine s1 rfl (lop_move (v := .z0) rfl) ?_
  refine s1 rfl (lop_len rfl Try.underlying24 ⟨⟨_, rfl⟩, rfl⟩) ?_
  refine s1 rfl (lop_move (v := .int _ _) rfl) ?_
  refine ops_nil ?_
  refine ok_block ?_
  refine ok_loop (ι := {i : Nat // i ≤ l.length ∧ ∀ j, (h1 : j < l.length) → (h2 : j < m.length) → j < i → l[j] = m[j]}) (fun i => ⟨[(0, rowOf SessD.enc l), (1, rowOf SessD.enc m), (11, rowOf SessD.enc l), (12, i64 l.length), (13, i64 i.1)], [], 26⟩) (fun i => l.length - i.1) (⟨0, Nat.zero_le _, fun _ _ _ h => absurd h (Nat.not_lt_zero _)⟩) ?_ ?_
  ·exact le_mk ⟨rfl, rfl, rfl, rfl, rfl, trivial⟩ trivial rfl
  rintro ⟨i, hi, hn⟩
  dsimp only
  refine ok_reg ?_
  refine s1 rfl (lop_lss rfl rfl) ?_
  refine ops_nil ?_
  refine ok_seq ?_
  first
   | refine ok_if _ rfl rfl (fun h_t14 => ?_) (fun h_t14 => ?_)
   | refine ok_cond rfl rfl (fun h_t14 => ?_) (fun h_t14 => ?_)
  ·have hi1 : i < l.length := by omega
   have hi2 : i < m.length := by omega
   refine ok_skip ?_
   refine ok_seq ?_
   refine ok_block ?_
   refine ok_reg ?_
   refine s1 rfl (lop_move (v := .int _ _) rfl) ?_
   refine s1 rfl (lop_assign (v := .int _ _) rfl) ?_
   refine ops_nil ?_
   refine ok_drw Try.mixed ?_
   first
    | refine d1 rfl rfl (lop_move (v := .sl _ _) rfl) ?_
    | refine d1 rfl rfl (lop_move (v := .os _ _ _ _) rfl) ?_
    | refine d1 rfl rfl (lop_move (v := .z0) rfl) ?_
   refine d1 rfl rfl (lop_move (v := .int _ _) rfl) ?_
   first
    | refine d1 rfl rfl (lop_indexAddr_os rfl rfl Try.underlying24 Try.sizeOf39 rfl hi1) ?_
    | refine d1 rfl rfl (lop_indexAddr_sl rfl rfl Try.underlying24 Try.sizeOf39 rfl hi1 (flat_at SessD.len hi1) (flat_ne SessD.len (by decide) hi1)) ?_
   first
    | refine d1 rfl rfl (lop_load_rf_agg rfl rfl Try.isAgg39 Try.sizeOf39 (by rw [List.length_append, SessD.len]; omega) (by rw [List.take_append_of_le_length (by rw [SessD.len]; omega), List.take_of_length_le (by rw [SessD.len]; omega)])) ?_
    | refine d1 rfl rfl (lop_load_fp_agg rfl Try.isAgg39 Try.sizeOf39 (by rw [List.length_append, SessD.len]; omega) (by rw [List.take_append_of_le_length (by rw [SessD.len]; omega), List.take_of_length_le (by rw [SessD.len]; omega)])) ?_
   first
    | refine d1 rfl rfl (lop_move (v := .sl _ _) rfl) ?_
    | refine d1 rfl rfl (lop_move (v := .os _ _ _ _) rfl) ?_
    | refine d1 rfl rfl (lop_move (v := .z0) rfl) ?_
   refine d1 rfl rfl (lop_move (v := .int _ _) rfl) ?_
   first
    | refine d1 rfl rfl (lop_indexAddr_os rfl rfl Try.underlying24 Try.sizeOf39 rfl hi2) ?_
    | refine d1 rfl rfl (lop_indexAddr_sl rfl rfl Try.underlying24 Try.sizeOf39 rfl hi2 (flat_at SessD.len hi2) (flat_ne SessD.len (by decide) hi2)) ?_
   first
    | refine d1 rfl rfl (lop_load_rf_agg rfl rfl Try.isAgg39 Try.sizeOf39 (by rw [List.length_append, SessD.len]; omega) (by rw [List.take_append_of_le_length (by rw [SessD.len]; omega), List.take_of_length_le (by rw [SessD.len]; omega)])) ?_
    | refine d1 rfl rfl (lop_load_fp_agg rfl Try.isAgg39 Try.sizeOf39 (by rw [List.length_append, SessD.len]; omega) (by rw [List.take_append_of_le_length (by rw [SessD.len]; omega), List.take_of_length_le (by rw [SessD.len]; omega)])) ?_
   refine d1 rfl rfl (lop_aneq rfl rfl rfl rfl eqg39 (ne39 l[i] m[i])) ?_
   refine dr_nil (by kernel_rfl) ?_
   first
    | refine ok_if _ rfl rfl (fun h_t24 => ?_) (fun h_t24 => ?_)
    | refine ok_cond rfl rfl (fun h_t24 => ?_) (fun h_t24 => ?_)
   ·refine ok_reg ?_
    refine s1 rfl (lop_assign (v := .bool _) rfl) ?_
    refine ops_nil ?_
    refine ok_ret ?_
    exact ret_one rfl rfl rfl rfl (congrArg V.bool ((decide_eq_false (ne_at hi1 hi2 (by simpa using h_t24))).symm))
   ·refine ok_skip ?_
    refine ok_region ?_
    refine s1 rfl (lop_bop rfl rfl rfl (bop_add (by omega) (by omega))) ?_
    refine s1 rfl (lop_move (v := .int _ _) rfl) ?_
    refine ops_nil ?_
    exact ⟨⟨i + 1, by omega, eq_step hn hi1 hi2 (by simpa using h_t24)⟩, by simp only; omega, le_mk ⟨rfl, rfl, rfl, rfl, rfl, trivial⟩ trivial rfl⟩
  ·refine ok_exit ?_
   refine ok_reg ?_
   refine s1 rfl (lop_assign (v := .bool _) rfl) ?_
   refine ops_nil ?_
   refine ok_ret ?_
   exact ret_one rfl rfl rfl rfl (congrArg V.bool ((decide_eq_true (eq_all (by omega) (fun j h1 h2 _ => hn j h1 h2 (by omega)))).symm))

theorem equal_Span_ac {l m : List SpanD} (hl : l.length ≤ 549755813888) : AC Try.prog 57 [rowOf SpanD.enc l, rowOf SpanD.enc m] (.bool (decide (l = m))) := by
 refine AC.intro Try.func57 rfl (Nat.le_of_ble_eq_true rfl) ?_
 refine ok_reg ?_
 refine s1 rfl (lop_assign (v := .bool _) rfl) ?_
 refine ops_nil ?_
 refine ok_seq ?_
 refine ok_reg ?_
 first
  | refine s1 rfl (lop_move (v := .sl _ _) rfl) ?_
  | refine s1 rfl (lop_move (v := .os _ _ _ _) rfl) ?_
  | refine s1 rfl (lop_move (v := .z0) rfl) ?_
 refine s1 rfl (lop_len rfl Try.underlying48 ⟨⟨_, rfl⟩, rfl⟩) ?_
 first
  | refine s1 rfl (lop_move (v := .sl _ _) rfl) ?_
  | refine s1 rfl (lop_move (v := .os _ _ _ _) rfl) ?_
  | refine s1 rfl (lop_move (v := .z0) rfl) ?_
 refine s1 rfl (lop_len rfl Try.underlying48 ⟨⟨_, rfl⟩, rfl⟩) ?_
 refine s1 rfl (lop_neq rfl rfl) ?_
 refine ops_nil ?_
 first
  | refine ok_if _ rfl rfl (fun h_t10 => ?_) (fun h_t10 => ?_)
  | refine ok_cond rfl rfl (fun h_t10 => ?_) (fun h_t10 => ?_)
 ·refine ok_reg ?_
  refine s1 rfl (lop_assign (v := .bool _) rfl) ?_
  refine ops_nil ?_
  refine ok_ret ?_
  exact ret_one rfl rfl rfl rfl (congrArg V.bool ((decide_eq_false (ne_len (by omega))).symm))
 ·refine ok_skip ?_
  refine ok_seq ?_
  refine ok_reg ?_
  first
   | refine s1 rfl (lop_move (v := .sl _ _) rfl) ?_
   | refine s1 rfl (lop_move (v := .os _ _ _ _) rfl) ?_
   | refine s1 rfl (lop_move (v := .z0) rfl) ?_
  refine s1 rfl (lop_len rfl Try.underlying48 ⟨⟨_, rfl⟩, rfl⟩) ?_
  refine s1 rfl (lop_move (v := .int _ _) rfl) ?_
  refine ops_nil ?_
  refine ok_block ?_
  refine ok_loop (ι := {i : Nat // i ≤ l.length ∧ ∀ j, (h1 : j < l.length) → (h2 : j < m.length) → j < i → l[j] = m[j]}) (fun i => ⟨[(0, rowOf SpanD.enc l), (1, rowOf SpanD.enc m), (11, rowOf SpanD.enc l), (12, i64 l.length), (13, i64 i.1)], [], 26⟩) (fun i => l.length - i.1) (⟨0, Nat.zero_le _, fun _ _ _ h => absurd h (Nat.not_lt_zero _)⟩) ?_ ?_
  ·exact le_mk ⟨rfl, rfl, rfl, rfl, rfl, trivial⟩ trivial rfl
  rintro ⟨i, hi, hn⟩
  dsimp only
  refine ok_reg ?_
  refine s1 rfl (lop_lss rfl rfl) ?_
  refine ops_nil ?_
  refine ok_seq ?_
  first
   | refine ok_if _ rfl rfl (fun h_t14 => ?_) (fun h_t14 => ?_)
   | refine ok_cond rfl rfl (fun h_t14 => ?_) (fun h_t14 => ?_)
  ·have hi1 : i < l.length := by omega
   have hi2 : i < m.length := by omega
   refine ok_skip ?_
   refine ok_seq ?_
   refine ok_block ?_
   refine ok_reg ?_
   refine s1 rfl (lop_move (v := .int _ _) rfl) ?_
   refine s1 rfl (lop_assign (v := .int _ _) rfl) ?_
   refine ops_nil ?_
   refine ok_drw Try.mixed ?_
   first
    | refine d1 rfl rfl (lop_move (v := .sl _ _) rfl) ?_
    | refine d1 rfl rfl (lop_move (v := .os _ _ _ _) rfl) ?_
    | refine d1 rfl rfl (lop_move (v := .z0) rfl) ?_
   refine d1 rfl rfl (lop_move (v := .int _ _) rfl) ?_
   first
    | refine d1 rfl rfl (lop_indexAddr_os rfl rfl Try.underlying48 Try.sizeOf54 rfl hi1) ?_
    | refine d1 rfl rfl (lop_indexAddr_sl rfl rfl Try.underlying48 Try.sizeOf54 rfl hi1 (flat_at SpanD.len hi1) (flat_ne SpanD.len (by decide) hi1)) ?_
   first
    | refine d1 rfl rfl (lop_load_rf_agg rfl rfl Try.isAgg54 Try.sizeOf54 (by rw [List.length_append, SpanD.len]; omega) (by rw [List.take_append_of_le_length (by rw [SpanD.len]; omega), List.take_of_length_le (by rw [SpanD.len]; omega)])) ?_
    | refine d1 rfl rfl (lop_load_fp_agg rfl Try.isAgg54 Try.sizeOf54 (by rw [List.length_append, SpanD.len]; omega) (by rw [List.take_append_of_le_length (by rw [SpanD.len]; omega), List.take_of_length_le (by rw [SpanD.len]; omega)])) ?_
   first
    | refine d1 rfl rfl (lop_move (v := .sl _ _) rfl) ?_
    | refine d1 rfl rfl (lop_move (v := .os _ _ _ _) rfl) ?_
    | refine d1 rfl rfl (lop_move (v := .z0) rfl) ?_
   refine d1 rfl rfl (lop_move (v := .int _ _) rfl) ?_
   first
    | refine d1 rfl rfl (lop_indexAddr_os rfl rfl Try.underlying48 Try.sizeOf54 rfl hi2) ?_
    | refine d1 rfl rfl (lop_indexAddr_sl rfl rfl Try.underlying48 Try.sizeOf54 rfl hi2 (flat_at SpanD.len hi2) (flat_ne SpanD.len (by decide) hi2)) ?_
   first
    | refine d1 rfl rfl (lop_load_rf_agg rfl rfl Try.isAgg54 Try.sizeOf54 (by rw [List.length_append, SpanD.len]; omega) (by rw [List.take_append_of_le_length (by rw [SpanD.len]; omega), List.take_of_length_le (by rw [SpanD.len]; omega)])) ?_
    | refine d1 rfl rfl (lop_load_fp_agg rfl Try.isAgg54 Try.sizeOf54 (by rw [List.length_append, SpanD.len]; omega) (by rw [List.take_append_of_le_length (by rw [SpanD.len]; omega), List.take_of_length_le (by rw [SpanD.len]; omega)])) ?_
   refine d1 rfl rfl (lop_aneq rfl rfl rfl rfl eqg54 (ne54 l[i] m[i])) ?_
   refine dr_nil (by kernel_rfl) ?_
   first
    | refine ok_if _ rfl rfl (fun h_t24 => ?_) (fun h_t24 => ?_)
    | refine ok_cond rfl rfl (fun h_t24 => ?_) (fun h_t24 => ?_)
   ·refine ok_reg ?_
    refine s1 rfl (lop_assign (v := .bool _) rfl) ?_
    refine ops_nil ?_
    refine ok_ret ?_
    exact ret_one rfl rfl rfl rfl (congrArg V.bool ((decide_eq_false (ne_at hi1 hi2 (by simpa using h_t24))).symm))
   ·refine ok_skip ?_
    refine ok_region ?_
    refine s1 rfl (lop_bop rfl rfl rfl (bop_add (by omega) (by omega))) ?_
    refine s1 rfl (lop_move (v := .int _ _) rfl) ?_
    refine ops_nil ?_
    exact ⟨⟨i + 1, by omega, eq_step hn hi1 hi2 (by simpa using h_t24)⟩, by simp only; omega, le_mk ⟨rfl, rfl, rfl, rfl, rfl, trivial⟩ trivial rfl⟩
  ·refine ok_exit ?_
   refine ok_reg ?_
   refine s1 rfl (lop_assign (v := .bool _) rfl) ?_
   refine ops_nil ?_
   refine ok_ret ?_
   exact ret_one rfl rfl rfl rfl (congrArg V.bool ((decide_eq_true (eq_all (by omega) (fun j h1 h2 _ => hn j h1 h2 (by omega)))).symm))

theorem equal_Place_ac {l m : List PlD} (hl : l.length ≤ 549755813888) : AC Try.prog 58 [rowOf PlD.enc l, rowOf PlD.enc m] (.bool (decide (l = m))) := by
 refine AC.intro Try.func58 rfl (Nat.le_of_ble_eq_true rfl) ?_
 refine ok_reg ?_
 refine s1 rfl (lop_assign (v := .bool _) rfl) ?_
 refine ops_nil ?_
 refine ok_seq ?_
 refine ok_reg ?_
 first
  | refine s1 rfl (lop_move (v := .sl _ _) rfl) ?_
  | refine s1 rfl (lop_move (v := .os _ _ _ _) rfl) ?_
  | refine s1 rfl (lop_move (v := .z0) rfl) ?_
 refine s1 rfl (lop_len rfl Try.underlying28 ⟨⟨_, rfl⟩, rfl⟩) ?_
 first
  | refine s1 rfl (lop_move (v := .sl _ _) rfl) ?_
  | refine s1 rfl (lop_move (v := .os _ _ _ _) rfl) ?_
  | refine s1 rfl (lop_move (v := .z0) rfl) ?_
 refine s1 rfl (lop_len rfl Try.underlying28 ⟨⟨_, rfl⟩, rfl⟩) ?_
 refine s1 rfl (lop_neq rfl rfl) ?_
 refine ops_nil ?_
 first
  | refine ok_if _ rfl rfl (fun h_t10 => ?_) (fun h_t10 => ?_)
  | refine ok_cond rfl rfl (fun h_t10 => ?_) (fun h_t10 => ?_)
 ·refine ok_reg ?_
  refine s1 rfl (lop_assign (v := .bool _) rfl) ?_
  refine ops_nil ?_
  refine ok_ret ?_
  exact ret_one rfl rfl rfl rfl (congrArg V.bool ((decide_eq_false (ne_len (by omega))).symm))
 ·refine ok_skip ?_
  refine ok_seq ?_
  refine ok_reg ?_
  first
   | refine s1 rfl (lop_move (v := .sl _ _) rfl) ?_
   | refine s1 rfl (lop_move (v := .os _ _ _ _) rfl) ?_
   | refine s1 rfl (lop_move (v := .z0) rfl) ?_
  refine s1 rfl (lop_len rfl Try.underlying28 ⟨⟨_, rfl⟩, rfl⟩) ?_
  refine s1 rfl (lop_move (v := .int _ _) rfl) ?_
  refine ops_nil ?_
  refine ok_block ?_
  refine ok_loop (ι := {i : Nat // i ≤ l.length ∧ ∀ j, (h1 : j < l.length) → (h2 : j < m.length) → j < i → l[j] = m[j]}) (fun i => ⟨[(0, rowOf PlD.enc l), (1, rowOf PlD.enc m), (11, rowOf PlD.enc l), (12, i64 l.length), (13, i64 i.1)], [], 26⟩) (fun i => l.length - i.1) (⟨0, Nat.zero_le _, fun _ _ _ h => absurd h (Nat.not_lt_zero _)⟩) ?_ ?_
  ·exact le_mk ⟨rfl, rfl, rfl, rfl, rfl, trivial⟩ trivial rfl
  rintro ⟨i, hi, hn⟩
  dsimp only
  refine ok_reg ?_
  refine s1 rfl (lop_lss rfl rfl) ?_
  refine ops_nil ?_
  refine ok_seq ?_
  first
   | refine ok_if _ rfl rfl (fun h_t14 => ?_) (fun h_t14 => ?_)
   | refine ok_cond rfl rfl (fun h_t14 => ?_) (fun h_t14 => ?_)
  ·have hi1 : i < l.length := by omega
   have hi2 : i < m.length := by omega
   refine ok_skip ?_
   refine ok_seq ?_
   refine ok_block ?_
   refine ok_reg ?_
   refine s1 rfl (lop_move (v := .int _ _) rfl) ?_
   refine s1 rfl (lop_assign (v := .int _ _) rfl) ?_
   refine ops_nil ?_
   refine ok_drw Try.mixed ?_
   first
    | refine d1 rfl rfl (lop_move (v := .sl _ _) rfl) ?_
    | refine d1 rfl rfl (lop_move (v := .os _ _ _ _) rfl) ?_
    | refine d1 rfl rfl (lop_move (v := .z0) rfl) ?_
   refine d1 rfl rfl (lop_move (v := .int _ _) rfl) ?_
   first
    | refine d1 rfl rfl (lop_indexAddr_os rfl rfl Try.underlying28 Try.sizeOf57 rfl hi1) ?_
    | refine d1 rfl rfl (lop_indexAddr_sl rfl rfl Try.underlying28 Try.sizeOf57 rfl hi1 (flat_at PlD.len hi1) (flat_ne PlD.len (by decide) hi1)) ?_
   first
    | refine d1 rfl rfl (lop_load_rf_agg rfl rfl Try.isAgg57 Try.sizeOf57 (by rw [List.length_append, PlD.len]; omega) (by rw [List.take_append_of_le_length (by rw [PlD.len]; omega), List.take_of_length_le (by rw [PlD.len]; omega)])) ?_
    | refine d1 rfl rfl (lop_load_fp_agg rfl Try.isAgg57 Try.sizeOf57 (by rw [List.length_append, PlD.len]; omega) (by rw [List.take_append_of_le_length (by rw [PlD.len]; omega), List.take_of_length_le (by rw [PlD.len]; omega)])) ?_
   first
    | refine d1 rfl rfl (lop_move (v := .sl _ _) rfl) ?_
    | refine d1 rfl rfl (lop_move (v := .os _ _ _ _) rfl) ?_
    | refine d1 rfl rfl (lop_move (v := .z0) rfl) ?_
   refine d1 rfl rfl (lop_move (v := .int _ _) rfl) ?_
   first
    | refine d1 rfl rfl (lop_indexAddr_os rfl rfl Try.underlying28 Try.sizeOf57 rfl hi2) ?_
    | refine d1 rfl rfl (lop_indexAddr_sl rfl rfl Try.underlying28 Try.sizeOf57 rfl hi2 (flat_at PlD.len hi2) (flat_ne PlD.len (by decide) hi2)) ?_
   first
    | refine d1 rfl rfl (lop_load_rf_agg rfl rfl Try.isAgg57 Try.sizeOf57 (by rw [List.length_append, PlD.len]; omega) (by rw [List.take_append_of_le_length (by rw [PlD.len]; omega), List.take_of_length_le (by rw [PlD.len]; omega)])) ?_
    | refine d1 rfl rfl (lop_load_fp_agg rfl Try.isAgg57 Try.sizeOf57 (by rw [List.length_append, PlD.len]; omega) (by rw [List.take_append_of_le_length (by rw [PlD.len]; omega), List.take_of_length_le (by rw [PlD.len]; omega)])) ?_
   refine d1 rfl rfl (lop_aneq rfl rfl rfl rfl eqg57 (ne57 l[i] m[i])) ?_
   refine dr_nil (by kernel_rfl) ?_
   first
    | refine ok_if _ rfl rfl (fun h_t24 => ?_) (fun h_t24 => ?_)
    | refine ok_cond rfl rfl (fun h_t24 => ?_) (fun h_t24 => ?_)
   ·refine ok_reg ?_
    refine s1 rfl (lop_assign (v := .bool _) rfl) ?_
    refine ops_nil ?_
    refine ok_ret ?_
    exact ret_one rfl rfl rfl rfl (congrArg V.bool ((decide_eq_false (ne_at hi1 hi2 (by simpa using h_t24))).symm))
   ·refine ok_skip ?_
    refine ok_region ?_
    refine s1 rfl (lop_bop rfl rfl rfl (bop_add (by omega) (by omega))) ?_
    refine s1 rfl (lop_move (v := .int _ _) rfl) ?_
    refine ops_nil ?_
    exact ⟨⟨i + 1, by omega, eq_step hn hi1 hi2 (by simpa using h_t24)⟩, by simp only; omega, le_mk ⟨rfl, rfl, rfl, rfl, rfl, trivial⟩ trivial rfl⟩
  ·refine ok_exit ?_
   refine ok_reg ?_
   refine s1 rfl (lop_assign (v := .bool _) rfl) ?_
   refine ops_nil ?_
   refine ok_ret ?_
   exact ret_one rfl rfl rfl rfl (congrArg V.bool ((decide_eq_true (eq_all (by omega) (fun j h1 h2 _ => hn j h1 h2 (by omega)))).symm))

theorem VolD.eq_iff (a b : VolD) : a = b ↔ (a.id = b.id ∧ a.home = b.home ∧ a.mate = b.mate ∧ a.used = b.used ∧ a.phase = b.phase ∧ a.parts = b.parts ∧ a.places = b.places ∧ a.pair = b.pair ∧ a.sum = b.sum) := by cases a; cases b; simp
theorem not_dec_v {a b : VolD} (h : ¬ (!decide (a = b)) = true) : a = b := by simpa using h

set_option maxHeartbeats 2000000 in
theorem index_same_ac {a b : VolD} (hp : a.places.length ≤ 549755813888) (hq : a.parts.length ≤ 549755813888) : AC Try.prog 33 [.agg a.enc, .agg b.enc] (.bool (decide (a = b))) := by
 refine AC.intro Try.func33 rfl (Nat.le_of_ble_eq_true rfl) ?_
 refine ok_reg ?_
 first
  | refine s1w rfl (lop_box (t := 2) (v := .agg [.int _ _, .int _ _, .int _ _, .int _ _, .int _ _, _, _, .int _ _, .int _ _]) (f := true) (cs := [.int _ _, .int _ _, .int _ _, .int _ _, .int _ _, _, _, .int _ _, .int _ _]) rfl rfl rfl rfl (fun h => by cases h)) rfl ?_
  | refine s1w rfl (lop_box (t := 2) (v := .agg [.int _ _, .int _ _, .int _ _, .int _ _, .int _ _, _, _, .int _ _, .int _ _]) (f := false) (cs := [.int _ _, .int _ _, .int _ _, .int _ _, .int _ _, _, _, .int _ _, .int _ _]) rfl rfl rfl rfl (fun _ => rfl)) rfl ?_
 first
  | refine s1w rfl (lop_box (t := 3) (v := .agg [.int _ _, .int _ _, .int _ _, .int _ _, .int _ _, _, _, .int _ _, .int _ _]) (f := true) (cs := [.int _ _, .int _ _, .int _ _, .int _ _, .int _ _, _, _, .int _ _, .int _ _]) rfl rfl rfl rfl (fun h => by cases h)) rfl ?_
  | refine s1w rfl (lop_box (t := 3) (v := .agg [.int _ _, .int _ _, .int _ _, .int _ _, .int _ _, _, _, .int _ _, .int _ _]) (f := false) (cs := [.int _ _, .int _ _, .int _ _, .int _ _, .int _ _, _, _, .int _ _, .int _ _]) rfl rfl rfl rfl (fun _ => rfl)) rfl ?_
 refine s1 rfl (lop_assign (v := .bool _) rfl) ?_
 refine ops_nil ?_
 refine ok_reg ?_
 first
  | refine s1 rfl (lop_fieldAddr_rf (fo := 0) rfl Try.underlying50 rfl rfl Try.sizeOf3 (by decide)) ?_
  | refine s1 rfl (lop_fieldAddr_fp (fo := 0) rfl Try.underlying50 rfl rfl Try.sizeOf3 (by decide) rfl) ?_
 first
  | refine s1 rfl (lop_load_rf rfl rfl Try.isAgg3 rfl) ?_
  | refine s1 rfl (lop_load_fp rfl Try.isAgg3 rfl) ?_
 first
  | refine s1 rfl (lop_fieldAddr_rf (fo := 0) rfl Try.underlying50 rfl rfl Try.sizeOf3 (by decide)) ?_
  | refine s1 rfl (lop_fieldAddr_fp (fo := 0) rfl Try.underlying50 rfl rfl Try.sizeOf3 (by decide) rfl) ?_
 first
  | refine s1 rfl (lop_load_rf rfl rfl Try.isAgg3 rfl) ?_
  | refine s1 rfl (lop_load_fp rfl Try.isAgg3 rfl) ?_
 refine s1 rfl (lop_eql rfl rfl) ?_
 refine s1 rfl (lop_move (v := .bool _) rfl) ?_
 first
  | refine gsplitP 5 rfl rfl (fun g1_5 p1_5 => ?_) (fun g1_5 p1_5 => ?_)
  | refine gsplitB 5 rfl rfl (fun g1_5 p1_5 => ?_) (fun g1_5 p1_5 => ?_)
 ·first
   | refine y1 rfl rfl g1_5 rfl (lop_fieldAddr_rf (fo := 1) rfl Try.underlying50 rfl rfl Try.sizeOf3 (by decide)) ?_
   | refine y1 rfl rfl g1_5 rfl (lop_fieldAddr_fp (fo := 1) rfl Try.underlying50 rfl rfl Try.sizeOf3 (by decide) rfl) ?_
  first
   | refine y1 rfl rfl g1_5 rfl (lop_load_rf rfl rfl Try.isAgg3 rfl) ?_
   | refine y1 rfl rfl g1_5 rfl (lop_load_fp rfl Try.isAgg3 rfl) ?_
  first
   | refine y1 rfl rfl g1_5 rfl (lop_fieldAddr_rf (fo := 1) rfl Try.underlying50 rfl rfl Try.sizeOf3 (by decide)) ?_
   | refine y1 rfl rfl g1_5 rfl (lop_fieldAddr_fp (fo := 1) rfl Try.underlying50 rfl rfl Try.sizeOf3 (by decide) rfl) ?_
  first
   | refine y1 rfl rfl g1_5 rfl (lop_load_rf rfl rfl Try.isAgg3 rfl) ?_
   | refine y1 rfl rfl g1_5 rfl (lop_load_fp rfl Try.isAgg3 rfl) ?_
  refine y1 rfl rfl g1_5 rfl (lop_eql rfl rfl) ?_
  first
   | refine s1 rfl (lop_pick_t (v := .bool _) rfl g1_5 rfl) ?_
   | refine s1 rfl (lop_pick_t (v := .bool _) rfl rfl rfl) ?_
   | refine s1 rfl (lop_pick_f (v := .bool _) rfl rfl rfl) ?_
   | refine s1 rfl (lop_pick rfl rfl rfl) ?_
  refine s1 rfl (lop_move (v := .bool _) rfl) ?_
  first
   | refine gsplitP 12 rfl rfl (fun g1_12 p1_12 => ?_) (fun g1_12 p1_12 => ?_)
   | refine gsplitB 12 rfl rfl (fun g1_12 p1_12 => ?_) (fun g1_12 p1_12 => ?_)
  ·first
    | refine y1 rfl rfl g1_12 rfl (lop_fieldAddr_rf (fo := 2) rfl Try.underlying50 rfl rfl Try.sizeOf3 (by decide)) ?_
    | refine y1 rfl rfl g1_12 rfl (lop_fieldAddr_fp (fo := 2) rfl Try.underlying50 rfl rfl Try.sizeOf3 (by decide) rfl) ?_
   first
    | refine y1 rfl rfl g1_12 rfl (lop_load_rf rfl rfl Try.isAgg3 rfl) ?_
    | refine y1 rfl rfl g1_12 rfl (lop_load_fp rfl Try.isAgg3 rfl) ?_
   first
    | refine y1 rfl rfl g1_12 rfl (lop_fieldAddr_rf (fo := 2) rfl Try.underlying50 rfl rfl Try.sizeOf3 (by decide)) ?_
    | refine y1 rfl rfl g1_12 rfl (lop_fieldAddr_fp (fo := 2) rfl Try.underlying50 rfl rfl Try.sizeOf3 (by decide) rfl) ?_
   first
    | refine y1 rfl rfl g1_12 rfl (lop_load_rf rfl rfl Try.isAgg3 rfl) ?_
    | refine y1 rfl rfl g1_12 rfl (lop_load_fp rfl Try.isAgg3 rfl) ?_
   refine y1 rfl rfl g1_12 rfl (lop_eql rfl rfl) ?_
   first
    | refine s1 rfl (lop_pick_t (v := .bool _) rfl g1_5 rfl) ?_
    | refine s1 rfl (lop_pick_t (v := .bool _) rfl g1_12 rfl) ?_
    | refine s1 rfl (lop_pick_t (v := .bool _) rfl rfl rfl) ?_
    | refine s1 rfl (lop_pick_f (v := .bool _) rfl rfl rfl) ?_
    | refine s1 rfl (lop_pick rfl rfl rfl) ?_
   refine s1 rfl (lop_move (v := .bool _) rfl) ?_
   first
    | refine gsplitP 19 rfl rfl (fun g1_19 p1_19 => ?_) (fun g1_19 p1_19 => ?_)
    | refine gsplitB 19 rfl rfl (fun g1_19 p1_19 => ?_) (fun g1_19 p1_19 => ?_)
   ·first
     | refine y1 rfl rfl g1_19 rfl (lop_fieldAddr_rf (fo := 3) rfl Try.underlying50 rfl rfl Try.sizeOf3 (by decide)) ?_
     | refine y1 rfl rfl g1_19 rfl (lop_fieldAddr_fp (fo := 3) rfl Try.underlying50 rfl rfl Try.sizeOf3 (by decide) rfl) ?_
    first
     | refine y1 rfl rfl g1_19 rfl (lop_load_rf rfl rfl Try.isAgg3 rfl) ?_
     | refine y1 rfl rfl g1_19 rfl (lop_load_fp rfl Try.isAgg3 rfl) ?_
    first
     | refine y1 rfl rfl g1_19 rfl (lop_fieldAddr_rf (fo := 3) rfl Try.underlying50 rfl rfl Try.sizeOf3 (by decide)) ?_
     | refine y1 rfl rfl g1_19 rfl (lop_fieldAddr_fp (fo := 3) rfl Try.underlying50 rfl rfl Try.sizeOf3 (by decide) rfl) ?_
    first
     | refine y1 rfl rfl g1_19 rfl (lop_load_rf rfl rfl Try.isAgg3 rfl) ?_
     | refine y1 rfl rfl g1_19 rfl (lop_load_fp rfl Try.isAgg3 rfl) ?_
    refine y1 rfl rfl g1_19 rfl (lop_eql rfl rfl) ?_
    first
     | refine s1 rfl (lop_pick_t (v := .bool _) rfl g1_5 rfl) ?_
     | refine s1 rfl (lop_pick_t (v := .bool _) rfl g1_12 rfl) ?_
     | refine s1 rfl (lop_pick_t (v := .bool _) rfl g1_19 rfl) ?_
     | refine s1 rfl (lop_pick_t (v := .bool _) rfl rfl rfl) ?_
     | refine s1 rfl (lop_pick_f (v := .bool _) rfl rfl rfl) ?_
     | refine s1 rfl (lop_pick rfl rfl rfl) ?_
    refine s1 rfl (lop_move (v := .bool _) rfl) ?_
    first
     | refine gsplitP 26 rfl rfl (fun g1_26 p1_26 => ?_) (fun g1_26 p1_26 => ?_)
     | refine gsplitB 26 rfl rfl (fun g1_26 p1_26 => ?_) (fun g1_26 p1_26 => ?_)
    ·first
      | refine y1 rfl rfl g1_26 rfl (lop_fieldAddr_rf (fo := 4) rfl Try.underlying50 rfl rfl Try.sizeOf3 (by decide)) ?_
      | refine y1 rfl rfl g1_26 rfl (lop_fieldAddr_fp (fo := 4) rfl Try.underlying50 rfl rfl Try.sizeOf3 (by decide) rfl) ?_
     first
      | refine y1 rfl rfl g1_26 rfl (lop_load_rf rfl rfl Try.isAgg3 rfl) ?_
      | refine y1 rfl rfl g1_26 rfl (lop_load_fp rfl Try.isAgg3 rfl) ?_
     first
      | refine y1 rfl rfl g1_26 rfl (lop_fieldAddr_rf (fo := 4) rfl Try.underlying50 rfl rfl Try.sizeOf3 (by decide)) ?_
      | refine y1 rfl rfl g1_26 rfl (lop_fieldAddr_fp (fo := 4) rfl Try.underlying50 rfl rfl Try.sizeOf3 (by decide) rfl) ?_
     first
      | refine y1 rfl rfl g1_26 rfl (lop_load_rf rfl rfl Try.isAgg3 rfl) ?_
      | refine y1 rfl rfl g1_26 rfl (lop_load_fp rfl Try.isAgg3 rfl) ?_
     refine y1 rfl rfl g1_26 rfl (lop_eql rfl rfl) ?_
     first
      | refine s1 rfl (lop_pick_t (v := .bool _) rfl g1_5 rfl) ?_
      | refine s1 rfl (lop_pick_t (v := .bool _) rfl g1_12 rfl) ?_
      | refine s1 rfl (lop_pick_t (v := .bool _) rfl g1_19 rfl) ?_
      | refine s1 rfl (lop_pick_t (v := .bool _) rfl g1_26 rfl) ?_
      | refine s1 rfl (lop_pick_t (v := .bool _) rfl rfl rfl) ?_
      | refine s1 rfl (lop_pick_f (v := .bool _) rfl rfl rfl) ?_
      | refine s1 rfl (lop_pick rfl rfl rfl) ?_
     refine s1 rfl (lop_move (v := .bool _) rfl) ?_
     first
      | refine gsplitP 33 rfl rfl (fun g1_33 p1_33 => ?_) (fun g1_33 p1_33 => ?_)
      | refine gsplitB 33 rfl rfl (fun g1_33 p1_33 => ?_) (fun g1_33 p1_33 => ?_)
     ·first
       | refine y1 rfl rfl g1_33 rfl (lop_fieldAddr_rf (fo := 5) rfl Try.underlying50 rfl rfl Try.sizeOf48 (by decide)) ?_
       | refine y1 rfl rfl g1_33 rfl (lop_fieldAddr_fp (fo := 5) rfl Try.underlying50 rfl rfl Try.sizeOf48 (by decide) rfl) ?_
      first
       | refine y1 rfl rfl g1_33 rfl (lop_load_rf rfl rfl Try.isAgg48 rfl) ?_
       | refine y1 rfl rfl g1_33 rfl (lop_load_fp rfl Try.isAgg48 rfl) ?_
      first
       | refine y1 rfl rfl g1_33 rfl (lop_fieldAddr_rf (fo := 5) rfl Try.underlying50 rfl rfl Try.sizeOf48 (by decide)) ?_
       | refine y1 rfl rfl g1_33 rfl (lop_fieldAddr_fp (fo := 5) rfl Try.underlying50 rfl rfl Try.sizeOf48 (by decide) rfl) ?_
      first
       | refine y1 rfl rfl g1_33 rfl (lop_load_rf rfl rfl Try.isAgg48 rfl) ?_
       | refine y1 rfl rfl g1_33 rfl (lop_load_fp rfl Try.isAgg48 rfl) ?_
      refine y1 rfl rfl g1_33 rfl (lop_call rfl Try.call57 (FrzL.tf rfl) (.inl rfl) (equal_Span_ac (l := a.parts) (m := b.parts) hq)) ?_
      first
       | refine s1 rfl (lop_pick_t (v := .bool _) rfl g1_5 rfl) ?_
       | refine s1 rfl (lop_pick_t (v := .bool _) rfl g1_12 rfl) ?_
       | refine s1 rfl (lop_pick_t (v := .bool _) rfl g1_19 rfl) ?_
       | refine s1 rfl (lop_pick_t (v := .bool _) rfl g1_26 rfl) ?_
       | refine s1 rfl (lop_pick_t (v := .bool _) rfl g1_33 rfl) ?_
       | refine s1 rfl (lop_pick_t (v := .bool _) rfl rfl rfl) ?_
       | refine s1 rfl (lop_pick_f (v := .bool _) rfl rfl rfl) ?_
       | refine s1 rfl (lop_pick rfl rfl rfl) ?_
      refine s1 rfl (lop_move (v := .bool _) rfl) ?_
      first
       | refine gsplitP 40 rfl rfl (fun g1_40 p1_40 => ?_) (fun g1_40 p1_40 => ?_)
       | refine gsplitB 40 rfl rfl (fun g1_40 p1_40 => ?_) (fun g1_40 p1_40 => ?_)
      ·first
        | refine y1 rfl rfl g1_40 rfl (lop_fieldAddr_rf (fo := 6) rfl Try.underlying50 rfl rfl Try.sizeOf28 (by decide)) ?_
        | refine y1 rfl rfl g1_40 rfl (lop_fieldAddr_fp (fo := 6) rfl Try.underlying50 rfl rfl Try.sizeOf28 (by decide) rfl) ?_
       first
        | refine y1 rfl rfl g1_40 rfl (lop_load_rf rfl rfl Try.isAgg28 rfl) ?_
        | refine y1 rfl rfl g1_40 rfl (lop_load_fp rfl Try.isAgg28 rfl) ?_
       first
        | refine y1 rfl rfl g1_40 rfl (lop_fieldAddr_rf (fo := 6) rfl Try.underlying50 rfl rfl Try.sizeOf28 (by decide)) ?_
        | refine y1 rfl rfl g1_40 rfl (lop_fieldAddr_fp (fo := 6) rfl Try.underlying50 rfl rfl Try.sizeOf28 (by decide) rfl) ?_
       first
        | refine y1 rfl rfl g1_40 rfl (lop_load_rf rfl rfl Try.isAgg28 rfl) ?_
        | refine y1 rfl rfl g1_40 rfl (lop_load_fp rfl Try.isAgg28 rfl) ?_
       refine y1 rfl rfl g1_40 rfl (lop_call rfl Try.call58 (FrzL.tf rfl) (.inl rfl) (equal_Place_ac (l := a.places) (m := b.places) hp)) ?_
       first
        | refine s1 rfl (lop_pick_t (v := .bool _) rfl g1_5 rfl) ?_
        | refine s1 rfl (lop_pick_t (v := .bool _) rfl g1_12 rfl) ?_
        | refine s1 rfl (lop_pick_t (v := .bool _) rfl g1_19 rfl) ?_
        | refine s1 rfl (lop_pick_t (v := .bool _) rfl g1_26 rfl) ?_
        | refine s1 rfl (lop_pick_t (v := .bool _) rfl g1_33 rfl) ?_
        | refine s1 rfl (lop_pick_t (v := .bool _) rfl g1_40 rfl) ?_
        | refine s1 rfl (lop_pick_t (v := .bool _) rfl rfl rfl) ?_
        | refine s1 rfl (lop_pick_f (v := .bool _) rfl rfl rfl) ?_
        | refine s1 rfl (lop_pick rfl rfl rfl) ?_
       refine s1 rfl (lop_move (v := .bool _) rfl) ?_
       first
        | refine gsplitP 47 rfl rfl (fun g1_47 p1_47 => ?_) (fun g1_47 p1_47 => ?_)
        | refine gsplitB 47 rfl rfl (fun g1_47 p1_47 => ?_) (fun g1_47 p1_47 => ?_)
       ·first
         | refine y1 rfl rfl g1_47 rfl (lop_fieldAddr_rf (fo := 7) rfl Try.underlying50 rfl rfl Try.sizeOf3 (by decide)) ?_
         | refine y1 rfl rfl g1_47 rfl (lop_fieldAddr_fp (fo := 7) rfl Try.underlying50 rfl rfl Try.sizeOf3 (by decide) rfl) ?_
        first
         | refine y1 rfl rfl g1_47 rfl (lop_load_rf rfl rfl Try.isAgg3 rfl) ?_
         | refine y1 rfl rfl g1_47 rfl (lop_load_fp rfl Try.isAgg3 rfl) ?_
        first
         | refine y1 rfl rfl g1_47 rfl (lop_fieldAddr_rf (fo := 7) rfl Try.underlying50 rfl rfl Try.sizeOf3 (by decide)) ?_
         | refine y1 rfl rfl g1_47 rfl (lop_fieldAddr_fp (fo := 7) rfl Try.underlying50 rfl rfl Try.sizeOf3 (by decide) rfl) ?_
        first
         | refine y1 rfl rfl g1_47 rfl (lop_load_rf rfl rfl Try.isAgg3 rfl) ?_
         | refine y1 rfl rfl g1_47 rfl (lop_load_fp rfl Try.isAgg3 rfl) ?_
        refine y1 rfl rfl g1_47 rfl (lop_eql rfl rfl) ?_
        first
         | refine s1 rfl (lop_pick_t (v := .bool _) rfl g1_5 rfl) ?_
         | refine s1 rfl (lop_pick_t (v := .bool _) rfl g1_12 rfl) ?_
         | refine s1 rfl (lop_pick_t (v := .bool _) rfl g1_19 rfl) ?_
         | refine s1 rfl (lop_pick_t (v := .bool _) rfl g1_26 rfl) ?_
         | refine s1 rfl (lop_pick_t (v := .bool _) rfl g1_33 rfl) ?_
         | refine s1 rfl (lop_pick_t (v := .bool _) rfl g1_40 rfl) ?_
         | refine s1 rfl (lop_pick_t (v := .bool _) rfl g1_47 rfl) ?_
         | refine s1 rfl (lop_pick_t (v := .bool _) rfl rfl rfl) ?_
         | refine s1 rfl (lop_pick_f (v := .bool _) rfl rfl rfl) ?_
         | refine s1 rfl (lop_pick rfl rfl rfl) ?_
        refine s1 rfl (lop_move (v := .bool _) rfl) ?_
        first
         | refine gsplitP 54 rfl rfl (fun g1_54 p1_54 => ?_) (fun g1_54 p1_54 => ?_)
         | refine gsplitB 54 rfl rfl (fun g1_54 p1_54 => ?_) (fun g1_54 p1_54 => ?_)
        ·first
          | refine y1 rfl rfl g1_54 rfl (lop_fieldAddr_rf (fo := 8) rfl Try.underlying50 rfl rfl Try.sizeOf3 (by decide)) ?_
          | refine y1 rfl rfl g1_54 rfl (lop_fieldAddr_fp (fo := 8) rfl Try.underlying50 rfl rfl Try.sizeOf3 (by decide) rfl) ?_
         first
          | refine y1 rfl rfl g1_54 rfl (lop_load_rf rfl rfl Try.isAgg3 rfl) ?_
          | refine y1 rfl rfl g1_54 rfl (lop_load_fp rfl Try.isAgg3 rfl) ?_
         first
          | refine y1 rfl rfl g1_54 rfl (lop_fieldAddr_rf (fo := 8) rfl Try.underlying50 rfl rfl Try.sizeOf3 (by decide)) ?_
          | refine y1 rfl rfl g1_54 rfl (lop_fieldAddr_fp (fo := 8) rfl Try.underlying50 rfl rfl Try.sizeOf3 (by decide) rfl) ?_
         first
          | refine y1 rfl rfl g1_54 rfl (lop_load_rf rfl rfl Try.isAgg3 rfl) ?_
          | refine y1 rfl rfl g1_54 rfl (lop_load_fp rfl Try.isAgg3 rfl) ?_
         refine y1 rfl rfl g1_54 rfl (lop_eql rfl rfl) ?_
         first
          | refine s1 rfl (lop_pick_t (v := .bool _) rfl g1_5 rfl) ?_
          | refine s1 rfl (lop_pick_t (v := .bool _) rfl g1_12 rfl) ?_
          | refine s1 rfl (lop_pick_t (v := .bool _) rfl g1_19 rfl) ?_
          | refine s1 rfl (lop_pick_t (v := .bool _) rfl g1_26 rfl) ?_
          | refine s1 rfl (lop_pick_t (v := .bool _) rfl g1_33 rfl) ?_
          | refine s1 rfl (lop_pick_t (v := .bool _) rfl g1_40 rfl) ?_
          | refine s1 rfl (lop_pick_t (v := .bool _) rfl g1_47 rfl) ?_
          | refine s1 rfl (lop_pick_t (v := .bool _) rfl g1_54 rfl) ?_
          | refine s1 rfl (lop_pick_t (v := .bool _) rfl rfl rfl) ?_
          | refine s1 rfl (lop_pick_f (v := .bool _) rfl rfl rfl) ?_
          | refine s1 rfl (lop_pick rfl rfl rfl) ?_
         refine s1 rfl (lop_assign (v := .bool _) rfl) ?_
         refine ops_nil ?_
         refine ok_ret ?_
         exact ret_one rfl rfl rfl rfl (congrArg V.bool (by first | (refine decide_eq_decide.2 ?_; rw [VolD.eq_iff]; simp_all) | (refine (decide_eq_false ?_).symm; rintro rfl; simp_all)))
        ·refine n1 rfl rfl g1_54 ?_
         refine n1 rfl rfl g1_54 ?_
         refine n1 rfl rfl g1_54 ?_
         refine n1 rfl rfl g1_54 ?_
         refine n1 rfl rfl g1_54 ?_
         first
          | refine s1 rfl (lop_pick_t (v := .bool _) rfl g1_5 rfl) ?_
          | refine s1 rfl (lop_pick_t (v := .bool _) rfl g1_12 rfl) ?_
          | refine s1 rfl (lop_pick_t (v := .bool _) rfl g1_19 rfl) ?_
          | refine s1 rfl (lop_pick_t (v := .bool _) rfl g1_26 rfl) ?_
          | refine s1 rfl (lop_pick_t (v := .bool _) rfl g1_33 rfl) ?_
          | refine s1 rfl (lop_pick_t (v := .bool _) rfl g1_40 rfl) ?_
          | refine s1 rfl (lop_pick_t (v := .bool _) rfl g1_47 rfl) ?_
          | refine s1 rfl (lop_pick_f (v := .bool _) rfl g1_54 rfl) ?_
          | refine s1 rfl (lop_pick_t (v := .bool _) rfl rfl rfl) ?_
          | refine s1 rfl (lop_pick_f (v := .bool _) rfl rfl rfl) ?_
          | refine s1 rfl (lop_pick rfl rfl rfl) ?_
         refine s1 rfl (lop_assign (v := .bool _) rfl) ?_
         refine ops_nil ?_
         refine ok_ret ?_
         exact ret_one rfl rfl rfl rfl (congrArg V.bool (by first | (refine decide_eq_decide.2 ?_; rw [VolD.eq_iff]; simp_all) | (refine (decide_eq_false ?_).symm; rintro rfl; simp_all)))
       ·refine n1 rfl rfl g1_47 ?_
        refine n1 rfl rfl g1_47 ?_
        refine n1 rfl rfl g1_47 ?_
        refine n1 rfl rfl g1_47 ?_
        refine n1 rfl rfl g1_47 ?_
        first
         | refine s1 rfl (lop_pick_t (v := .bool _) rfl g1_5 rfl) ?_
         | refine s1 rfl (lop_pick_t (v := .bool _) rfl g1_12 rfl) ?_
         | refine s1 rfl (lop_pick_t (v := .bool _) rfl g1_19 rfl) ?_
         | refine s1 rfl (lop_pick_t (v := .bool _) rfl g1_26 rfl) ?_
         | refine s1 rfl (lop_pick_t (v := .bool _) rfl g1_33 rfl) ?_
         | refine s1 rfl (lop_pick_t (v := .bool _) rfl g1_40 rfl) ?_
         | refine s1 rfl (lop_pick_f (v := .bool _) rfl g1_47 rfl) ?_
         | refine s1 rfl (lop_pick_t (v := .bool _) rfl rfl rfl) ?_
         | refine s1 rfl (lop_pick_f (v := .bool _) rfl rfl rfl) ?_
         | refine s1 rfl (lop_pick rfl rfl rfl) ?_
        refine s1 rfl (lop_move (v := .bool _) rfl) ?_
        refine n1 rfl rfl rfl ?_
        refine n1 rfl rfl rfl ?_
        refine n1 rfl rfl rfl ?_
        refine n1 rfl rfl rfl ?_
        refine n1 rfl rfl rfl ?_
        first
         | refine s1 rfl (lop_pick_t (v := .bool _) rfl g1_5 rfl) ?_
         | refine s1 rfl (lop_pick_t (v := .bool _) rfl g1_12 rfl) ?_
         | refine s1 rfl (lop_pick_t (v := .bool _) rfl g1_19 rfl) ?_
         | refine s1 rfl (lop_pick_t (v := .bool _) rfl g1_26 rfl) ?_
         | refine s1 rfl (lop_pick_t (v := .bool _) rfl g1_33 rfl) ?_
         | refine s1 rfl (lop_pick_t (v := .bool _) rfl g1_40 rfl) ?_
         | refine s1 rfl (lop_pick_f (v := .bool _) rfl g1_47 rfl) ?_
         | refine s1 rfl (lop_pick_f (v := .bool _) rfl rfl rfl) ?_
         | refine s1 rfl (lop_pick_t (v := .bool _) rfl rfl rfl) ?_
         | refine s1 rfl (lop_pick_f (v := .bool _) rfl rfl rfl) ?_
         | refine s1 rfl (lop_pick rfl rfl rfl) ?_
        refine s1 rfl (lop_assign (v := .bool _) rfl) ?_
        refine ops_nil ?_
        refine ok_ret ?_
        exact ret_one rfl rfl rfl rfl (congrArg V.bool (by first | (refine decide_eq_decide.2 ?_; rw [VolD.eq_iff]; simp_all) | (refine (decide_eq_false ?_).symm; rintro rfl; simp_all)))
      ·refine n1 rfl rfl g1_40 ?_
       refine n1 rfl rfl g1_40 ?_
       refine n1 rfl rfl g1_40 ?_
       refine n1 rfl rfl g1_40 ?_
       refine n1 rfl rfl g1_40 ?_
       first
        | refine s1 rfl (lop_pick_t (v := .bool _) rfl g1_5 rfl) ?_
        | refine s1 rfl (lop_pick_t (v := .bool _) rfl g1_12 rfl) ?_
        | refine s1 rfl (lop_pick_t (v := .bool _) rfl g1_19 rfl) ?_
        | refine s1 rfl (lop_pick_t (v := .bool _) rfl g1_26 rfl) ?_
        | refine s1 rfl (lop_pick_t (v := .bool _) rfl g1_33 rfl) ?_
        | refine s1 rfl (lop_pick_f (v := .bool _) rfl g1_40 rfl) ?_
        | refine s1 rfl (lop_pick_t (v := .bool _) rfl rfl rfl) ?_
        | refine s1 rfl (lop_pick_f (v := .bool _) rfl rfl rfl) ?_
        | refine s1 rfl (lop_pick rfl rfl rfl) ?_
       refine s1 rfl (lop_move (v := .bool _) rfl) ?_
       refine n1 rfl rfl rfl ?_
       refine n1 rfl rfl rfl ?_
       refine n1 rfl rfl rfl ?_
       refine n1 rfl rfl rfl ?_
       refine n1 rfl rfl rfl ?_
       first
        | refine s1 rfl (lop_pick_t (v := .bool _) rfl g1_5 rfl) ?_
        | refine s1 rfl (lop_pick_t (v := .bool _) rfl g1_12 rfl) ?_
        | refine s1 rfl (lop_pick_t (v := .bool _) rfl g1_19 rfl) ?_
        | refine s1 rfl (lop_pick_t (v := .bool _) rfl g1_26 rfl) ?_
        | refine s1 rfl (lop_pick_t (v := .bool _) rfl g1_33 rfl) ?_
        | refine s1 rfl (lop_pick_f (v := .bool _) rfl g1_40 rfl) ?_
        | refine s1 rfl (lop_pick_f (v := .bool _) rfl rfl rfl) ?_
        | refine s1 rfl (lop_pick_t (v := .bool _) rfl rfl rfl) ?_
        | refine s1 rfl (lop_pick_f (v := .bool _) rfl rfl rfl) ?_
        | refine s1 rfl (lop_pick rfl rfl rfl) ?_
       refine s1 rfl (lop_move (v := .bool _) rfl) ?_
       refine n1 rfl rfl rfl ?_
       refine n1 rfl rfl rfl ?_
       refine n1 rfl rfl rfl ?_
       refine n1 rfl rfl rfl ?_
       refine n1 rfl rfl rfl ?_
       first
        | refine s1 rfl (lop_pick_t (v := .bool _) rfl g1_5 rfl) ?_
        | refine s1 rfl (lop_pick_t (v := .bool _) rfl g1_12 rfl) ?_
        | refine s1 rfl (lop_pick_t (v := .bool _) rfl g1_19 rfl) ?_
        | refine s1 rfl (lop_pick_t (v := .bool _) rfl g1_26 rfl) ?_
        | refine s1 rfl (lop_pick_t (v := .bool _) rfl g1_33 rfl) ?_
        | refine s1 rfl (lop_pick_f (v := .bool _) rfl g1_40 rfl) ?_
        | refine s1 rfl (lop_pick_f (v := .bool _) rfl rfl rfl) ?_
        | refine s1 rfl (lop_pick_f (v := .bool _) rfl rfl rfl) ?_
        | refine s1 rfl (lop_pick_t (v := .bool _) rfl rfl rfl) ?_
        | refine s1 rfl (lop_pick_f (v := .bool _) rfl rfl rfl) ?_
        | refine s1 rfl (lop_pick rfl rfl rfl) ?_
       refine s1 rfl (lop_assign (v := .bool _) rfl) ?_
       refine ops_nil ?_
       refine ok_ret ?_
       exact ret_one rfl rfl rfl rfl (congrArg V.bool (by first | (refine decide_eq_decide.2 ?_; rw [VolD.eq_iff]; simp_all) | (refine (decide_eq_false ?_).symm; rintro rfl; simp_all)))
     ·refine n1 rfl rfl g1_33 ?_
      refine n1 rfl rfl g1_33 ?_
      refine n1 rfl rfl g1_33 ?_
      refine n1 rfl rfl g1_33 ?_
      refine n1 rfl rfl g1_33 ?_
      first
       | refine s1 rfl (lop_pick_t (v := .bool _) rfl g1_5 rfl) ?_
       | refine s1 rfl (lop_pick_t (v := .bool _) rfl g1_12 rfl) ?_
       | refine s1 rfl (lop_pick_t (v := .bool _) rfl g1_19 rfl) ?_
       | refine s1 rfl (lop_pick_t (v := .bool _) rfl g1_26 rfl) ?_
       | refine s1 rfl (lop_pick_f (v := .bool _) rfl g1_33 rfl) ?_
       | refine s1 rfl (lop_pick_t (v := .bool _) rfl rfl rfl) ?_
       | refine s1 rfl (lop_pick_f (v := .bool _) rfl rfl rfl) ?_
       | refine s1 rfl (lop_pick rfl rfl rfl) ?_
      refine s1 rfl (lop_move (v := .bool _) rfl) ?_
      refine n1 rfl rfl rfl ?_
      refine n1 rfl rfl rfl ?_
      refine n1 rfl rfl rfl ?_
      refine n1 rfl rfl rfl ?_
      refine n1 rfl rfl rfl ?_
      first
       | refine s1 rfl (lop_pick_t (v := .bool _) rfl g1_5 rfl) ?_
       | refine s1 rfl (lop_pick_t (v := .bool _) rfl g1_12 rfl) ?_
       | refine s1 rfl (lop_pick_t (v := .bool _) rfl g1_19 rfl) ?_
       | refine s1 rfl (lop_pick_t (v := .bool _) rfl g1_26 rfl) ?_
       | refine s1 rfl (lop_pick_f (v := .bool _) rfl g1_33 rfl) ?_
       | refine s1 rfl (lop_pick_f (v := .bool _) rfl rfl rfl) ?_
       | refine s1 rfl (lop_pick_t (v := .bool _) rfl rfl rfl) ?_
       | refine s1 rfl (lop_pick_f (v := .bool _) rfl rfl rfl) ?_
       | refine s1 rfl (lop_pick rfl rfl rfl) ?_
      refine s1 rfl (lop_move (v := .bool _) rfl) ?_
      refine n1 rfl rfl rfl ?_
      refine n1 rfl rfl rfl ?_
      refine n1 rfl rfl rfl ?_
      refine n1 rfl rfl rfl ?_
      refine n1 rfl rfl rfl ?_
      first
       | refine s1 rfl (lop_pick_t (v := .bool _) rfl g1_5 rfl) ?_
       | refine s1 rfl (lop_pick_t (v := .bool _) rfl g1_12 rfl) ?_
       | refine s1 rfl (lop_pick_t (v := .bool _) rfl g1_19 rfl) ?_
       | refine s1 rfl (lop_pick_t (v := .bool _) rfl g1_26 rfl) ?_
       | refine s1 rfl (lop_pick_f (v := .bool _) rfl g1_33 rfl) ?_
       | refine s1 rfl (lop_pick_f (v := .bool _) rfl rfl rfl) ?_
       | refine s1 rfl (lop_pick_f (v := .bool _) rfl rfl rfl) ?_
       | refine s1 rfl (lop_pick_t (v := .bool _) rfl rfl rfl) ?_
       | refine s1 rfl (lop_pick_f (v := .bool _) rfl rfl rfl) ?_
       | refine s1 rfl (lop_pick rfl rfl rfl) ?_
      refine s1 rfl (lop_move (v := .bool _) rfl) ?_
      refine n1 rfl rfl rfl ?_
      refine n1 rfl rfl rfl ?_
      refine n1 rfl rfl rfl ?_
      refine n1 rfl rfl rfl ?_
      refine n1 rfl rfl rfl ?_
      first
       | refine s1 rfl (lop_pick_t (v := .bool _) rfl g1_5 rfl) ?_
       | refine s1 rfl (lop_pick_t (v := .bool _) rfl g1_12 rfl) ?_
       | refine s1 rfl (lop_pick_t (v := .bool _) rfl g1_19 rfl) ?_
       | refine s1 rfl (lop_pick_t (v := .bool _) rfl g1_26 rfl) ?_
       | refine s1 rfl (lop_pick_f (v := .bool _) rfl g1_33 rfl) ?_
       | refine s1 rfl (lop_pick_f (v := .bool _) rfl rfl rfl) ?_
       | refine s1 rfl (lop_pick_f (v := .bool _) rfl rfl rfl) ?_
       | refine s1 rfl (lop_pick_f (v := .bool _) rfl rfl rfl) ?_
       | refine s1 rfl (lop_pick_t (v := .bool _) rfl rfl rfl) ?_
       | refine s1 rfl (lop_pick_f (v := .bool _) rfl rfl rfl) ?_
       | refine s1 rfl (lop_pick rfl rfl rfl) ?_
      refine s1 rfl (lop_assign (v := .bool _) rfl) ?_
      refine ops_nil ?_
      refine ok_ret ?_
      exact ret_one rfl rfl rfl rfl (congrArg V.bool (by first | (refine decide_eq_decide.2 ?_; rw [VolD.eq_iff]; simp_all) | (refine (decide_eq_false ?_).symm; rintro rfl; simp_all)))
    ·refine n1 rfl rfl g1_26 ?_
     refine n1 rfl rfl g1_26 ?_
     refine n1 rfl rfl g1_26 ?_
     refine n1 rfl rfl g1_26 ?_
     refine n1 rfl rfl g1_26 ?_
     first
      | refine s1 rfl (lop_pick_t (v := .bool _) rfl g1_5 rfl) ?_
      | refine s1 rfl (lop_pick_t (v := .bool _) rfl g1_12 rfl) ?_
      | refine s1 rfl (lop_pick_t (v := .bool _) rfl g1_19 rfl) ?_
      | refine s1 rfl (lop_pick_f (v := .bool _) rfl g1_26 rfl) ?_
      | refine s1 rfl (lop_pick_t (v := .bool _) rfl rfl rfl) ?_
      | refine s1 rfl (lop_pick_f (v := .bool _) rfl rfl rfl) ?_
      | refine s1 rfl (lop_pick rfl rfl rfl) ?_
     refine s1 rfl (lop_move (v := .bool _) rfl) ?_
     refine n1 rfl rfl rfl ?_
     refine n1 rfl rfl rfl ?_
     refine n1 rfl rfl rfl ?_
     refine n1 rfl rfl rfl ?_
     refine n1 rfl rfl rfl ?_
     first
      | refine s1 rfl (lop_pick_t (v := .bool _) rfl g1_5 rfl) ?_
      | refine s1 rfl (lop_pick_t (v := .bool _) rfl g1_12 rfl) ?_
      | refine s1 rfl (lop_pick_t (v := .bool _) rfl g1_19 rfl) ?_
      | refine s1 rfl (lop_pick_f (v := .bool _) rfl g1_26 rfl) ?_
      | refine s1 rfl (lop_pick_f (v := .bool _) rfl rfl rfl) ?_
      | refine s1 rfl (lop_pick_t (v := .bool _) rfl rfl rfl) ?_
      | refine s1 rfl (lop_pick_f (v := .bool _) rfl rfl rfl) ?_
      | refine s1 rfl (lop_pick rfl rfl rfl) ?_
     refine s1 rfl (lop_move (v := .bool _) rfl) ?_
     refine n1 rfl rfl rfl ?_
     refine n1 rfl rfl rfl ?_
     refine n1 rfl rfl rfl ?_
     refine n1 rfl rfl rfl ?_
     refine n1 rfl rfl rfl ?_
     first
      | refine s1 rfl (lop_pick_t (v := .bool _) rfl g1_5 rfl) ?_
      | refine s1 rfl (lop_pick_t (v := .bool _) rfl g1_12 rfl) ?_
      | refine s1 rfl (lop_pick_t (v := .bool _) rfl g1_19 rfl) ?_
      | refine s1 rfl (lop_pick_f (v := .bool _) rfl g1_26 rfl) ?_
      | refine s1 rfl (lop_pick_f (v := .bool _) rfl rfl rfl) ?_
      | refine s1 rfl (lop_pick_f (v := .bool _) rfl rfl rfl) ?_
      | refine s1 rfl (lop_pick_t (v := .bool _) rfl rfl rfl) ?_
      | refine s1 rfl (lop_pick_f (v := .bool _) rfl rfl rfl) ?_
      | refine s1 rfl (lop_pick rfl rfl rfl) ?_
     refine s1 rfl (lop_move (v := .bool _) rfl) ?_
     refine n1 rfl rfl rfl ?_
     refine n1 rfl rfl rfl ?_
     refine n1 rfl rfl rfl ?_
     refine n1 rfl rfl rfl ?_
     refine n1 rfl rfl rfl ?_
     first
      | refine s1 rfl (lop_pick_t (v := .bool _) rfl g1_5 rfl) ?_
      | refine s1 rfl (lop_pick_t (v := .bool _) rfl g1_12 rfl) ?_
      | refine s1 rfl (lop_pick_t (v := .bool _) rfl g1_19 rfl) ?_
      | refine s1 rfl (lop_pick_f (v := .bool _) rfl g1_26 rfl) ?_
      | refine s1 rfl (lop_pick_f (v := .bool _) rfl rfl rfl) ?_
      | refine s1 rfl (lop_pick_f (v := .bool _) rfl rfl rfl) ?_
      | refine s1 rfl (lop_pick_f (v := .bool _) rfl rfl rfl) ?_
      | refine s1 rfl (lop_pick_t (v := .bool _) rfl rfl rfl) ?_
      | refine s1 rfl (lop_pick_f (v := .bool _) rfl rfl rfl) ?_
      | refine s1 rfl (lop_pick rfl rfl rfl) ?_
     refine s1 rfl (lop_move (v := .bool _) rfl) ?_
     refine n1 rfl rfl rfl ?_
     refine n1 rfl rfl rfl ?_
     refine n1 rfl rfl rfl ?_
     refine n1 rfl rfl rfl ?_
     refine n1 rfl rfl rfl ?_
     first
      | refine s1 rfl (lop_pick_t (v := .bool _) rfl g1_5 rfl) ?_
      | refine s1 rfl (lop_pick_t (v := .bool _) rfl g1_12 rfl) ?_
      | refine s1 rfl (lop_pick_t (v := .bool _) rfl g1_19 rfl) ?_
      | refine s1 rfl (lop_pick_f (v := .bool _) rfl g1_26 rfl) ?_
      | refine s1 rfl (lop_pick_f (v := .bool _) rfl rfl rfl) ?_
      | refine s1 rfl (lop_pick_f (v := .bool _) rfl rfl rfl) ?_
      | refine s1 rfl (lop_pick_f (v := .bool _) rfl rfl rfl) ?_
      | refine s1 rfl (lop_pick_f (v := .bool _) rfl rfl rfl) ?_
      | refine s1 rfl (lop_pick_t (v := .bool _) rfl rfl rfl) ?_
      | refine s1 rfl (lop_pick_f (v := .bool _) rfl rfl rfl) ?_
      | refine s1 rfl (lop_pick rfl rfl rfl) ?_
     refine s1 rfl (lop_assign (v := .bool _) rfl) ?_
     refine ops_nil ?_
     refine ok_ret ?_
     exact ret_one rfl rfl rfl rfl (congrArg V.bool (by first | (refine decide_eq_decide.2 ?_; rw [VolD.eq_iff]; simp_all) | (refine (decide_eq_false ?_).symm; rintro rfl; simp_all)))
   ·refine n1 rfl rfl g1_19 ?_
    refine n1 rfl rfl g1_19 ?_
    refine n1 rfl rfl g1_19 ?_
    refine n1 rfl rfl g1_19 ?_
    refine n1 rfl rfl g1_19 ?_
    first
     | refine s1 rfl (lop_pick_t (v := .bool _) rfl g1_5 rfl) ?_
     | refine s1 rfl (lop_pick_t (v := .bool _) rfl g1_12 rfl) ?_
     | refine s1 rfl (lop_pick_f (v := .bool _) rfl g1_19 rfl) ?_
     | refine s1 rfl (lop_pick_t (v := .bool _) rfl rfl rfl) ?_
     | refine s1 rfl (lop_pick_f (v := .bool _) rfl rfl rfl) ?_
     | refine s1 rfl (lop_pick rfl rfl rfl) ?_
    refine s1 rfl (lop_move (v := .bool _) rfl) ?_
    refine n1 rfl rfl rfl ?_
    refine n1 rfl rfl rfl ?_
    refine n1 rfl rfl rfl ?_
    refine n1 rfl rfl rfl ?_
    refine n1 rfl rfl rfl ?_
    first
     | refine s1 rfl (lop_pick_t (v := .bool _) rfl g1_5 rfl) ?_
     | refine s1 rfl (lop_pick_t (v := .bool _) rfl g1_12 rfl) ?_
     | refine s1 rfl (lop_pick_f (v := .bool _) rfl g1_19 rfl) ?_
     | refine s1 rfl (lop_pick_f (v := .bool _) rfl rfl rfl) ?_
     | refine s1 rfl (lop_pick_t (v := .bool _) rfl rfl rfl) ?_
     | refine s1 rfl (lop_pick_f (v := .bool _) rfl rfl rfl) ?_
     | refine s1 rfl (lop_pick rfl rfl rfl) ?_
    refine s1 rfl (lop_move (v := .bool _) rfl) ?_
    refine n1 rfl rfl rfl ?_
    refine n1 rfl rfl rfl ?_
    refine n1 rfl rfl rfl ?_
    refine n1 rfl rfl rfl ?_
    refine n1 rfl rfl rfl ?_
    first
     | refine s1 rfl (lop_pick_t (v := .bool _) rfl g1_5 rfl) ?_
     | refine s1 rfl (lop_pick_t (v := .bool _) rfl g1_12 rfl) ?_
     | refine s1 rfl (lop_pick_f (v := .bool _) rfl g1_19 rfl) ?_
     | refine s1 rfl (lop_pick_f (v := .bool _) rfl rfl rfl) ?_
     | refine s1 rfl (lop_pick_f (v := .bool _) rfl rfl rfl) ?_
     | refine s1 rfl (lop_pick_t (v := .bool _) rfl rfl rfl) ?_
     | refine s1 rfl (lop_pick_f (v := .bool _) rfl rfl rfl) ?_
     | refine s1 rfl (lop_pick rfl rfl rfl) ?_
    refine s1 rfl (lop_move (v := .bool _) rfl) ?_
    refine n1 rfl rfl rfl ?_
    refine n1 rfl rfl rfl ?_
    refine n1 rfl rfl rfl ?_
    refine n1 rfl rfl rfl ?_
    refine n1 rfl rfl rfl ?_
    first
     | refine s1 rfl (lop_pick_t (v := .bool _) rfl g1_5 rfl) ?_
     | refine s1 rfl (lop_pick_t (v := .bool _) rfl g1_12 rfl) ?_
     | refine s1 rfl (lop_pick_f (v := .bool _) rfl g1_19 rfl) ?_
     | refine s1 rfl (lop_pick_f (v := .bool _) rfl rfl rfl) ?_
     | refine s1 rfl (lop_pick_f (v := .bool _) rfl rfl rfl) ?_
     | refine s1 rfl (lop_pick_f (v := .bool _) rfl rfl rfl) ?_
     | refine s1 rfl (lop_pick_t (v := .bool _) rfl rfl rfl) ?_
     | refine s1 rfl (lop_pick_f (v := .bool _) rfl rfl rfl) ?_
     | refine s1 rfl (lop_pick rfl rfl rfl) ?_
    refine s1 rfl (lop_move (v := .bool _) rfl) ?_
    refine n1 rfl rfl rfl ?_
    refine n1 rfl rfl rfl ?_
    refine n1 rfl rfl rfl ?_
    refine n1 rfl rfl rfl ?_
    refine n1 rfl rfl rfl ?_
    first
     | refine s1 rfl (lop_pick_t (v := .bool _) rfl g1_5 rfl) ?_
     | refine s1 rfl (lop_pick_t (v := .bool _) rfl g1_12 rfl) ?_
     | refine s1 rfl (lop_pick_f (v := .bool _) rfl g1_19 rfl) ?_
     | refine s1 rfl (lop_pick_f (v := .bool _) rfl rfl rfl) ?_
     | refine s1 rfl (lop_pick_f (v := .bool _) rfl rfl rfl) ?_
     | refine s1 rfl (lop_pick_f (v := .bool _) rfl rfl rfl) ?_
     | refine s1 rfl (lop_pick_f (v := .bool _) rfl rfl rfl) ?_
     | refine s1 rfl (lop_pick_t (v := .bool _) rfl rfl rfl) ?_
     | refine s1 rfl (lop_pick_f (v := .bool _) rfl rfl rfl) ?_
     | refine s1 rfl (lop_pick rfl rfl rfl) ?_
    refine s1 rfl (lop_move (v := .bool _) rfl) ?_
    refine n1 rfl rfl rfl ?_
    refine n1 rfl rfl rfl ?_
    refine n1 rfl rfl rfl ?_
    refine n1 rfl rfl rfl ?_
    refine n1 rfl rfl rfl ?_
    first
     | refine s1 rfl (lop_pick_t (v := .bool _) rfl g1_5 rfl) ?_
     | refine s1 rfl (lop_pick_t (v := .bool _) rfl g1_12 rfl) ?_
     | refine s1 rfl (lop_pick_f (v := .bool _) rfl g1_19 rfl) ?_
     | refine s1 rfl (lop_pick_f (v := .bool _) rfl rfl rfl) ?_
     | refine s1 rfl (lop_pick_f (v := .bool _) rfl rfl rfl) ?_
     | refine s1 rfl (lop_pick_f (v := .bool _) rfl rfl rfl) ?_
     | refine s1 rfl (lop_pick_f (v := .bool _) rfl rfl rfl) ?_
     | refine s1 rfl (lop_pick_f (v := .bool _) rfl rfl rfl) ?_
     | refine s1 rfl (lop_pick_t (v := .bool _) rfl rfl rfl) ?_
     | refine s1 rfl (lop_pick_f (v := .bool _) rfl rfl rfl) ?_
     | refine s1 rfl (lop_pick rfl rfl rfl) ?_
    refine s1 rfl (lop_assign (v := .bool _) rfl) ?_
    refine ops_nil ?_
    refine ok_ret ?_
    exact ret_one rfl rfl rfl rfl (congrArg V.bool (by first | (refine decide_eq_decide.2 ?_; rw [VolD.eq_iff]; simp_all) | (refine (decide_eq_false ?_).symm; rintro rfl; simp_all)))
  ·refine n1 rfl rfl g1_12 ?_
   refine n1 rfl rfl g1_12 ?_
   refine n1 rfl rfl g1_12 ?_
   refine n1 rfl rfl g1_12 ?_
   refine n1 rfl rfl g1_12 ?_
   first
    | refine s1 rfl (lop_pick_t (v := .bool _) rfl g1_5 rfl) ?_
    | refine s1 rfl (lop_pick_f (v := .bool _) rfl g1_12 rfl) ?_
    | refine s1 rfl (lop_pick_t (v := .bool _) rfl rfl rfl) ?_
    | refine s1 rfl (lop_pick_f (v := .bool _) rfl rfl rfl) ?_
    | refine s1 rfl (lop_pick rfl rfl rfl) ?_
   refine s1 rfl (lop_move (v := .bool _) rfl) ?_
   refine n1 rfl rfl rfl ?_
   refine n1 rfl rfl rfl ?_
   refine n1 rfl rfl rfl ?_
   refine n1 rfl rfl rfl ?_
   refine n1 rfl rfl rfl ?_
   first
    | refine s1 rfl (lop_pick_t (v := .bool _) rfl g1_5 rfl) ?_
    | refine s1 rfl (lop_pick_f (v := .bool _) rfl g1_12 rfl) ?_
    | refine s1 rfl (lop_pick_f (v := .bool _) rfl rfl rfl) ?_
    | refine s1 rfl (lop_pick_t (v := .bool _) rfl rfl rfl) ?_
    | refine s1 rfl (lop_pick_f (v := .bool _) rfl rfl rfl) ?_
    | refine s1 rfl (lop_pick rfl rfl rfl) ?_
   refine s1 rfl (lop_move (v := .bool _) rfl) ?_
   refine n1 rfl rfl rfl ?_
   refine n1 rfl rfl rfl ?_
   refine n1 rfl rfl rfl ?_
   refine n1 rfl rfl rfl ?_
   refine n1 rfl rfl rfl ?_
   first
    | refine s1 rfl (lop_pick_t (v := .bool _) rfl g1_5 rfl) ?_
    | refine s1 rfl (lop_pick_f (v := .bool _) rfl g1_12 rfl) ?_
    | refine s1 rfl (lop_pick_f (v := .bool _) rfl rfl rfl) ?_
    | refine s1 rfl (lop_pick_f (v := .bool _) rfl rfl rfl) ?_
    | refine s1 rfl (lop_pick_t (v := .bool _) rfl rfl rfl) ?_
    | refine s1 rfl (lop_pick_f (v := .bool _) rfl rfl rfl) ?_
    | refine s1 rfl (lop_pick rfl rfl rfl) ?_
   refine s1 rfl (lop_move (v := .bool _) rfl) ?_
   refine n1 rfl rfl rfl ?_
   refine n1 rfl rfl rfl ?_
   refine n1 rfl rfl rfl ?_
   refine n1 rfl rfl rfl ?_
   refine n1 rfl rfl rfl ?_
   first
    | refine s1 rfl (lop_pick_t (v := .bool _) rfl g1_5 rfl) ?_
    | refine s1 rfl (lop_pick_f (v := .bool _) rfl g1_12 rfl) ?_
    | refine s1 rfl (lop_pick_f (v := .bool _) rfl rfl rfl) ?_
    | refine s1 rfl (lop_pick_f (v := .bool _) rfl rfl rfl) ?_
    | refine s1 rfl (lop_pick_f (v := .bool _) rfl rfl rfl) ?_
    | refine s1 rfl (lop_pick_t (v := .bool _) rfl rfl rfl) ?_
    | refine s1 rfl (lop_pick_f (v := .bool _) rfl rfl rfl) ?_
    | refine s1 rfl (lop_pick rfl rfl rfl) ?_
   refine s1 rfl (lop_move (v := .bool _) rfl) ?_
   refine n1 rfl rfl rfl ?_
   refine n1 rfl rfl rfl ?_
   refine n1 rfl rfl rfl ?_
   refine n1 rfl rfl rfl ?_
   refine n1 rfl rfl rfl ?_
   first
    | refine s1 rfl (lop_pick_t (v := .bool _) rfl g1_5 rfl) ?_
    | refine s1 rfl (lop_pick_f (v := .bool _) rfl g1_12 rfl) ?_
    | refine s1 rfl (lop_pick_f (v := .bool _) rfl rfl rfl) ?_
    | refine s1 rfl (lop_pick_f (v := .bool _) rfl rfl rfl) ?_
    | refine s1 rfl (lop_pick_f (v := .bool _) rfl rfl rfl) ?_
    | refine s1 rfl (lop_pick_f (v := .bool _) rfl rfl rfl) ?_
    | refine s1 rfl (lop_pick_t (v := .bool _) rfl rfl rfl) ?_
    | refine s1 rfl (lop_pick_f (v := .bool _) rfl rfl rfl) ?_
    | refine s1 rfl (lop_pick rfl rfl rfl) ?_
   refine s1 rfl (lop_move (v := .bool _) rfl) ?_
   refine n1 rfl rfl rfl ?_
   refine n1 rfl rfl rfl ?_
   refine n1 rfl rfl rfl ?_
   refine n1 rfl rfl rfl ?_
   refine n1 rfl rfl rfl ?_
   first
    | refine s1 rfl (lop_pick_t (v := .bool _) rfl g1_5 rfl) ?_
    | refine s1 rfl (lop_pick_f (v := .bool _) rfl g1_12 rfl) ?_
    | refine s1 rfl (lop_pick_f (v := .bool _) rfl rfl rfl) ?_
    | refine s1 rfl (lop_pick_f (v := .bool _) rfl rfl rfl) ?_
    | refine s1 rfl (lop_pick_f (v := .bool _) rfl rfl rfl) ?_
    | refine s1 rfl (lop_pick_f (v := .bool _) rfl rfl rfl) ?_
    | refine s1 rfl (lop_pick_f (v := .bool _) rfl rfl rfl) ?_
    | refine s1 rfl (lop_pick_t (v := .bool _) rfl rfl rfl) ?_
    | refine s1 rfl (lop_pick_f (v := .bool _) rfl rfl rfl) ?_
    | refine s1 rfl (lop_pick rfl rfl rfl) ?_
   refine s1 rfl (lop_move (v := .bool _) rfl) ?_
   refine n1 rfl rfl rfl ?_
   refine n1 rfl rfl rfl ?_
   refine n1 rfl rfl rfl ?_
   refine n1 rfl rfl rfl ?_
   refine n1 rfl rfl rfl ?_
   first
    | refine s1 rfl (lop_pick_t (v := .bool _) rfl g1_5 rfl) ?_
    | refine s1 rfl (lop_pick_f (v := .bool _) rfl g1_12 rfl) ?_
    | refine s1 rfl (lop_pick_f (v := .bool _) rfl rfl rfl) ?_
    | refine s1 rfl (lop_pick_f (v := .bool _) rfl rfl rfl) ?_
    | refine s1 rfl (lop_pick_f (v := .bool _) rfl rfl rfl) ?_
    | refine s1 rfl (lop_pick_f (v := .bool _) rfl rfl rfl) ?_
    | refine s1 rfl (lop_pick_f (v := .bool _) rfl rfl rfl) ?_
    | refine s1 rfl (lop_pick_f (v := .bool _) rfl rfl rfl) ?_
    | refine s1 rfl (lop_pick_t (v := .bool _) rfl rfl rfl) ?_
    | refine s1 rfl (lop_pick_f (v := .bool _) rfl rfl rfl) ?_
    | refine s1 rfl (lop_pick rfl rfl rfl) ?_
   refine s1 rfl (lop_assign (v := .bool _) rfl) ?_
   refine ops_nil ?_
   refine ok_ret ?_
   exact ret_one rfl rfl rfl rfl (congrArg V.bool (by first | (refine decide_eq_decide.2 ?_; rw [VolD.eq_iff]; simp_all) | (refine (decide_eq_false ?_).symm; rintro rfl; simp_all)))
 ·refine n1 rfl rfl g1_5 ?_
  refine n1 rfl rfl g1_5 ?_
  refine n1 rfl rfl g1_5 ?_
  refine n1 rfl rfl g1_5 ?_
  refine n1 rfl rfl g1_5 ?_
  first
   | refine s1 rfl (lop_pick_f (v := .bool _) rfl g1_5 rfl) ?_
   | refine s1 rfl (lop_pick_t (v := .bool _) rfl rfl rfl) ?_
   | refine s1 rfl (lop_pick_f (v := .bool _) rfl rfl rfl) ?_
   | refine s1 rfl (lop_pick rfl rfl rfl) ?_
  refine s1 rfl (lop_move (v := .bool _) rfl) ?_
  refine n1 rfl rfl rfl ?_
  refine n1 rfl rfl rfl ?_
  refine n1 rfl rfl rfl ?_
  refine n1 rfl rfl rfl ?_
  refine n1 rfl rfl rfl ?_
  first
   | refine s1 rfl (lop_pick_f (v := .bool _) rfl g1_5 rfl) ?_
   | refine s1 rfl (lop_pick_f (v := .bool _) rfl rfl rfl) ?_
   | refine s1 rfl (lop_pick_t (v := .bool _) rfl rfl rfl) ?_
   | refine s1 rfl (lop_pick_f (v := .bool _) rfl rfl rfl) ?_
   | refine s1 rfl (lop_pick rfl rfl rfl) ?_
  refine s1 rfl (lop_move (v := .bool _) rfl) ?_
  refine n1 rfl rfl rfl ?_
  refine n1 rfl rfl rfl ?_
  refine n1 rfl rfl rfl ?_
  refine n1 rfl rfl rfl ?_
  refine n1 rfl rfl rfl ?_
  first
   | refine s1 rfl (lop_pick_f (v := .bool _) rfl g1_5 rfl) ?_
   | refine s1 rfl (lop_pick_f (v := .bool _) rfl rfl rfl) ?_
   | refine s1 rfl (lop_pick_f (v := .bool _) rfl rfl rfl) ?_
   | refine s1 rfl (lop_pick_t (v := .bool _) rfl rfl rfl) ?_
   | refine s1 rfl (lop_pick_f (v := .bool _) rfl rfl rfl) ?_
   | refine s1 rfl (lop_pick rfl rfl rfl) ?_
  refine s1 rfl (lop_move (v := .bool _) rfl) ?_
  refine n1 rfl rfl rfl ?_
  refine n1 rfl rfl rfl ?_
  refine n1 rfl rfl rfl ?_
  refine n1 rfl rfl rfl ?_
  refine n1 rfl rfl rfl ?_
  first
   | refine s1 rfl (lop_pick_f (v := .bool _) rfl g1_5 rfl) ?_
   | refine s1 rfl (lop_pick_f (v := .bool _) rfl rfl rfl) ?_
   | refine s1 rfl (lop_pick_f (v := .bool _) rfl rfl rfl) ?_
   | refine s1 rfl (lop_pick_f (v := .bool _) rfl rfl rfl) ?_
   | refine s1 rfl (lop_pick_t (v := .bool _) rfl rfl rfl) ?_
   | refine s1 rfl (lop_pick_f (v := .bool _) rfl rfl rfl) ?_
   | refine s1 rfl (lop_pick rfl rfl rfl) ?_
  refine s1 rfl (lop_move (v := .bool _) rfl) ?_
  refine n1 rfl rfl rfl ?_
  refine n1 rfl rfl rfl ?_
  refine n1 rfl rfl rfl ?_
  refine n1 rfl rfl rfl ?_
  refine n1 rfl rfl rfl ?_
  first
   | refine s1 rfl (lop_pick_f (v := .bool _) rfl g1_5 rfl) ?_
   | refine s1 rfl (lop_pick_f (v := .bool _) rfl rfl rfl) ?_
   | refine s1 rfl (lop_pick_f (v := .bool _) rfl rfl rfl) ?_
   | refine s1 rfl (lop_pick_f (v := .bool _) rfl rfl rfl) ?_
   | refine s1 rfl (lop_pick_f (v := .bool _) rfl rfl rfl) ?_
   | refine s1 rfl (lop_pick_t (v := .bool _) rfl rfl rfl) ?_
   | refine s1 rfl (lop_pick_f (v := .bool _) rfl rfl rfl) ?_
   | refine s1 rfl (lop_pick rfl rfl rfl) ?_
  refine s1 rfl (lop_move (v := .bool _) rfl) ?_
  refine n1 rfl rfl rfl ?_
  refine n1 rfl rfl rfl ?_
  refine n1 rfl rfl rfl ?_
  refine n1 rfl rfl rfl ?_
  refine n1 rfl rfl rfl ?_
  first
   | refine s1 rfl (lop_pick_f (v := .bool _) rfl g1_5 rfl) ?_
   | refine s1 rfl (lop_pick_f (v := .bool _) rfl rfl rfl) ?_
   | refine s1 rfl (lop_pick_f (v := .bool _) rfl rfl rfl) ?_
   | refine s1 rfl (lop_pick_f (v := .bool _) rfl rfl rfl) ?_
   | refine s1 rfl (lop_pick_f (v := .bool _) rfl rfl rfl) ?_
   | refine s1 rfl (lop_pick_f (v := .bool _) rfl rfl rfl) ?_
   | refine s1 rfl (lop_pick_t (v := .bool _) rfl rfl rfl) ?_
   | refine s1 rfl (lop_pick_f (v := .bool _) rfl rfl rfl) ?_
   | refine s1 rfl (lop_pick rfl rfl rfl) ?_
  refine s1 rfl (lop_move (v := .bool _) rfl) ?_
  refine n1 rfl rfl rfl ?_
  refine n1 rfl rfl rfl ?_
  refine n1 rfl rfl rfl ?_
  refine n1 rfl rfl rfl ?_
  refine n1 rfl rfl rfl ?_
  first
   | refine s1 rfl (lop_pick_f (v := .bool _) rfl g1_5 rfl) ?_
   | refine s1 rfl (lop_pick_f (v := .bool _) rfl rfl rfl) ?_
   | refine s1 rfl (lop_pick_f (v := .bool _) rfl rfl rfl) ?_
   | refine s1 rfl (lop_pick_f (v := .bool _) rfl rfl rfl) ?_
   | refine s1 rfl (lop_pick_f (v := .bool _) rfl rfl rfl) ?_
   | refine s1 rfl (lop_pick_f (v := .bool _) rfl rfl rfl) ?_
   | refine s1 rfl (lop_pick_f (v := .bool _) rfl rfl rfl) ?_
   | refine s1 rfl (lop_pick_t (v := .bool _) rfl rfl rfl) ?_
   | refine s1 rfl (lop_pick_f (v := .bool _) rfl rfl rfl) ?_
   | refine s1 rfl (lop_pick rfl rfl rfl) ?_
  refine s1 rfl (lop_move (v := .bool _) rfl) ?_
  refine n1 rfl rfl rfl ?_
  refine n1 rfl rfl rfl ?_
  refine n1 rfl rfl rfl ?_
  refine n1 rfl rfl rfl ?_
  refine n1 rfl rfl rfl ?_
  first
   | refine s1 rfl (lop_pick_f (v := .bool _) rfl g1_5 rfl) ?_
   | refine s1 rfl (lop_pick_f (v := .bool _) rfl rfl rfl) ?_
   | refine s1 rfl (lop_pick_f (v := .bool _) rfl rfl rfl) ?_
   | refine s1 rfl (lop_pick_f (v := .bool _) rfl rfl rfl) ?_
   | refine s1 rfl (lop_pick_f (v := .bool _) rfl rfl rfl) ?_
   | refine s1 rfl (lop_pick_f (v := .bool _) rfl rfl rfl) ?_
   | refine s1 rfl (lop_pick_f (v := .bool _) rfl rfl rfl) ?_
   | refine s1 rfl (lop_pick_f (v := .bool _) rfl rfl rfl) ?_
   | refine s1 rfl (lop_pick_t (v := .bool _) rfl rfl rfl) ?_
   | refine s1 rfl (lop_pick_f (v := .bool _) rfl rfl rfl) ?_
   | refine s1 rfl (lop_pick rfl rfl rfl) ?_
  refine s1 rfl (lop_assign (v := .bool _) rfl) ?_
  refine ops_nil ?_
  refine ok_ret ?_
  exact ret_one rfl rfl rfl rfl (congrArg V.bool (by first | (refine decide_eq_decide.2 ?_; rw [VolD.eq_iff]; simp_all) | (refine (decide_eq_false ?_).symm; rintro rfl; simp_all)))

theorem equalFunc_Vol_ac {l m : List VolD} (hl : l.length ≤ 549755813888) (hp : ∀ v ∈ l, v.places.length ≤ 549755813888) (hq : ∀ v ∈ l, v.parts.length ≤ 549755813888) : AC Try.prog 32 [rowOf VolD.enc l, rowOf VolD.enc m, .fn 33 []] (.bool (decide (l = m))) := by
 refine AC.intro Try.func32 rfl (Nat.le_of_ble_eq_true rfl) ?_
 refine ok_reg ?_
 refine s1 rfl (lop_assign (v := .bool _) rfl) ?_
 refine ops_nil ?_
 refine ok_seq ?_
 refine ok_reg ?_
 first
  | refine s1 rfl (lop_move (v := .sl _ _) rfl) ?_
  | refine s1 rfl (lop_move (v := .os _ _ _ _) rfl) ?_
  | refine s1 rfl (lop_move (v := .z0) rfl) ?_
 refine s1 rfl (lop_len rfl Try.underlying22 ⟨⟨_, rfl⟩, rfl⟩) ?_
 first
  | refine s1 rfl (lop_move (v := .sl _ _) rfl) ?_
  | refine s1 rfl (lop_move (v := .os _ _ _ _) rfl) ?_
  | refine s1 rfl (lop_move (v := .z0) rfl) ?_
 refine s1 rfl (lop_len rfl Try.underlying22 ⟨⟨_, rfl⟩, rfl⟩) ?_
 refine s1 rfl (lop_neq rfl rfl) ?_
 refine ops_nil ?_
 first
  | refine ok_if _ rfl rfl (fun h_t14 => ?_) (fun h_t14 => ?_)
  | refine ok_cond rfl rfl (fun h_t14 => ?_) (fun h_t14 => ?_)
 ·refine ok_reg ?_
  refine s1 rfl (lop_assign (v := .bool _) rfl) ?_
  refine ops_nil ?_
  refine ok_ret ?_
  exact ret_one rfl rfl rfl rfl (congrArg V.bool ((decide_eq_false (ne_len (by omega))).symm))
 ·refine ok_skip ?_
  refine ok_seq ?_
  refine ok_reg ?_
  first
   | refine s1 rfl (lop_move (v := .sl _ _) rfl) ?_
   | refine s1 rfl (lop_move (v := .os _ _ _ _) rfl) ?_
   | refine s1 rfl (lop_move (v := .z0) rfl) ?_
  refine s1 rfl (lop_len rfl Try.underlying22 ⟨⟨_, rfl⟩, rfl⟩) ?_
  refine s1 rfl (lop_move (v := .int _ _) rfl) ?_
  refine ops_nil ?_
  refine ok_block ?_
  refine ok_loop (ι := {i : Nat // i ≤ l.length ∧ ∀ j, (h1 : j < l.length) → (h2 : j < m.length) → j < i → l[j] = m[j]}) (fun i => ⟨[(0, rowOf VolD.enc l), (1, rowOf VolD.enc m), (2, .fn 33 []), (15, rowOf VolD.enc l), (16, i64 l.length), (17, i64 i.1)], [], 32⟩) (fun i => l.length - i.1) (⟨0, Nat.zero_le _, fun _ _ _ h => absurd h (Nat.not_lt_zero _)⟩) ?_ ?_
  ·exact le_mk ⟨rfl, rfl, rfl, rfl, rfl, rfl, trivial⟩ trivial rfl
  rintro ⟨i, hi, hn⟩
  dsimp only
  refine ok_reg ?_
  refine s1 rfl (lop_lss rfl rfl) ?_
  refine ops_nil ?_
  refine ok_seq ?_
  first
   | refine ok_if _ rfl rfl (fun h_t18 => ?_) (fun h_t18 => ?_)
   | refine ok_cond rfl rfl (fun h_t18 => ?_) (fun h_t18 => ?_)
  ·have hi1 : i < l.length := by omega
   have hi2 : i < m.length := by omega
   refine ok_skip ?_
   refine ok_seq ?_
   refine ok_block ?_
   refine ok_reg ?_
   refine s1 rfl (lop_move (v := .int _ _) rfl) ?_
   first
    | refine s1 rfl (lop_indexAddr_os rfl rfl Try.underlying22 Try.sizeOf50 rfl hi1) ?_
    | refine s1 rfl (lop_indexAddr_sl rfl rfl Try.underlying22 Try.sizeOf50 rfl hi1 (flat_at VolD.len hi1) (flat_ne VolD.len (by decide) hi1)) ?_
   first
    | refine s1 rfl (lop_load_rf_agg rfl rfl Try.isAgg50 Try.sizeOf50 (by rw [List.length_append, VolD.len]; omega) (by rw [List.take_append_of_le_length (by rw [VolD.len]; omega), List.take_of_length_le (by rw [VolD.len]; omega)])) ?_
    | refine s1 rfl (lop_load_fp_agg rfl Try.isAgg50 Try.sizeOf50 (by rw [List.length_append, VolD.len]; omega) (by rw [List.take_append_of_le_length (by rw [VolD.len]; omega), List.take_of_length_le (by rw [VolD.len]; omega)])) ?_
   refine s1w rfl (lop_new (t := 8) (cs := [.int _ _, .int _ _, .int _ _, .int _ _, .int _ _, .z0, .z0, .int _ _, .int _ _]) Try.zeroValue50 rfl rfl rfl rfl) rfl ?_
   refine s1 rfl (lop_assign (v := .int _ _) rfl) ?_
   first
    | refine s0w rfl (lop_storeK (v := .agg [.int _ _, .int _ _, .int _ _, .int _ _, .int _ _, _, _, .int _ _, .int _ _]) (cs' := [.int _ _, .int _ _, .int _ _, .int _ _, .int _ _, _, _, .int _ _, .int _ _]) (f' := true) rfl rfl rfl Try.sizeOf50 rfl rfl rfl rfl rfl) ?_
    | refine s0w rfl (lop_storeK (v := .agg [.int _ _, .int _ _, .int _ _, .int _ _, .int _ _, _, _, .int _ _, .int _ _]) (cs' := [.int _ _, .int _ _, .int _ _, .int _ _, .int _ _, _, _, .int _ _, .int _ _]) (f' := false) rfl rfl rfl Try.sizeOf50 rfl rfl rfl rfl rfl) ?_
   refine ops_nil ?_
   refine ok_reg ?_
   first
    | refine s1 rfl (lop_move (v := .sl _ _) rfl) ?_
    | refine s1 rfl (lop_move (v := .os _ _ _ _) rfl) ?_
    | refine s1 rfl (lop_move (v := .z0) rfl) ?_
   refine s1 rfl (lop_move (v := .int _ _) rfl) ?_
   first
    | refine s1 rfl (lop_indexAddr_os rfl rfl Try.underlying22 Try.sizeOf50 rfl hi2) ?_
    | refine s1 rfl (lop_indexAddr_sl rfl rfl Try.underlying22 Try.sizeOf50 rfl hi2 (flat_at VolD.len hi2) (flat_ne VolD.len (by decide) hi2)) ?_
   first
    | refine s1 rfl (lop_load_rf_agg rfl rfl Try.isAgg50 Try.sizeOf50 (by rw [List.length_append, VolD.len]; omega) (by rw [List.take_append_of_le_length (by rw [VolD.len]; omega), List.take_of_length_le (by rw [VolD.len]; omega)])) ?_
    | refine s1 rfl (lop_load_fp_agg rfl Try.isAgg50 Try.sizeOf50 (by rw [List.length_append, VolD.len]; omega) (by rw [List.take_append_of_le_length (by rw [VolD.len]; omega), List.take_of_length_le (by rw [VolD.len]; omega)])) ?_
   refine s1w rfl (lop_new (t := 9) (cs := [.int _ _, .int _ _, .int _ _, .int _ _, .int _ _, .z0, .z0, .int _ _, .int _ _]) Try.zeroValue50 rfl rfl rfl rfl) rfl ?_
   first
    | refine s0w rfl (lop_storeK (v := .agg [.int _ _, .int _ _, .int _ _, .int _ _, .int _ _, _, _, .int _ _, .int _ _]) (cs' := [.int _ _, .int _ _, .int _ _, .int _ _, .int _ _, _, _, .int _ _, .int _ _]) (f' := true) rfl rfl rfl Try.sizeOf50 rfl rfl rfl rfl rfl) ?_
    | refine s0w rfl (lop_storeK (v := .agg [.int _ _, .int _ _, .int _ _, .int _ _, .int _ _, _, _, .int _ _, .int _ _]) (cs' := [.int _ _, .int _ _, .int _ _, .int _ _, .int _ _, _, _, .int _ _, .int _ _]) (f' := false) rfl rfl rfl Try.sizeOf50 rfl rfl rfl rfl rfl) ?_
   refine ops_nil ?_
   refine ok_reg ?_
   first
    | refine s1 rfl (lop_move (v := .fn _ _) rfl) ?_
    | refine s1 rfl (lop_move (v := _) rfl) ?_
   first
    | refine s1 rfl (lop_load_rf_agg (ys := [.int _ _, .int _ _, .int _ _, .int _ _, .int _ _, _, _, .int _ _, .int _ _]) rfl rfl Try.isAgg50 Try.sizeOf50 (Nat.le_of_ble_eq_true rfl) rfl) ?_
    | refine s1 rfl (lop_load_fp_agg (ys := [.int _ _, .int _ _, .int _ _, .int _ _, .int _ _, _, _, .int _ _, .int _ _]) rfl Try.isAgg50 Try.sizeOf50 (Nat.le_of_ble_eq_true rfl) rfl) ?_
   first
    | refine s1 rfl (lop_load_rf_agg (ys := [.int _ _, .int _ _, .int _ _, .int _ _, .int _ _, _, _, .int _ _, .int _ _]) rfl rfl Try.isAgg50 Try.sizeOf50 (Nat.le_of_ble_eq_true rfl) rfl) ?_
    | refine s1 rfl (lop_load_fp_agg (ys := [.int _ _, .int _ _, .int _ _, .int _ _, .int _ _, _, _, .int _ _, .int _ _]) rfl Try.isAgg50 Try.sizeOf50 (Nat.le_of_ble_eq_true rfl) rfl) ?_
   refine s1 rfl (lop_call rfl Try.call33 (FrzL.tf rfl) (.inl rfl) (index_same_ac (a := l[i]) (b := m[i]) (hp _ (List.getElem_mem hi1)) (hq _ (List.getElem_mem hi1)))) ?_
   refine s1 rfl (lop_not rfl) ?_
   refine ops_nil ?_
   first
    | refine ok_if _ rfl rfl (fun h_t30 => ?_) (fun h_t30 => ?_)
    | refine ok_cond rfl rfl (fun h_t30 => ?_) (fun h_t30 => ?_)
   ·refine ok_reg ?_
    refine s1 rfl (lop_assign (v := .bool _) rfl) ?_
    refine ops_nil ?_
    refine ok_ret ?_
    exact ret_one rfl rfl rfl rfl (congrArg V.bool ((decide_eq_false (ne_at hi1 hi2 (by simpa using h_t30))).symm))
   ·refine ok_skip ?_
    refine ok_region ?_
    refine s1 rfl (lop_bop rfl rfl rfl (bop_add (by omega) (by omega))) ?_
    refine s1 rfl (lop_move (v := .int _ _) rfl) ?_
    refine ops_nil ?_
    exact ⟨⟨i + 1, by omega, eq_step hn hi1 hi2 (by simpa using h_t30)⟩, by simp only; omega, le_mk ⟨rfl, rfl, rfl, rfl, rfl, rfl, trivial⟩ trivial rfl⟩
  ·refine ok_exit ?_
   refine ok_reg ?_
   refine s1 rfl (lop_assign (v := .bool _) rfl) ?_
   refine ops_nil ?_
   refine ok_ret ?_
   exact ret_one rfl rfl rfl rfl (congrArg V.bool ((decide_eq_true (eq_all (by omega) (fun j h1 h2 _ => hn j h1 h2 (by omega)))).symm))

theorem index_Same_ac {x y : IdxD} (hx : Fit 549755000000 x) : AC Try.prog 20 [.agg x.enc, .agg y.enc] (.bool (sameF x y)) := by
 refine AC.intro Try.func20 rfl (Nat.le_of_ble_eq_true rfl) ?_
 refine ok_reg ?_
 first
  | refine s1w rfl (lop_box (t := 2) (v := .agg [_, _, _]) (f := true) (cs := [_, _, _]) rfl rfl rfl rfl (fun h => by cases h)) rfl ?_
  | refine s1w rfl (lop_box (t := 2) (v := .agg [_, _, _]) (f := false) (cs := [_, _, _]) rfl rfl rfl rfl (fun _ => rfl)) rfl ?_
 first
  | refine s1w rfl (lop_box (t := 3) (v := .agg [_, _, _]) (f := true) (cs := [_, _, _]) rfl rfl rfl rfl (fun h => by cases h)) rfl ?_
  | refine s1w rfl (lop_box (t := 3) (v := .agg [_, _, _]) (f := false) (cs := [_, _, _]) rfl rfl rfl rfl (fun _ => rfl)) rfl ?_
 refine s1 rfl (lop_assign (v := .bool _) rfl) ?_
 refine ops_nil ?_
 refine ok_reg ?_
 first
  | refine s1 rfl (lop_fieldAddr_rf (fo := 0) rfl Try.underlying26 rfl rfl Try.sizeOf22 (by decide)) ?_
  | refine s1 rfl (lop_fieldAddr_fp (fo := 0) rfl Try.underlying26 rfl rfl Try.sizeOf22 (by decide) rfl) ?_
 first
  | refine s1 rfl (lop_load_rf rfl rfl Try.isAgg22 rfl) ?_
  | refine s1 rfl (lop_load_fp rfl Try.isAgg22 rfl) ?_
 first
  | refine s1 rfl (lop_fieldAddr_rf (fo := 0) rfl Try.underlying26 rfl rfl Try.sizeOf22 (by decide)) ?_
  | refine s1 rfl (lop_fieldAddr_fp (fo := 0) rfl Try.underlying26 rfl rfl Try.sizeOf22 (by decide) rfl) ?_
 first
  | refine s1 rfl (lop_load_rf rfl rfl Try.isAgg22 rfl) ?_
  | refine s1 rfl (lop_load_fp rfl Try.isAgg22 rfl) ?_
 refine s1 rfl (lop_call rfl Try.call32 (FrzL.tf rfl) (.inl rfl) (equalFunc_Vol_ac (l := x.vols) (m := y.vols) (Nat.le_trans hx.vols (by decide)) (fun v h => Nat.le_trans (hx.places v h) (by decide)) (fun v h => Nat.le_trans (hx.parts v h) (by decide)))) ?_
 refine s1 rfl (lop_move (v := .bool _) rfl) ?_
 first
  | refine gsplitP 5 rfl rfl (fun g1_5 p1_5 => ?_) (fun g1_5 p1_5 => ?_)
  | refine gsplitB 5 rfl rfl (fun g1_5 p1_5 => ?_) (fun g1_5 p1_5 => ?_)
 ·first
   | refine y1 rfl rfl g1_5 rfl (lop_fieldAddr_rf (fo := 1) rfl Try.underlying26 rfl rfl Try.sizeOf23 (by decide)) ?_
   | refine y1 rfl rfl g1_5 rfl (lop_fieldAddr_fp (fo := 1) rfl Try.underlying26 rfl rfl Try.sizeOf23 (by decide) rfl) ?_
  first
   | refine y1 rfl rfl g1_5 rfl (lop_load_rf rfl rfl Try.isAgg23 rfl) ?_
   | refine y1 rfl rfl g1_5 rfl (lop_load_fp rfl Try.isAgg23 rfl) ?_
  first
   | refine y1 rfl rfl g1_5 rfl (lop_fieldAddr_rf (fo := 1) rfl Try.underlying26 rfl rfl Try.sizeOf23 (by decide)) ?_
   | refine y1 rfl rfl g1_5 rfl (lop_fieldAddr_fp (fo := 1) rfl Try.underlying26 rfl rfl Try.sizeOf23 (by decide) rfl) ?_
  first
   | refine y1 rfl rfl g1_5 rfl (lop_load_rf rfl rfl Try.isAgg23 rfl) ?_
   | refine y1 rfl rfl g1_5 rfl (lop_load_fp rfl Try.isAgg23 rfl) ?_
  refine y1 rfl rfl g1_5 rfl (lop_call rfl Try.call34 (FrzL.tf rfl) (.inl rfl) (equal_Name_ac (l := x.names) (m := y.names) (Nat.le_trans hx.names (by decide)))) ?_
  first
   | refine s1 rfl (lop_pick_t (v := .bool _) rfl g1_5 rfl) ?_
   | refine s1 rfl (lop_pick_t (v := .bool _) rfl rfl rfl) ?_
   | refine s1 rfl (lop_pick_f (v := .bool _) rfl rfl rfl) ?_
   | refine s1 rfl (lop_pick rfl rfl rfl) ?_
  refine s1 rfl (lop_move (v := .bool _) rfl) ?_
  first
   | refine gsplitP 12 rfl rfl (fun g1_12 p1_12 => ?_) (fun g1_12 p1_12 => ?_)
   | refine gsplitB 12 rfl rfl (fun g1_12 p1_12 => ?_) (fun g1_12 p1_12 => ?_)
  ·first
    | refine y1 rfl rfl g1_12 rfl (lop_fieldAddr_rf (fo := 2) rfl Try.underlying26 rfl rfl Try.sizeOf24 (by decide)) ?_
    | refine y1 rfl rfl g1_12 rfl (lop_fieldAddr_fp (fo := 2) rfl Try.underlying26 rfl rfl Try.sizeOf24 (by decide) rfl) ?_
   first
    | refine y1 rfl rfl g1_12 rfl (lop_load_rf rfl rfl Try.isAgg24 rfl) ?_
    | refine y1 rfl rfl g1_12 rfl (lop_load_fp rfl Try.isAgg24 rfl) ?_
   first
    | refine y1 rfl rfl g1_12 rfl (lop_fieldAddr_rf (fo := 2) rfl Try.underlying26 rfl rfl Try.sizeOf24 (by decide)) ?_
    | refine y1 rfl rfl g1_12 rfl (lop_fieldAddr_fp (fo := 2) rfl Try.underlying26 rfl rfl Try.sizeOf24 (by decide) rfl) ?_
   first
    | refine y1 rfl rfl g1_12 rfl (lop_load_rf rfl rfl Try.isAgg24 rfl) ?_
    | refine y1 rfl rfl g1_12 rfl (lop_load_fp rfl Try.isAgg24 rfl) ?_
   refine y1 rfl rfl g1_12 rfl (lop_call rfl Try.call35 (FrzL.tf rfl) (.inl rfl) (equal_Sess_ac (l := x.last) (m := y.last) (Nat.le_trans hx.last (by decide)))) ?_
   first
    | refine s1 rfl (lop_pick_t (v := .bool _) rfl g1_5 rfl) ?_
    | refine s1 rfl (lop_pick_t (v := .bool _) rfl g1_12 rfl) ?_
    | refine s1 rfl (lop_pick_t (v := .bool _) rfl rfl rfl) ?_
    | refine s1 rfl (lop_pick_f (v := .bool _) rfl rfl rfl) ?_
    | refine s1 rfl (lop_pick rfl rfl rfl) ?_
   refine s1 rfl (lop_assign (v := .bool _) rfl) ?_
   refine ops_nil ?_
   refine ok_ret ?_
   exact ret_one rfl rfl rfl rfl (congrArg V.bool (by unfold sameF; first | (refine decide_eq_decide.2 ?_; simp_all) | (refine (decide_eq_false ?_).symm; simp_all)))
  ·refine n1 rfl rfl g1_12 ?_
   refine n1 rfl rfl g1_12 ?_
   refine n1 rfl rfl g1_12 ?_
   refine n1 rfl rfl g1_12 ?_
   refine n1 rfl rfl g1_12 ?_
   first
    | refine s1 rfl (lop_pick_t (v := .bool _) rfl g1_5 rfl) ?_
    | refine s1 rfl (lop_pick_f (v := .bool _) rfl g1_12 rfl) ?_
    | refine s1 rfl (lop_pick_t (v := .bool _) rfl rfl rfl) ?_
    | refine s1 rfl (lop_pick_f (v := .bool _) rfl rfl rfl) ?_
    | refine s1 rfl (lop_pick rfl rfl rfl) ?_
   refine s1 rfl (lop_assign (v := .bool _) rfl) ?_
   refine ops_nil ?_
   refine ok_ret ?_
   exact ret_one rfl rfl rfl rfl (congrArg V.bool (by unfold sameF; first | (refine decide_eq_decide.2 ?_; simp_all) | (refine (decide_eq_false ?_).symm; simp_all)))
 ·refine n1 rfl rfl g1_5 ?_
  refine n1 rfl rfl g1_5 ?_
  refine n1 rfl rfl g1_5 ?_
  refine n1 rfl rfl g1_5 ?_
  refine n1 rfl rfl g1_5 ?_
  first
   | refine s1 rfl (lop_pick_f (v := .bool _) rfl g1_5 rfl) ?_
   | refine s1 rfl (lop_pick_t (v := .bool _) rfl rfl rfl) ?_
   | refine s1 rfl (lop_pick_f (v := .bool _) rfl rfl rfl) ?_
   | refine s1 rfl (lop_pick rfl rfl rfl) ?_
  refine s1 rfl (lop_move (v := .bool _) rfl) ?_
  refine n1 rfl rfl rfl ?_
  refine n1 rfl rfl rfl ?_
  refine n1 rfl rfl rfl ?_
  refine n1 rfl rfl rfl ?_
  refine n1 rfl rfl rfl ?_
  first
   | refine s1 rfl (lop_pick_f (v := .bool _) rfl g1_5 rfl) ?_
   | refine s1 rfl (lop_pick_f (v := .bool _) rfl rfl rfl) ?_
   | refine s1 rfl (lop_pick_t (v := .bool _) rfl rfl rfl) ?_
   | refine s1 rfl (lop_pick_f (v := .bool _) rfl rfl rfl) ?_
   | refine s1 rfl (lop_pick rfl rfl rfl) ?_
  refine s1 rfl (lop_assign (v := .bool _) rfl) ?_
  refine ops_nil ?_
  refine ok_ret ?_
  exact ret_one rfl rfl rfl rfl (congrArg V.bool (by unfold sameF; first | (refine decide_eq_decide.2 ?_; simp_all) | (refine (decide_eq_false ?_).symm; simp_all)))

end Go.Proofs
