/- Chapter 15: walks. Printed by gen.py. -/
import Derived.Test.YtajlkpogccbboaaT15m
set_option linter.unusedVariables false
set_option linter.unusedSimpArgs false
set_option maxRecDepth 100000
namespace Go.Proofs
open Go.Hg

theorem eq_step {α : Type} {l m : List α} {i : Nat} (hn : ∀ j, (h1 : j < l.length) → (h2 : j < m.length) → j < i → l[j] = m[j]) (h1 : i < l.length) (h2 : i < m.length) (h : l[i] = m[i]) : ∀ j, (h1 : j < l.length) → (h2 : j < m.length) → j < i + 1 → l[j] = m[j] := by
 intro j k1 k2 hlt
 rcases Nat.lt_or_ge j i with h3 | h3
 ·exact hn j k1 k2 h3
 ·have : j = i := by omega
  subst this; exact h
theorem eq_all {α : Type} {l m : List α} (hl : l.length = m.length) (hn : ∀ j, (h1 : j < l.length) → (h2 : j < m.length) → j < l.length → l[j] = m[j]) : l = m := List.ext_getElem hl (fun j h1 h2 => hn j h1 h2 h1)
theorem ne_at {α : Type} {l m : List α} {i : Nat} (h1 : i < l.length) (h2 : i < m.length) (h : l[i] ≠ m[i]) : l ≠ m := by
 rintro rfl; exact h rfl
theorem ne_len {α : Type} {l m : List α} (h : l.length ≠ m.length) : l ≠ m := by rintro rfl; exact h rfl
theorem not_dec {a b : PlD} (h : ¬ (!decide (a = b)) = true) : a = b := by simpa using h
def sameF (x y : IdxD) : Bool := decide (x.vols = y.vols ∧ x.names = y.names ∧ x.last = y.last)

theorem ref11_Places_ac {l m : List PlD} (hl : l.length ≤ 549755813888) : AC Try.prog 52 [rowOf PlD.enc l, rowOf PlD.enc m] (.bool (decide (l = m))) := by
 refine AC.intro Try.func52 rfl (Nat.le_of_ble_eq_true rfl) ?_
 refine ok_reg ?_
 refine s1 rfl (lop_assign (v := .bool _) rfl) ?_
 refine ops_nil ?_
 refine ok_seq ?_
 refine ok_reg ?_
 first
  | refine s1 rfl (lop_move (v := .sl _ _) rfl) ?_
  | refine s1 rfl (lop_move (v := .os _ _ _ _) rfl) ?_
  | refine s1 rfl (lop_move (v := .z0) rfl) ?_
 refine s1 rfl (lop_len rfl Try.underlying28 ⟨⟨_, rfl⟩, rfl⟩) ?_
 first
  | refine s1 rfl (lop_move (v := .sl _ _) rfl) ?_
  | refine s1 rfl (lop_move (v := .os _ _ _ _) rfl) ?_
  | refine s1 rfl (lop_move (v := .z0) rfl) ?_
 refine s1 rfl (lop_len rfl Try.underlying28 ⟨⟨_, rfl⟩, rfl⟩) ?_
 refine s1 rfl (lop_neq rfl rfl) ?_
 refine ops_nil ?_
 first
  | refine ok_if _ rfl rfl (fun h_t10 => ?_) (fun h_t10 => ?_)
  | refine ok_cond rfl rfl (fun h_t10 => ?_) (fun h_t10 => ?_)
 ·refine ok_reg ?_
  refine s1 rfl (lop_assign (v := .bool _) rfl) ?_
  refine ops_nil ?_
  refine ok_ret ?_
  exact ret_one rfl rfl rfl rfl (congrArg V.bool ((decide_eq_false (ne_len (by omega))).symm))
 ·refine ok_skip ?_
  refine ok_seq ?_
  refine ok_reg ?_
  refine s1 rfl (lop_assign (v := .int _ _) rfl) ?_
  refine ops_nil ?_
  refine ok_block ?_
  refine ok_loop (ι := {i : Nat // i ≤ l.length ∧ ∀ j, (h1 : j < l.length) → (h2 : j < m.length) → j < i → l[j] = m[j]}) (fun i => ⟨[(0, rowOf PlD.enc l), (1, rowOf PlD.enc m), (5, i64 i.1)], [], 26⟩) (fun i => l.length - i.1) (⟨0, Nat.zero_le _, fun _ _ _ h => absurd h (Nat.not_lt_zero _)⟩) ?_ ?_
  ·exact le_mk ⟨rfl, rfl, rfl, trivial⟩ trivial rfl
  rintro ⟨i, hi, hn⟩
  dsimp only
  refine ok_seq ?_
  refine ok_reg ?_
  refine s1 rfl (lop_move (v := .int _ _) rfl) ?_
  first
   | refine s1 rfl (lop_move (v := .sl _ _) rfl) ?_
   | refine s1 rfl (lop_move (v := .os _ _ _ _) rfl) ?_
   | refine s1 rfl (lop_move (v := .z0) rfl) ?_
  refine s1 rfl (lop_len rfl Try.underlying28 ⟨⟨_, rfl⟩, rfl⟩) ?_
  refine s1 rfl (lop_lss rfl rfl) ?_
  refine ops_nil ?_
  first
   | refine ok_if _ rfl rfl (fun h_t14 => ?_) (fun h_t14 => ?_)
   | refine ok_cond rfl rfl (fun h_t14 => ?_) (fun h_t14 => ?_)
  ·have hi1 : i < l.length := by omega
   have hi2 : i < m.length := by omega
   refine ok_skip ?_
   refine ok_seq ?_
   refine ok_block ?_
   refine ok_drw Try.mixed ?_
   first
    | refine d1 rfl rfl (lop_move (v := .sl _ _) rfl) ?_
    | refine d1 rfl rfl (lop_move (v := .os _ _ _ _) rfl) ?_
    | refine d1 rfl rfl (lop_move (v := .z0) rfl) ?_
   refine d1 rfl rfl (lop_move (v := .int _ _) rfl) ?_
   first
    | refine d1 rfl rfl (lop_indexAddr_os rfl rfl Try.underlying28 Try.sizeOf57 rfl hi1) ?_
    | refine d1 rfl rfl (lop_indexAddr_sl rfl rfl Try.underlying28 Try.sizeOf57 rfl hi1 (flat_at PlD.len hi1) (flat_ne PlD.len (by decide) hi1)) ?_
   first
    | refine d1 rfl rfl (lop_load_rf_agg rfl rfl Try.isAgg57 Try.sizeOf57 (by rw [List.length_append, PlD.len]; omega) (by rw [List.take_append_of_le_length (by rw [PlD.len]; omega), List.take_of_length_le (by rw [PlD.len]; omega)])) ?_
    | refine d1 rfl rfl (lop_load_fp_agg rfl Try.isAgg57 Try.sizeOf57 (by rw [List.length_append, PlD.len]; omega) (by rw [List.take_append_of_le_length (by rw [PlD.len]; omega), List.take_of_length_le (by rw [PlD.len]; omega)])) ?_
   first
    | refine d1 rfl rfl (lop_move (v := .sl _ _) rfl) ?_
    | refine d1 rfl rfl (lop_move (v := .os _ _ _ _) rfl) ?_
    | refine d1 rfl rfl (lop_move (v := .z0) rfl) ?_
   refine d1 rfl rfl (lop_move (v := .int _ _) rfl) ?_
   first
    | refine d1 rfl rfl (lop_indexAddr_os rfl rfl Try.underlying28 Try.sizeOf57 rfl hi2) ?_
    | refine d1 rfl rfl (lop_indexAddr_sl rfl rfl Try.underlying28 Try.sizeOf57 rfl hi2 (flat_at PlD.len hi2) (flat_ne PlD.len (by decide) hi2)) ?_
   first
    | refine d1 rfl rfl (lop_load_rf_agg rfl rfl Try.isAgg57 Try.sizeOf57 (by rw [List.length_append, PlD.len]; omega) (by rw [List.take_append_of_le_length (by rw [PlD.len]; omega), List.take_of_length_le (by rw [PlD.len]; omega)])) ?_
    | refine d1 rfl rfl (lop_load_fp_agg rfl Try.isAgg57 Try.sizeOf57 (by rw [List.length_append, PlD.len]; omega) (by rw [List.take_append_of_le_length (by rw [PlD.len]; omega), List.take_of_length_le (by rw [PlD.len]; omega)])) ?_
   refine d1 rfl rfl (lop_aneq rfl rfl rfl rfl eqg57 (ne57 l[i] m[i])) ?_
   refine dr_nil (by kernel_rfl) ?_
   first
    | refine ok_if _ rfl rfl (fun h_t25 => ?_) (fun h_t25 => ?_)
    | refine ok_cond rfl rfl (fun h_t25 => ?_) (fun h_t25 => ?_)
   ·refine ok_reg ?_
    refine s1 rfl (lop_assign (v := .bool _) rfl) ?_
    refine ops_nil ?_
    refine ok_ret ?_
    exact ret_one rfl rfl rfl rfl (congrArg V.bool ((decide_eq_false (ne_at hi1 hi2 (by simpa using h_t25))).symm))
   ·refine ok_skip ?_
    refine ok_region ?_
    refine s1 rfl (lop_move (v := .int _ _) rfl) ?_
    refine s1 rfl (lop_bop rfl rfl rfl (bop_add (by omega) (by omega))) ?_
    refine s1 rfl (lop_assign (v := .int _ _) rfl) ?_
    refine ops_nil ?_
    exact ⟨⟨i + 1, by omega, eq_step hn hi1 hi2 (by simpa using h_t25)⟩, by simp only; omega, le_mk ⟨rfl, rfl, rfl, trivial⟩ trivial rfl⟩
  ·refine ok_exit ?_
   refine ok_reg ?_
   refine s1 rfl (lop_assign (v := .bool _) rfl) ?_
   refine ops_nil ?_
   refine ok_ret ?_
   exact ret_one rfl rfl rfl rfl (congrArg V.bool ((decide_eq_true (eq_all (by omega) (fun j h1 h2 _ => hn j h1 h2 (by omega)))).symm))

theorem vol_eq {a b : VolD} (hp : a.places = b.places) (hq : a.parts = b.parts) : decide (a = b) = decide (a.id = b.id ∧ a.home = b.home ∧ a.mate = b.mate ∧ a.used = b.used ∧ a.phase = b.phase ∧ a.pair = b.pair ∧ a.sum = b.sum) := by
 refine decide_eq_decide.2 ?_
 cases a; cases b
 simp only at hp hq
 subst hp hq
 simp
theorem same_no {x y : IdxD} (h : x.vols ≠ y.vols ∨ x.names ≠ y.names ∨ x.last ≠ y.last) : false = sameF x y := by
 unfold sameF
 refine (decide_eq_false ?_).symm
 rintro ⟨h1, h2, h3⟩
 rcases h with h | h | h
 ·exact h h1
 ·exact h h2
 ·exact h h3

theorem sameVol_ac {a b : VolD} (hp : a.places.length ≤ 549755813888) (hq : a.parts.length ≤ 549755813888) : AC Try.prog 29 [.agg a.enc, .agg b.enc] (.bool (decide (a = b))) := by
 refine AC.intro Try.func29 rfl (Nat.le_of_ble_eq_true rfl) ?_
 refine ok_reg ?_
 first
  | refine s1w rfl (lop_box (t := 2) (v := .agg [.int _ _, .int _ _, .int _ _, .int _ _, .int _ _, _, _, .int _ _, .int _ _]) (f := true) (cs := [.int _ _, .int _ _, .int _ _, .int _ _, .int _ _, _, _, .int _ _, .int _ _]) rfl rfl rfl rfl (fun h => by cases h)) rfl ?_
  | refine s1w rfl (lop_box (t := 2) (v := .agg [.int _ _, .int _ _, .int _ _, .int _ _, .int _ _, _, _, .int _ _, .int _ _]) (f := false) (cs := [.int _ _, .int _ _, .int _ _, .int _ _, .int _ _, _, _, .int _ _, .int _ _]) rfl rfl rfl rfl (fun _ => rfl)) rfl ?_
 first
  | refine s1w rfl (lop_box (t := 3) (v := .agg [.int _ _, .int _ _, .int _ _, .int _ _, .int _ _, _, _, .int _ _, .int _ _]) (f := true) (cs := [.int _ _, .int _ _, .int _ _, .int _ _, .int _ _, _, _, .int _ _, .int _ _]) rfl rfl rfl rfl (fun h => by cases h)) rfl ?_
  | refine s1w rfl (lop_box (t := 3) (v := .agg [.int _ _, .int _ _, .int _ _, .int _ _, .int _ _, _, _, .int _ _, .int _ _]) (f := false) (cs := [.int _ _, .int _ _, .int _ _, .int _ _, .int _ _, _, _, .int _ _, .int _ _]) rfl rfl rfl rfl (fun _ => rfl)) rfl ?_
 refine s1 rfl (lop_assign (v := .bool _) rfl) ?_
 refine ops_nil ?_
 refine ok_reg ?_
 first
  | refine s1 rfl (lop_fieldAddr_rf (fo := 6) rfl Try.underlying50 rfl rfl Try.sizeOf28 (by decide)) ?_
  | refine s1 rfl (lop_fieldAddr_fp (fo := 6) rfl Try.underlying50 rfl rfl Try.sizeOf28 (by decide) rfl) ?_
 first
  | refine s1 rfl (lop_load_rf rfl rfl Try.isAgg28 rfl) ?_
  | refine s1 rfl (lop_load_fp rfl Try.isAgg28 rfl) ?_
 first
  | refine s1 rfl (lop_fieldAddr_rf (fo := 6) rfl Try.underlying50 rfl rfl Try.sizeOf28 (by decide)) ?_
  | refine s1 rfl (lop_fieldAddr_fp (fo := 6) rfl Try.underlying50 rfl rfl Try.sizeOf28 (by decide) rfl) ?_
 first
  | refine s1 rfl (lop_load_rf rfl rfl Try.isAgg28 rfl) ?_
  | refine s1 rfl (lop_load_fp rfl Try.isAgg28 rfl) ?_
 refine s1 rfl (lop_call rfl Try.call52 (FrzL.tf rfl) (.inl rfl) (ref11_Places_ac (m := b.places) hp)) ?_
 refine s1 rfl (lop_assign (v := .bool _) rfl) ?_
 refine ops_nil ?_
 refine ok_seq ?_
 refine ok_reg ?_
 refine s1 rfl (lop_move (v := .bool _) rfl) ?_
 refine s1 rfl (lop_not rfl) ?_
 refine s1 rfl (lop_move (v := .bool _) rfl) ?_
 first
  | refine gsplitP 2 rfl rfl (fun g2_2 p2_2 => ?_) (fun g2_2 p2_2 => ?_)
  | refine gsplitB 2 rfl rfl (fun g2_2 p2_2 => ?_) (fun g2_2 p2_2 => ?_)
 ·refine n1 rfl rfl g2_2 ?_
  refine n1 rfl rfl g2_2 ?_
  refine n1 rfl rfl g2_2 ?_
  refine n1 rfl rfl g2_2 ?_
  refine n1 rfl rfl g2_2 ?_
  refine n1 rfl rfl g2_2 ?_
  refine n1 rfl rfl g2_2 ?_
  first
   | refine s1 rfl (lop_pick_t (v := .bool _) rfl g2_2 rfl) ?_
   | refine s1 rfl (lop_pick_t (v := .bool _) rfl rfl rfl) ?_
   | refine s1 rfl (lop_pick_f (v := .bool _) rfl rfl rfl) ?_
   | refine s1 rfl (lop_pick rfl rfl rfl) ?_
  refine ops_nil ?_
  refine ok_true rfl rfl ?_
  refine ok_reg ?_
  refine s1 rfl (lop_assign (v := .bool _) rfl) ?_
  refine ops_nil ?_
  refine ok_ret ?_
  exact ret_one rfl rfl rfl rfl (congrArg V.bool ((decide_eq_false (fun h => by simp [h] at g2_2)).symm))
 ·first
   | refine y1 rfl rfl g2_2 rfl (lop_fieldAddr_rf (fo := 5) rfl Try.underlying50 rfl rfl Try.sizeOf48 (by decide)) ?_
   | refine y1 rfl rfl g2_2 rfl (lop_fieldAddr_fp (fo := 5) rfl Try.underlying50 rfl rfl Try.sizeOf48 (by decide) rfl) ?_
  first
   | refine y1 rfl rfl g2_2 rfl (lop_load_rf rfl rfl Try.isAgg48 rfl) ?_
   | refine y1 rfl rfl g2_2 rfl (lop_load_fp rfl Try.isAgg48 rfl) ?_
  refine y1 rfl rfl g2_2 rfl (lop_len rfl Try.underlying48 ⟨⟨_, rfl⟩, rfl⟩) ?_
  first
   | refine y1 rfl rfl g2_2 rfl (lop_fieldAddr_rf (fo := 5) rfl Try.underlying50 rfl rfl Try.sizeOf48 (by decide)) ?_
   | refine y1 rfl rfl g2_2 rfl (lop_fieldAddr_fp (fo := 5) rfl Try.underlying50 rfl rfl Try.sizeOf48 (by decide) rfl) ?_
  first
   | refine y1 rfl rfl g2_2 rfl (lop_load_rf rfl rfl Try.isAgg48 rfl) ?_
   | refine y1 rfl rfl g2_2 rfl (lop_load_fp rfl Try.isAgg48 rfl) ?_
  refine y1 rfl rfl g2_2 rfl (lop_len rfl Try.underlying48 ⟨⟨_, rfl⟩, rfl⟩) ?_
  refine y1 rfl rfl g2_2 rfl (lop_neq rfl rfl) ?_
  first
   | refine s1 rfl (lop_pick_f (v := .bool _) rfl g2_2 rfl) ?_
   | refine s1 rfl (lop_pick_t (v := .bool _) rfl rfl rfl) ?_
   | refine s1 rfl (lop_pick_f (v := .bool _) rfl rfl rfl) ?_
   | refine s1 rfl (lop_pick rfl rfl rfl) ?_
  refine ops_nil ?_
  first
   | refine ok_if _ rfl rfl (fun h_t22 => ?_) (fun h_t22 => ?_)
   | refine ok_cond rfl rfl (fun h_t22 => ?_) (fun h_t22 => ?_)
  ·refine ok_reg ?_
   refine s1 rfl (lop_assign (v := .bool _) rfl) ?_
   refine ops_nil ?_
   refine ok_ret ?_
   exact ret_one rfl rfl rfl rfl (congrArg V.bool ((decide_eq_false (fun h => by rw [h] at h_t22; exact h_t22 rfl)).symm))
  ·have hpl : a.places = b.places := by simpa using g2_2
   refine ok_skip ?_
   refine ok_seq ?_
   refine ok_reg ?_
   refine s1 rfl (lop_assign (v := .int _ _) rfl) ?_
   refine ops_nil ?_
   refine ok_block ?_
   refine ok_loop (ι := {i : Nat // i ≤ a.parts.length ∧ ∀ j, (h1 : j < a.parts.length) → (h2 : j < b.parts.length) → j < i → a.parts[j] = b.parts[j]}) (fun i => ⟨[(2, .rf 2 0), (3, .rf 3 0), (6, i64 i.1)], [(2, some (true, a.enc)), (3, some (true, b.enc))], 88⟩) (fun i => a.parts.length - i.1) (⟨0, Nat.zero_le _, fun _ _ _ h => absurd h (Nat.not_lt_zero _)⟩) ?_ ?_
   ·exact le_mk ⟨rfl, rfl, rfl, trivial⟩ ⟨.inr rfl, .inr rfl, trivial⟩ rfl
   rintro ⟨i, hi, hn⟩
   dsimp only
   refine ok_seq ?_
   refine ok_reg ?_
   refine s1 rfl (lop_move (v := .int _ _) rfl) ?_
   first
    | refine s1 rfl (lop_fieldAddr_rf (fo := 5) rfl Try.underlying50 rfl rfl Try.sizeOf48 (by decide)) ?_
    | refine s1 rfl (lop_fieldAddr_fp (fo := 5) rfl Try.underlying50 rfl rfl Try.sizeOf48 (by decide) rfl) ?_
   first
    | refine s1 rfl (lop_load_rf rfl rfl Try.isAgg48 rfl) ?_
    | refine s1 rfl (lop_load_fp rfl Try.isAgg48 rfl) ?_
   refine s1 rfl (lop_len rfl Try.underlying48 ⟨⟨_, rfl⟩, rfl⟩) ?_
   refine s1 rfl (lop_lss rfl rfl) ?_
   refine ops_nil ?_
   first
    | refine ok_if _ rfl rfl (fun h_t27 => ?_) (fun h_t27 => ?_)
    | refine ok_cond rfl rfl (fun h_t27 => ?_) (fun h_t27 => ?_)
   ·have hi1 : i < a.parts.length := by omega
    have hi2 : i < b.parts.length := by omega
    refine ok_skip ?_
    refine ok_seq ?_
    refine ok_block ?_
    refine ok_drw Try.mixed ?_
    first
     | refine d1 rfl rfl (lop_fieldAddr_rf (fo := 5) rfl Try.underlying50 rfl rfl Try.sizeOf48 (by decide)) ?_
     | refine d1 rfl rfl (lop_fieldAddr_fp (fo := 5) rfl Try.underlying50 rfl rfl Try.sizeOf48 (by decide) rfl) ?_
    first
     | refine d1 rfl rfl (lop_load_rf rfl rfl Try.isAgg48 rfl) ?_
     | refine d1 rfl rfl (lop_load_fp rfl Try.isAgg48 rfl) ?_
    refine d1 rfl rfl (lop_move (v := .int _ _) rfl) ?_
    first
     | refine d1 rfl rfl (lop_indexAddr_os rfl rfl Try.underlying48 Try.sizeOf54 rfl hi1) ?_
     | refine d1 rfl rfl (lop_indexAddr_sl rfl rfl Try.underlying48 Try.sizeOf54 rfl hi1 (flat_at SpanD.len hi1) (flat_ne SpanD.len (by decide) hi1)) ?_
    first
     | refine d1 rfl rfl (lop_load_rf_agg rfl rfl Try.isAgg54 Try.sizeOf54 (by rw [List.length_append, SpanD.len]; omega) (by rw [List.take_append_of_le_length (by rw [SpanD.len]; omega), List.take_of_length_le (by rw [SpanD.len]; omega)])) ?_
     | refine d1 rfl rfl (lop_load_fp_agg rfl Try.isAgg54 Try.sizeOf54 (by rw [List.length_append, SpanD.len]; omega) (by rw [List.take_append_of_le_length (by rw [SpanD.len]; omega), List.take_of_length_le (by rw [SpanD.len]; omega)])) ?_
    first
     | refine d1 rfl rfl (lop_fieldAddr_rf (fo := 5) rfl Try.underlying50 rfl rfl Try.sizeOf48 (by decide)) ?_
     | refine d1 rfl rfl (lop_fieldAddr_fp (fo := 5) rfl Try.underlying50 rfl rfl Try.sizeOf48 (by decide) rfl) ?_
    first
     | refine d1 rfl rfl (lop_load_rf rfl rfl Try.isAgg48 rfl) ?_
     | refine d1 rfl rfl (lop_load_fp rfl Try.isAgg48 rfl) ?_
    refine d1 rfl rfl (lop_move (v := .int _ _) rfl) ?_
    first
     | refine d1 rfl rfl (lop_indexAddr_os rfl rfl Try.underlying48 Try.sizeOf54 rfl hi2) ?_
     | refine d1 rfl rfl (lop_indexAddr_sl rfl rfl Try.underlying48 Try.sizeOf54 rfl hi2 (flat_at SpanD.len hi2) (flat_ne SpanD.len (by decide) hi2)) ?_
    first
     | refine d1 rfl rfl (lop_load_rf_agg rfl rfl Try.isAgg54 Try.sizeOf54 (by rw [List.length_append, SpanD.len]; omega) (by rw [List.take_append_of_le_length (by rw [SpanD.len]; omega), List.take_of_length_le (by rw [SpanD.len]; omega)])) ?_
     | refine d1 rfl rfl (lop_load_fp_agg rfl Try.isAgg54 Try.sizeOf54 (by rw [List.length_append, SpanD.len]; omega) (by rw [List.take_append_of_le_length (by rw [SpanD.len]; omega), List.take_of_length_le (by rw [SpanD.len]; omega)])) ?_
    refine d1 rfl rfl (lop_aneq rfl rfl rfl rfl eqg54 (ne54 a.parts[i] b.parts[i])) ?_
    refine dr_nil (by kernel_rfl) ?_
    first
     | refine ok_if _ rfl rfl (fun h_t40 => ?_) (fun h_t40 => ?_)
     | refine ok_cond rfl rfl (fun h_t40 => ?_) (fun h_t40 => ?_)
    ·refine ok_reg ?_
     refine s1 rfl (lop_assign (v := .bool _) rfl) ?_
     refine ops_nil ?_
     refine ok_ret ?_
     exact ret_one rfl rfl rfl rfl (congrArg V.bool ((decide_eq_false (fun h => ne_at hi1 hi2 (by simpa using h_t40) (by rw [h]))).symm))
    ·refine ok_skip ?_
     refine ok_region ?_
     refine s1 rfl (lop_move (v := .int _ _) rfl) ?_
     refine s1 rfl (lop_bop rfl rfl rfl (bop_add (by omega) (by omega))) ?_
     refine s1 rfl (lop_assign (v := .int _ _) rfl) ?_
     refine ops_nil ?_
     exact ⟨⟨i + 1, by omega, eq_step hn hi1 hi2 (by simpa using h_t40)⟩, by simp only; omega, le_mk ⟨rfl, rfl, rfl, trivial⟩ ⟨.inr rfl, .inr rfl, trivial⟩ rfl⟩
   ·refine ok_exit ?_
    refine ok_reg ?_
    have hpp : a.parts = b.parts := eq_all (by omega) (fun j h1 h2 _ => hn j h1 h2 (by omega))
    first
     | refine s1 rfl (lop_fieldAddr_rf (fo := 0) rfl Try.underlying50 rfl rfl Try.sizeOf3 (by decide)) ?_
     | refine s1 rfl (lop_fieldAddr_fp (fo := 0) rfl Try.underlying50 rfl rfl Try.sizeOf3 (by decide) rfl) ?_
    first
     | refine s1 rfl (lop_load_rf rfl rfl Try.isAgg3 rfl) ?_
     | refine s1 rfl (lop_load_fp rfl Try.isAgg3 rfl) ?_
    first
     | refine s1 rfl (lop_fieldAddr_rf (fo := 0) rfl Try.underlying50 rfl rfl Try.sizeOf3 (by decide)) ?_
     | refine s1 rfl (lop_fieldAddr_fp (fo := 0) rfl Try.underlying50 rfl rfl Try.sizeOf3 (by decide) rfl) ?_
    first
     | refine s1 rfl (lop_load_rf rfl rfl Try.isAgg3 rfl) ?_
     | refine s1 rfl (lop_load_fp rfl Try.isAgg3 rfl) ?_
    refine s1 rfl (lop_eql rfl rfl) ?_
    refine s1 rfl (lop_move (v := .bool _) rfl) ?_
    first
     | refine gsplitP 5 rfl rfl (fun g9_5 p9_5 => ?_) (fun g9_5 p9_5 => ?_)
     | refine gsplitB 5 rfl rfl (fun g9_5 p9_5 => ?_) (fun g9_5 p9_5 => ?_)
    ·first
      | refine y1 rfl rfl g9_5 rfl (lop_fieldAddr_rf (fo := 1) rfl Try.underlying50 rfl rfl Try.sizeOf3 (by decide)) ?_
      | refine y1 rfl rfl g9_5 rfl (lop_fieldAddr_fp (fo := 1) rfl Try.underlying50 rfl rfl Try.sizeOf3 (by decide) rfl) ?_
     first
      | refine y1 rfl rfl g9_5 rfl (lop_load_rf rfl rfl Try.isAgg3 rfl) ?_
      | refine y1 rfl rfl g9_5 rfl (lop_load_fp rfl Try.isAgg3 rfl) ?_
     first
      | refine y1 rfl rfl g9_5 rfl (lop_fieldAddr_rf (fo := 1) rfl Try.underlying50 rfl rfl Try.sizeOf3 (by decide)) ?_
      | refine y1 rfl rfl g9_5 rfl (lop_fieldAddr_fp (fo := 1) rfl Try.underlying50 rfl rfl Try.sizeOf3 (by decide) rfl) ?_
     first
      | refine y1 rfl rfl g9_5 rfl (lop_load_rf rfl rfl Try.isAgg3 rfl) ?_
      | refine y1 rfl rfl g9_5 rfl (lop_load_fp rfl Try.isAgg3 rfl) ?_
     refine y1 rfl rfl g9_5 rfl (lop_eql rfl rfl) ?_
     first
      | refine s1 rfl (lop_pick_t (v := .bool _) rfl g9_5 rfl) ?_
      | refine s1 rfl (lop_pick_t (v := .bool _) rfl rfl rfl) ?_
      | refine s1 rfl (lop_pick_f (v := .bool _) rfl rfl rfl) ?_
      | refine s1 rfl (lop_pick rfl rfl rfl) ?_
     refine s1 rfl (lop_move (v := .bool _) rfl) ?_
     first
      | refine gsplitP 12 rfl rfl (fun g9_12 p9_12 => ?_) (fun g9_12 p9_12 => ?_)
      | refine gsplitB 12 rfl rfl (fun g9_12 p9_12 => ?_) (fun g9_12 p9_12 => ?_)
     ·first
       | refine y1 rfl rfl g9_12 rfl (lop_fieldAddr_rf (fo := 2) rfl Try.underlying50 rfl rfl Try.sizeOf3 (by decide)) ?_
       | refine y1 rfl rfl g9_12 rfl (lop_fieldAddr_fp (fo := 2) rfl Try.underlying50 rfl rfl Try.sizeOf3 (by decide) rfl) ?_
      first
       | refine y1 rfl rfl g9_12 rfl (lop_load_rf rfl rfl Try.isAgg3 rfl) ?_
       | refine y1 rfl rfl g9_12 rfl (lop_load_fp rfl Try.isAgg3 rfl) ?_
      first
       | refine y1 rfl rfl g9_12 rfl (lop_fieldAddr_rf (fo := 2) rfl Try.underlying50 rfl rfl Try.sizeOf3 (by decide)) ?_
       | refine y1 rfl rfl g9_12 rfl (lop_fieldAddr_fp (fo := 2) rfl Try.underlying50 rfl rfl Try.sizeOf3 (by decide) rfl) ?_
      first
       | refine y1 rfl rfl g9_12 rfl (lop_load_rf rfl rfl Try.isAgg3 rfl) ?_
       | refine y1 rfl rfl g9_12 rfl (lop_load_fp rfl Try.isAgg3 rfl) ?_
      refine y1 rfl rfl g9_12 rfl (lop_eql rfl rfl) ?_
      first
       | refine s1 rfl (lop_pick_t (v := .bool _) rfl g9_5 rfl) ?_
       | refine s1 rfl (lop_pick_t (v := .bool _) rfl g9_12 rfl) ?_
       | refine s1 rfl (lop_pick_t (v := .bool _) rfl rfl rfl) ?_
       | refine s1 rfl (lop_pick_f (v := .bool _) rfl rfl rfl) ?_
       | refine s1 rfl (lop_pick rfl rfl rfl) ?_
      refine s1 rfl (lop_move (v := .bool _) rfl) ?_
      first
       | refine gsplitP 19 rfl rfl (fun g9_19 p9_19 => ?_) (fun g9_19 p9_19 => ?_)
       | refine gsplitB 19 rfl rfl (fun g9_19 p9_19 => ?_) (fun g9_19 p9_19 => ?_)
      ·first
        | refine y1 rfl rfl g9_19 rfl (lop_fieldAddr_rf (fo := 3) rfl Try.underlying50 rfl rfl Try.sizeOf3 (by decide)) ?_
        | refine y1 rfl rfl g9_19 rfl (lop_fieldAddr_fp (fo := 3) rfl Try.underlying50 rfl rfl Try.sizeOf3 (by decide) rfl) ?_
       first
        | refine y1 rfl rfl g9_19 rfl (lop_load_rf rfl rfl Try.isAgg3 rfl) ?_
        | refine y1 rfl rfl g9_19 rfl (lop_load_fp rfl Try.isAgg3 rfl) ?_
       first
        | refine y1 rfl rfl g9_19 rfl (lop_fieldAddr_rf (fo := 3) rfl Try.underlying50 rfl rfl Try.sizeOf3 (by decide)) ?_
        | refine y1 rfl rfl g9_19 rfl (lop_fieldAddr_fp (fo := 3) rfl Try.underlying50 rfl rfl Try.sizeOf3 (by decide) rfl) ?_
       first
        | refine y1 rfl rfl g9_19 rfl (lop_load_rf rfl rfl Try.isAgg3 rfl) ?_
        | refine y1 rfl rfl g9_19 rfl (lop_load_fp rfl Try.isAgg3 rfl) ?_
       refine y1 rfl rfl g9_19 rfl (lop_eql rfl rfl) ?_
       first
        | refine s1 rfl (lop_pick_t (v := .bool _) rfl g9_5 rfl) ?_
        | refine s1 rfl (lop_pick_t (v := .bool _) rfl g9_12 rfl) ?_
        | refine s1 rfl (lop_pick_t (v := .bool _) rfl g9_19 rfl) ?_
        | refine s1 rfl (lop_pick_t (v := .bool _) rfl rfl rfl) ?_
        | refine s1 rfl (lop_pick_f (v := .bool _) rfl rfl rfl) ?_
        | refine s1 rfl (lop_pick rfl rfl rfl) ?_
       refine s1 rfl (lop_move (v := .bool _) rfl) ?_
       first
        | refine gsplitP 26 rfl rfl (fun g9_26 p9_26 => ?_) (fun g9_26 p9_26 => ?_)
        | refine gsplitB 26 rfl rfl (fun g9_26 p9_26 => ?_) (fun g9_26 p9_26 => ?_)
       ·first
         | refine y1 rfl rfl g9_26 rfl (lop_fieldAddr_rf (fo := 4) rfl Try.underlying50 rfl rfl Try.sizeOf3 (by decide)) ?_
         | refine y1 rfl rfl g9_26 rfl (lop_fieldAddr_fp (fo := 4) rfl Try.underlying50 rfl rfl Try.sizeOf3 (by decide) rfl) ?_
        first
         | refine y1 rfl rfl g9_26 rfl (lop_load_rf rfl rfl Try.isAgg3 rfl) ?_
         | refine y1 rfl rfl g9_26 rfl (lop_load_fp rfl Try.isAgg3 rfl) ?_
        first
         | refine y1 rfl rfl g9_26 rfl (lop_fieldAddr_rf (fo := 4) rfl Try.underlying50 rfl rfl Try.sizeOf3 (by decide)) ?_
         | refine y1 rfl rfl g9_26 rfl (lop_fieldAddr_fp (fo := 4) rfl Try.underlying50 rfl rfl Try.sizeOf3 (by decide) rfl) ?_
        first
         | refine y1 rfl rfl g9_26 rfl (lop_load_rf rfl rfl Try.isAgg3 rfl) ?_
         | refine y1 rfl rfl g9_26 rfl (lop_load_fp rfl Try.isAgg3 rfl) ?_
        refine y1 rfl rfl g9_26 rfl (lop_eql rfl rfl) ?_
        first
         | refine s1 rfl (lop_pick_t (v := .bool _) rfl g9_5 rfl) ?_
         | refine s1 rfl (lop_pick_t (v := .bool _) rfl g9_12 rfl) ?_
         | refine s1 rfl (lop_pick_t (v := .bool _) rfl g9_19 rfl) ?_
         | refine s1 rfl (lop_pick_t (v := .bool _) rfl g9_26 rfl) ?_
         | refine s1 rfl (lop_pick_t (v := .bool _) rfl rfl rfl) ?_
         | refine s1 rfl (lop_pick_f (v := .bool _) rfl rfl rfl) ?_
         | refine s1 rfl (lop_pick rfl rfl rfl) ?_
        refine s1 rfl (lop_move (v := .bool _) rfl) ?_
        first
         | refine gsplitP 33 rfl rfl (fun g9_33 p9_33 => ?_) (fun g9_33 p9_33 => ?_)
         | refine gsplitB 33 rfl rfl (fun g9_33 p9_33 => ?_) (fun g9_33 p9_33 => ?_)
        ·first
          | refine y1 rfl rfl g9_33 rfl (lop_fieldAddr_rf (fo := 7) rfl Try.underlying50 rfl rfl Try.sizeOf3 (by decide)) ?_
          | refine y1 rfl rfl g9_33 rfl (lop_fieldAddr_fp (fo := 7) rfl Try.underlying50 rfl rfl Try.sizeOf3 (by decide) rfl) ?_
         first
          | refine y1 rfl rfl g9_33 rfl (lop_load_rf rfl rfl Try.isAgg3 rfl) ?_
          | refine y1 rfl rfl g9_33 rfl (lop_load_fp rfl Try.isAgg3 rfl) ?_
         first
          | refine y1 rfl rfl g9_33 rfl (lop_fieldAddr_rf (fo := 7) rfl Try.underlying50 rfl rfl Try.sizeOf3 (by decide)) ?_
          | refine y1 rfl rfl g9_33 rfl (lop_fieldAddr_fp (fo := 7) rfl Try.underlying50 rfl rfl Try.sizeOf3 (by decide) rfl) ?_
         first
          | refine y1 rfl rfl g9_33 rfl (lop_load_rf rfl rfl Try.isAgg3 rfl) ?_
          | refine y1 rfl rfl g9_33 rfl (lop_load_fp rfl Try.isAgg3 rfl) ?_
         refine y1 rfl rfl g9_33 rfl (lop_eql rfl rfl) ?_
         first
          | refine s1 rfl (lop_pick_t (v := .bool _) rfl g9_5 rfl) ?_
          | refine s1 rfl (lop_pick_t (v := .bool _) rfl g9_12 rfl) ?_
          | refine s1 rfl (lop_pick_t (v := .bool _) rfl g9_19 rfl) ?_
          | refine s1 rfl (lop_pick_t (v := .bool _) rfl g9_26 rfl) ?_
          | refine s1 rfl (lop_pick_t (v := .bool _) rfl g9_33 rfl) ?_
          | refine s1 rfl (lop_pick_t (v := .bool _) rfl rfl rfl) ?_
          | refine s1 rfl (lop_pick_f (v := .bool _) rfl rfl rfl) ?_
          | refine s1 rfl (lop_pick rfl rfl rfl) ?_
         refine s1 rfl (lop_move (v := .bool _) rfl) ?_
         first
          | refine gsplitP 40 rfl rfl (fun g9_40 p9_40 => ?_) (fun g9_40 p9_40 => ?_)
          | refine gsplitB 40 rfl rfl (fun g9_40 p9_40 => ?_) (fun g9_40 p9_40 => ?_)
         ·first
           | refine y1 rfl rfl g9_40 rfl (lop_fieldAddr_rf (fo := 8) rfl Try.underlying50 rfl rfl Try.sizeOf3 (by decide)) ?_
           | refine y1 rfl rfl g9_40 rfl (lop_fieldAddr_fp (fo := 8) rfl Try.underlying50 rfl rfl Try.sizeOf3 (by decide) rfl) ?_
          first
           | refine y1 rfl rfl g9_40 rfl (lop_load_rf rfl rfl Try.isAgg3 rfl) ?_
           | refine y1 rfl rfl g9_40 rfl (lop_load_fp rfl Try.isAgg3 rfl) ?_
          first
           | refine y1 rfl rfl g9_40 rfl (lop_fieldAddr_rf (fo := 8) rfl Try.underlying50 rfl rfl Try.sizeOf3 (by decide)) ?_
           | refine y1 rfl rfl g9_40 rfl (lop_fieldAddr_fp (fo := 8) rfl Try.underlying50 rfl rfl Try.sizeOf3 (by decide) rfl) ?_
          first
           | refine y1 rfl rfl g9_40 rfl (lop_load_rf rfl rfl Try.isAgg3 rfl) ?_
           | refine y1 rfl rfl g9_40 rfl (lop_load_fp rfl Try.isAgg3 rfl) ?_
          refine y1 rfl rfl g9_40 rfl (lop_eql rfl rfl) ?_
          first
           | refine s1 rfl (lop_pick_t (v := .bool _) rfl g9_5 rfl) ?_
           | refine s1 rfl (lop_pick_t (v := .bool _) rfl g9_12 rfl) ?_
           | refine s1 rfl (lop_pick_t (v := .bool _) rfl g9_19 rfl) ?_
           | refine s1 rfl (lop_pick_t (v := .bool _) rfl g9_26 rfl) ?_
           | refine s1 rfl (lop_pick_t (v := .bool _) rfl g9_33 rfl) ?_
           | refine s1 rfl (lop_pick_t (v := .bool _) rfl g9_40 rfl) ?_
           | refine s1 rfl (lop_pick_t (v := .bool _) rfl rfl rfl) ?_
           | refine s1 rfl (lop_pick_f (v := .bool _) rfl rfl rfl) ?_
           | refine s1 rfl (lop_pick rfl rfl rfl) ?_
          refine s1 rfl (lop_assign (v := .bool _) rfl) ?_
          refine ops_nil ?_
          refine ok_ret ?_
          exact ret_one rfl rfl rfl rfl (congrArg V.bool (by rw [vol_eq hpl hpp]; first | (refine decide_eq_decide.2 ?_; omega) | (refine (decide_eq_false ?_).symm; omega)))
         ·refine n1 rfl rfl g9_40 ?_
          refine n1 rfl rfl g9_40 ?_
          refine n1 rfl rfl g9_40 ?_
          refine n1 rfl rfl g9_40 ?_
          refine n1 rfl rfl g9_40 ?_
          first
           | refine s1 rfl (lop_pick_t (v := .bool _) rfl g9_5 rfl) ?_
           | refine s1 rfl (lop_pick_t (v := .bool _) rfl g9_12 rfl) ?_
           | refine s1 rfl (lop_pick_t (v := .bool _) rfl g9_19 rfl) ?_
           | refine s1 rfl (lop_pick_t (v := .bool _) rfl g9_26 rfl) ?_
           | refine s1 rfl (lop_pick_t (v := .bool _) rfl g9_33 rfl) ?_
           | refine s1 rfl (lop_pick_f (v := .bool _) rfl g9_40 rfl) ?_
           | refine s1 rfl (lop_pick_t (v := .bool _) rfl rfl rfl) ?_
           | refine s1 rfl (lop_pick_f (v := .bool _) rfl rfl rfl) ?_
           | refine s1 rfl (lop_pick rfl rfl rfl) ?_
          refine s1 rfl (lop_assign (v := .bool _) rfl) ?_
          refine ops_nil ?_
          refine ok_ret ?_
          exact ret_one rfl rfl rfl rfl (congrArg V.bool (by rw [vol_eq hpl hpp]; first | (refine decide_eq_decide.2 ?_; omega) | (refine (decide_eq_false ?_).symm; omega)))
        ·refine n1 rfl rfl g9_33 ?_
         refine n1 rfl rfl g9_33 ?_
         refine n1 rfl rfl g9_33 ?_
         refine n1 rfl rfl g9_33 ?_
         refine n1 rfl rfl g9_33 ?_
         first
          | refine s1 rfl (lop_pick_t (v := .bool _) rfl g9_5 rfl) ?_
          | refine s1 rfl (lop_pick_t (v := .bool _) rfl g9_12 rfl) ?_
          | refine s1 rfl (lop_pick_t (v := .bool _) rfl g9_19 rfl) ?_
          | refine s1 rfl (lop_pick_t (v := .bool _) rfl g9_26 rfl) ?_
          | refine s1 rfl (lop_pick_f (v := .bool _) rfl g9_33 rfl) ?_
          | refine s1 rfl (lop_pick_t (v := .bool _) rfl rfl rfl) ?_
          | refine s1 rfl (lop_pick_f (v := .bool _) rfl rfl rfl) ?_
          | refine s1 rfl (lop_pick rfl rfl rfl) ?_
         refine s1 rfl (lop_move (v := .bool _) rfl) ?_
         refine n1 rfl rfl rfl ?_
         refine n1 rfl rfl rfl ?_
         refine n1 rfl rfl rfl ?_
         refine n1 rfl rfl rfl ?_
         refine n1 rfl rfl rfl ?_
         first
          | refine s1 rfl (lop_pick_t (v := .bool _) rfl g9_5 rfl) ?_
          | refine s1 rfl (lop_pick_t (v := .bool _) rfl g9_12 rfl) ?_
          | refine s1 rfl (lop_pick_t (v := .bool _) rfl g9_19 rfl) ?_
          | refine s1 rfl (lop_pick_t (v := .bool _) rfl g9_26 rfl) ?_
          | refine s1 rfl (lop_pick_f (v := .bool _) rfl g9_33 rfl) ?_
          | refine s1 rfl (lop_pick_f (v := .bool _) rfl rfl rfl) ?_
          | refine s1 rfl (lop_pick_t (v := .bool _) rfl rfl rfl) ?_
          | refine s1 rfl (lop_pick_f (v := .bool _) rfl rfl rfl) ?_
          | refine s1 rfl (lop_pick rfl rfl rfl) ?_
         refine s1 rfl (lop_assign (v := .bool _) rfl) ?_
         refine ops_nil ?_
         refine ok_ret ?_
         exact ret_one rfl rfl rfl rfl (congrArg V.bool (by rw [vol_eq hpl hpp]; first | (refine decide_eq_decide.2 ?_; omega) | (refine (decide_eq_false ?_).symm; omega)))
       ·refine n1 rfl rfl g9_26 ?_
        refine n1 rfl rfl g9_26 ?_
        refine n1 rfl rfl g9_26 ?_
        refine n1 rfl rfl g9_26 ?_
        refine n1 rfl rfl g9_26 ?_
        first
         | refine s1 rfl (lop_pick_t (v := .bool _) rfl g9_5 rfl) ?_
         | refine s1 rfl (lop_pick_t (v := .bool _) rfl g9_12 rfl) ?_
         | refine s1 rfl (lop_pick_t (v := .bool _) rfl g9_19 rfl) ?_
         | refine s1 rfl (lop_pick_f (v := .bool _) rfl g9_26 rfl) ?_
         | refine s1 rfl (lop_pick_t (v := .bool _) rfl rfl rfl) ?_
         | refine s1 rfl (lop_pick_f (v := .bool _) rfl rfl rfl) ?_
         | refine s1 rfl (lop_pick rfl rfl rfl) ?_
        refine s1 rfl (lop_move (v := .bool _) rfl) ?_
        refine n1 rfl rfl rfl ?_
        refine n1 rfl rfl rfl ?_
        refine n1 rfl rfl rfl ?_
        refine n1 rfl rfl rfl ?_
        refine n1 rfl rfl rfl ?_
        first
         | refine s1 rfl (lop_pick_t (v := .bool _) rfl g9_5 rfl) ?_
         | refine s1 rfl (lop_pick_t (v := .bool _) rfl g9_12 rfl) ?_
         | refine s1 rfl (lop_pick_t (v := .bool _) rfl g9_19 rfl) ?_
         | refine s1 rfl (lop_pick_f (v := .bool _) rfl g9_26 rfl) ?_
         | refine s1 rfl (lop_pick_f (v := .bool _) rfl rfl rfl) ?_
         | refine s1 rfl (lop_pick_t (v := .bool _) rfl rfl rfl) ?_
         | refine s1 rfl (lop_pick_f (v := .bool _) rfl rfl rfl) ?_
         | refine s1 rfl (lop_pick rfl rfl rfl) ?_
        refine s1 rfl (lop_move (v := .bool _) rfl) ?_
        refine n1 rfl rfl rfl ?_
        refine n1 rfl rfl rfl ?_
        refine n1 rfl rfl rfl ?_
        refine n1 rfl rfl rfl ?_
        refine n1 rfl rfl rfl ?_
        first
         | refine s1 rfl (lop_pick_t (v := .bool _) rfl g9_5 rfl) ?_
         | refine s1 rfl (lop_pick_t (v := .bool _) rfl g9_12 rfl) ?_
         | refine s1 rfl (lop_pick_t (v := .bool _) rfl g9_19 rfl) ?_
         | refine s1 rfl (lop_pick_f (v := .bool _) rfl g9_26 rfl) ?_
         | refine s1 rfl (lop_pick_f (v := .bool _) rfl rfl rfl) ?_
         | refine s1 rfl (lop_pick_f (v := .bool _) rfl rfl rfl) ?_
         | refine s1 rfl (lop_pick_t (v := .bool _) rfl rfl rfl) ?_
         | refine s1 rfl (lop_pick_f (v := .bool _) rfl rfl rfl) ?_
         | refine s1 rfl (lop_pick rfl rfl rfl) ?_
        refine s1 rfl (lop_assign (v := .bool _) rfl) ?_
        refine ops_nil ?_
        refine ok_ret ?_
        exact ret_one rfl rfl rfl rfl (congrArg V.bool (by rw [vol_eq hpl hpp]; first | (refine decide_eq_decide.2 ?_; omega) | (refine (decide_eq_false ?_).symm; omega)))
      ·refine n1 rfl rfl g9_19 ?_
       refine n1 rfl rfl g9_19 ?_
       refine n1 rfl rfl g9_19 ?_
       refine n1 rfl rfl g9_19 ?_
       refine n1 rfl rfl g9_19 ?_
       first
        | refine s1 rfl (lop_pick_t (v := .bool _) rfl g9_5 rfl) ?_
        | refine s1 rfl (lop_pick_t (v := .bool _) rfl g9_12 rfl) ?_
        | refine s1 rfl (lop_pick_f (v := .bool _) rfl g9_19 rfl) ?_
        | refine s1 rfl (lop_pick_t (v := .bool _) rfl rfl rfl) ?_
        | refine s1 rfl (lop_pick_f (v := .bool _) rfl rfl rfl) ?_
        | refine s1 rfl (lop_pick rfl rfl rfl) ?_
       refine s1 rfl (lop_move (v := .bool _) rfl) ?_
       refine n1 rfl rfl rfl ?_
       refine n1 rfl rfl rfl ?_
       refine n1 rfl rfl rfl ?_
       refine n1 rfl rfl rfl ?_
       refine n1 rfl rfl rfl ?_
       first
        | refine s1 rfl (lop_pick_t (v := .bool _) rfl g9_5 rfl) ?_
        | refine s1 rfl (lop_pick_t (v := .bool _) rfl g9_12 rfl) ?_
        | refine s1 rfl (lop_pick_f (v := .bool _) rfl g9_19 rfl) ?_
        | refine s1 rfl (lop_pick_f (v := .bool _) rfl rfl rfl) ?_
        | refine s1 rfl (lop_pick_t (v := .bool _) rfl rfl rfl) ?_
        | refine s1 rfl (lop_pick_f (v := .bool _) rfl rfl rfl) ?_
        | refine s1 rfl (lop_pick rfl rfl rfl) ?_
       refine s1 rfl (lop_move (v := .bool _) rfl) ?_
       refine n1 rfl rfl rfl ?_
       refine n1 rfl rfl rfl ?_
       refine n1 rfl rfl rfl ?_
       refine n1 rfl rfl rfl ?_
       refine n1 rfl rfl rfl ?_
       first
        | refine s1 rfl (lop_pick_t (v := .bool _) rfl g9_5 rfl) ?_
        | refine s1 rfl (lop_pick_t (v := .bool _) rfl g9_12 rfl) ?_
        | refine s1 rfl (lop_pick_f (v := .bool _) rfl g9_19 rfl) ?_
        | refine s1 rfl (lop_pick_f (v := .bool _) rfl rfl rfl) ?_
        | refine s1 rfl (lop_pick_f (v := .bool _) rfl rfl rfl) ?_
        | refine s1 rfl (lop_pick_t (v := .bool _) rfl rfl rfl) ?_
        | refine s1 rfl (lop_pick_f (v := .bool _) rfl rfl rfl) ?_
        | refine s1 rfl (lop_pick rfl rfl rfl) ?_
       refine s1 rfl (lop_move (v := .bool _) rfl) ?_
       refine n1 rfl rfl rfl ?_
       refine n1 rfl rfl rfl ?_
       refine n1 rfl rfl rfl ?_
       refine n1 rfl rfl rfl ?_
       refine n1 rfl rfl rfl ?_
       first
        | refine s1 rfl (lop_pick_t (v := .bool _) rfl g9_5 rfl) ?_
        | refine s1 rfl (lop_pick_t (v := .bool _) rfl g9_12 rfl) ?_
        | refine s1 rfl (lop_pick_f (v := .bool _) rfl g9_19 rfl) ?_
        | refine s1 rfl (lop_pick_f (v := .bool _) rfl rfl rfl) ?_
        | refine s1 rfl (lop_pick_f (v := .bool _) rfl rfl rfl) ?_
        | refine s1 rfl (lop_pick_f (v := .bool _) rfl rfl rfl) ?_
        | refine s1 rfl (lop_pick_t (v := .bool _) rfl rfl rfl) ?_
        | refine s1 rfl (lop_pick_f (v := .bool _) rfl rfl rfl) ?_
        | refine s1 rfl (lop_pick rfl rfl rfl) ?_
       refine s1 rfl (lop_assign (v := .bool _) rfl) ?_
       refine ops_nil ?_
       refine ok_ret ?_
       exact ret_one rfl rfl rfl rfl (congrArg V.bool (by rw [vol_eq hpl hpp]; first | (refine decide_eq_decide.2 ?_; omega) | (refine (decide_eq_false ?_).symm; omega)))
     ·refine n1 rfl rfl g9_12 ?_
      refine n1 rfl rfl g9_12 ?_
      refine n1 rfl rfl g9_12 ?_
      refine n1 rfl rfl g9_12 ?_
      refine n1 rfl rfl g9_12 ?_
      first
       | refine s1 rfl (lop_pick_t (v := .bool _) rfl g9_5 rfl) ?_
       | refine s1 rfl (lop_pick_f (v := .bool _) rfl g9_12 rfl) ?_
       | refine s1 rfl (lop_pick_t (v := .bool _) rfl rfl rfl) ?_
       | refine s1 rfl (lop_pick_f (v := .bool _) rfl rfl rfl) ?_
       | refine s1 rfl (lop_pick rfl rfl rfl) ?_
      refine s1 rfl (lop_move (v := .bool _) rfl) ?_
      refine n1 rfl rfl rfl ?_
      refine n1 rfl rfl rfl ?_
      refine n1 rfl rfl rfl ?_
      refine n1 rfl rfl rfl ?_
      refine n1 rfl rfl rfl ?_
      first
       | refine s1 rfl (lop_pick_t (v := .bool _) rfl g9_5 rfl) ?_
       | refine s1 rfl (lop_pick_f (v := .bool _) rfl g9_12 rfl) ?_
       | refine s1 rfl (lop_pick_f (v := .bool _) rfl rfl rfl) ?_
       | refine s1 rfl (lop_pick_t (v := .bool _) rfl rfl rfl) ?_
       | refine s1 rfl (lop_pick_f (v := .bool _) rfl rfl rfl) ?_
       | refine s1 rfl (lop_pick rfl rfl rfl) ?_
      refine s1 rfl (lop_move (v := .bool _) rfl) ?_
      refine n1 rfl rfl rfl ?_
      refine n1 rfl rfl rfl ?_
      refine n1 rfl rfl rfl ?_
      refine n1 rfl rfl rfl ?_
      refine n1 rfl rfl rfl ?_
      first
       | refine s1 rfl (lop_pick_t (v := .bool _) rfl g9_5 rfl) ?_
       | refine s1 rfl (lop_pick_f (v := .bool _) rfl g9_12 rfl) ?_
       | refine s1 rfl (lop_pick_f (v := .bool _) rfl rfl rfl) ?_
       | refine s1 rfl (lop_pick_f (v := .bool _) rfl rfl rfl) ?_
       | refine s1 rfl (lop_pick_t (v := .bool _) rfl rfl rfl) ?_
       | refine s1 rfl (lop_pick_f (v := .bool _) rfl rfl rfl) ?_
       | refine s1 rfl (lop_pick rfl rfl rfl) ?_
      refine s1 rfl (lop_move (v := .bool _) rfl) ?_
      refine n1 rfl rfl rfl ?_
      refine n1 rfl rfl rfl ?_
      refine n1 rfl rfl rfl ?_
      refine n1 rfl rfl rfl ?_
      refine n1 rfl rfl rfl ?_
      first
       | refine s1 rfl (lop_pick_t (v := .bool _) rfl g9_5 rfl) ?_
       | refine s1 rfl (lop_pick_f (v := .bool _) rfl g9_12 rfl) ?_
       | refine s1 rfl (lop_pick_f (v := .bool _) rfl rfl rfl) ?_
       | refine s1 rfl (lop_pick_f (v := .bool _) rfl rfl rfl) ?_
       | refine s1 rfl (lop_pick_f (v := .bool _) rfl rfl rfl) ?_
       | refine s1 rfl (lop_pick_t (v := .bool _) rfl rfl rfl) ?_
       | refine s1 rfl (lop_pick_f (v := .bool _) rfl rfl rfl) ?_
       | refine s1 rfl (lop_pick rfl rfl rfl) ?_
      refine s1 rfl (lop_move (v := .bool _) rfl) ?_
      refine n1 rfl rfl rfl ?_
      refine n1 rfl rfl rfl ?_
      refine n1 rfl rfl rfl ?_
      refine n1 rfl rfl rfl ?_
      refine n1 rfl rfl rfl ?_
      first
       | refine s1 rfl (lop_pick_t (v := .bool _) rfl g9_5 rfl) ?_
       | refine s1 rfl (lop_pick_f (v := .bool _) rfl g9_12 rfl) ?_
       | refine s1 rfl (lop_pick_f (v := .bool _) rfl rfl rfl) ?_
       | refine s1 rfl (lop_pick_f (v := .bool _) rfl rfl rfl) ?_
       | refine s1 rfl (lop_pick_f (v := .bool _) rfl rfl rfl) ?_
       | refine s1 rfl (lop_pick_f (v := .bool _) rfl rfl rfl) ?_
       | refine s1 rfl (lop_pick_t (v := .bool _) rfl rfl rfl) ?_
       | refine s1 rfl (lop_pick_f (v := .bool _) rfl rfl rfl) ?_
       | refine s1 rfl (lop_pick rfl rfl rfl) ?_
      refine s1 rfl (lop_assign (v := .bool _) rfl) ?_
      refine ops_nil ?_
      refine ok_ret ?_
      exact ret_one rfl rfl rfl rfl (congrArg V.bool (by rw [vol_eq hpl hpp]; first | (refine decide_eq_decide.2 ?_; omega) | (refine (decide_eq_false ?_).symm; omega)))
    ·refine n1 rfl rfl g9_5 ?_
     refine n1 rfl rfl g9_5 ?_
     refine n1 rfl rfl g9_5 ?_
     refine n1 rfl rfl g9_5 ?_
     refine n1 rfl rfl g9_5 ?_
     first
      | refine s1 rfl (lop_pick_f (v := .bool _) rfl g9_5 rfl) ?_
      | refine s1 rfl (lop_pick_t (v := .bool _) rfl rfl rfl) ?_
      | refine s1 rfl (lop_pick_f (v := .bool _) rfl rfl rfl) ?_
      | refine s1 rfl (lop_pick rfl rfl rfl) ?_
     refine s1 rfl (lop_move (v := .bool _) rfl) ?_
     refine n1 rfl rfl rfl ?_
     refine n1 rfl rfl rfl ?_
     refine n1 rfl rfl rfl ?_
     refine n1 rfl rfl rfl ?_
     refine n1 rfl rfl rfl ?_
     first
      | refine s1 rfl (lop_pick_f (v := .bool _) rfl g9_5 rfl) ?_
      | refine s1 rfl (lop_pick_f (v := .bool _) rfl rfl rfl) ?_
      | refine s1 rfl (lop_pick_t (v := .bool _) rfl rfl rfl) ?_
      | refine s1 rfl (lop_pick_f (v := .bool _) rfl rfl rfl) ?_
      | refine s1 rfl (lop_pick rfl rfl rfl) ?_
     refine s1 rfl (lop_move (v := .bool _) rfl) ?_
     refine n1 rfl rfl rfl ?_
     refine n1 rfl rfl rfl ?_
     refine n1 rfl rfl rfl ?_
     refine n1 rfl rfl rfl ?_
     refine n1 rfl rfl rfl ?_
     first
      | refine s1 rfl (lop_pick_f (v := .bool _) rfl g9_5 rfl) ?_
      | refine s1 rfl (lop_pick_f (v := .bool _) rfl rfl rfl) ?_
      | refine s1 rfl (lop_pick_f (v := .bool _) rfl rfl rfl) ?_
      | refine s1 rfl (lop_pick_t (v := .bool _) rfl rfl rfl) ?_
      | refine s1 rfl (lop_pick_f (v := .bool _) rfl rfl rfl) ?_
      | refine s1 rfl (lop_pick rfl rfl rfl) ?_
     refine s1 rfl (lop_move (v := .bool _) rfl) ?_
     refine n1 rfl rfl rfl ?_
     refine n1 rfl rfl rfl ?_
     refine n1 rfl rfl rfl ?_
     refine n1 rfl rfl rfl ?_
     refine n1 rfl rfl rfl ?_
     first
      | refine s1 rfl (lop_pick_f (v := .bool _) rfl g9_5 rfl) ?_
      | refine s1 rfl (lop_pick_f (v := .bool _) rfl rfl rfl) ?_
      | refine s1 rfl (lop_pick_f (v := .bool _) rfl rfl rfl) ?_
      | refine s1 rfl (lop_pick_f (v := .bool _) rfl rfl rfl) ?_
      | refine s1 rfl (lop_pick_t (v := .bool _) rfl rfl rfl) ?_
      | refine s1 rfl (lop_pick_f (v := .bool _) rfl rfl rfl) ?_
      | refine s1 rfl (lop_pick rfl rfl rfl) ?_
     refine s1 rfl (lop_move (v := .bool _) rfl) ?_
     refine n1 rfl rfl rfl ?_
     refine n1 rfl rfl rfl ?_
     refine n1 rfl rfl rfl ?_
     refine n1 rfl rfl rfl ?_
     refine n1 rfl rfl rfl ?_
     first
      | refine s1 rfl (lop_pick_f (v := .bool _) rfl g9_5 rfl) ?_
      | refine s1 rfl (lop_pick_f (v := .bool _) rfl rfl rfl) ?_
      | refine s1 rfl (lop_pick_f (v := .bool _) rfl rfl rfl) ?_
      | refine s1 rfl (lop_pick_f (v := .bool _) rfl rfl rfl) ?_
      | refine s1 rfl (lop_pick_f (v := .bool _) rfl rfl rfl) ?_
      | refine s1 rfl (lop_pick_t (v := .bool _) rfl rfl rfl) ?_
      | refine s1 rfl (lop_pick_f (v := .bool _) rfl rfl rfl) ?_
      | refine s1 rfl (lop_pick rfl rfl rfl) ?_
     refine s1 rfl (lop_move (v := .bool _) rfl) ?_
     refine n1 rfl rfl rfl ?_
     refine n1 rfl rfl rfl ?_
     refine n1 rfl rfl rfl ?_
     refine n1 rfl rfl rfl ?_
     refine n1 rfl rfl rfl ?_
     first
      | refine s1 rfl (lop_pick_f (v := .bool _) rfl g9_5 rfl) ?_
      | refine s1 rfl (lop_pick_f (v := .bool _) rfl rfl rfl) ?_
      | refine s1 rfl (lop_pick_f (v := .bool _) rfl rfl rfl) ?_
      | refine s1 rfl (lop_pick_f (v := .bool _) rfl rfl rfl) ?_
      | refine s1 rfl (lop_pick_f (v := .bool _) rfl rfl rfl) ?_
      | refine s1 rfl (lop_pick_f (v := .bool _) rfl rfl rfl) ?_
      | refine s1 rfl (lop_pick_t (v := .bool _) rfl rfl rfl) ?_
      | refine s1 rfl (lop_pick_f (v := .bool _) rfl rfl rfl) ?_
      | refine s1 rfl (lop_pick rfl rfl rfl) ?_
     refine s1 rfl (lop_assign (v := .bool _) rfl) ?_
     refine ops_nil ?_
     refine ok_ret ?_
     exact ret_one rfl rfl rfl rfl (congrArg V.bool (by rw [vol_eq hpl hpp]; first | (refine decide_eq_decide.2 ?_; omega) | (refine (decide_eq_false ?_).symm; omega)))

theorem ref15_Same_ac {x y : IdxD} (hx : Fit 549755000000 x) : AC Try.prog 13 [.agg x.enc, .agg y.enc] (.bool (sameF x y)) := by
 have hxv := hx.vols
 have hxn := hx.names
 have hxl := hx.last
 refine AC.intro Try.func13 rfl (Nat.le_of_ble_eq_true rfl) ?_
 refine ok_reg ?_
 first
  | refine s1w rfl (lop_box (t := 2) (v := .agg [_, _, _]) (f := true) (cs := [_, _, _]) rfl rfl rfl rfl (fun h => by cases h)) rfl ?_
  | refine s1w rfl (lop_box (t := 2) (v := .agg [_, _, _]) (f := false) (cs := [_, _, _]) rfl rfl rfl rfl (fun _ => rfl)) rfl ?_
 first
  | refine s1w rfl (lop_box (t := 3) (v := .agg [_, _, _]) (f := true) (cs := [_, _, _]) rfl rfl rfl rfl (fun h => by cases h)) rfl ?_
  | refine s1w rfl (lop_box (t := 3) (v := .agg [_, _, _]) (f := false) (cs := [_, _, _]) rfl rfl rfl rfl (fun _ => rfl)) rfl ?_
 refine s1 rfl (lop_assign (v := .bool _) rfl) ?_
 refine ops_nil ?_
 refine ok_seq ?_
 refine ok_reg ?_
 first
  | refine s1 rfl (lop_fieldAddr_rf (fo := 0) rfl Try.underlying26 rfl rfl Try.sizeOf22 (by decide)) ?_
  | refine s1 rfl (lop_fieldAddr_fp (fo := 0) rfl Try.underlying26 rfl rfl Try.sizeOf22 (by decide) rfl) ?_
 first
  | refine s1 rfl (lop_load_rf rfl rfl Try.isAgg22 rfl) ?_
  | refine s1 rfl (lop_load_fp rfl Try.isAgg22 rfl) ?_
 refine s1 rfl (lop_len rfl Try.underlying22 ⟨⟨_, rfl⟩, rfl⟩) ?_
 first
  | refine s1 rfl (lop_fieldAddr_rf (fo := 0) rfl Try.underlying26 rfl rfl Try.sizeOf22 (by decide)) ?_
  | refine s1 rfl (lop_fieldAddr_fp (fo := 0) rfl Try.underlying26 rfl rfl Try.sizeOf22 (by decide) rfl) ?_
 first
  | refine s1 rfl (lop_load_rf rfl rfl Try.isAgg22 rfl) ?_
  | refine s1 rfl (lop_load_fp rfl Try.isAgg22 rfl) ?_
 refine s1 rfl (lop_len rfl Try.underlying22 ⟨⟨_, rfl⟩, rfl⟩) ?_
 refine s1 rfl (lop_neq rfl rfl) ?_
 refine s1 rfl (lop_move (v := .bool _) rfl) ?_
 first
  | refine gsplitP 7 rfl rfl (fun g1_7 p1_7 => ?_) (fun g1_7 p1_7 => ?_)
  | refine gsplitB 7 rfl rfl (fun g1_7 p1_7 => ?_) (fun g1_7 p1_7 => ?_)
 ·refine n1 rfl rfl g1_7 ?_
  refine n1 rfl rfl g1_7 ?_
  refine n1 rfl rfl g1_7 ?_
  refine n1 rfl rfl g1_7 ?_
  refine n1 rfl rfl g1_7 ?_
  refine n1 rfl rfl g1_7 ?_
  refine n1 rfl rfl g1_7 ?_
  first
   | refine s1 rfl (lop_pick_t (v := .bool _) rfl g1_7 rfl) ?_
   | refine s1 rfl (lop_pick_t (v := .bool _) rfl rfl rfl) ?_
   | refine s1 rfl (lop_pick_f (v := .bool _) rfl rfl rfl) ?_
   | refine s1 rfl (lop_pick rfl rfl rfl) ?_
  refine s1 rfl (lop_move (v := .bool _) rfl) ?_
  refine n1 rfl rfl rfl ?_
  refine n1 rfl rfl rfl ?_
  refine n1 rfl rfl rfl ?_
  refine n1 rfl rfl rfl ?_
  refine n1 rfl rfl rfl ?_
  refine n1 rfl rfl rfl ?_
  refine n1 rfl rfl rfl ?_
  first
   | refine s1 rfl (lop_pick_t (v := .bool _) rfl g1_7 rfl) ?_
   | refine s1 rfl (lop_pick_t (v := .bool _) rfl rfl rfl) ?_
   | refine s1 rfl (lop_pick_t (v := .bool _) rfl rfl rfl) ?_
   | refine s1 rfl (lop_pick_f (v := .bool _) rfl rfl rfl) ?_
   | refine s1 rfl (lop_pick rfl rfl rfl) ?_
  refine ops_nil ?_
  refine ok_true rfl rfl ?_
  refine ok_reg ?_
  refine s1 rfl (lop_assign (v := .bool _) rfl) ?_
  refine ops_nil ?_
  refine ok_ret ?_
  exact ret_one rfl rfl rfl rfl (congrArg V.bool (same_no (.inl (ne_len (by omega)))))
 ·first
   | refine y1 rfl rfl g1_7 rfl (lop_fieldAddr_rf (fo := 1) rfl Try.underlying26 rfl rfl Try.sizeOf23 (by decide)) ?_
   | refine y1 rfl rfl g1_7 rfl (lop_fieldAddr_fp (fo := 1) rfl Try.underlying26 rfl rfl Try.sizeOf23 (by decide) rfl) ?_
  first
   | refine y1 rfl rfl g1_7 rfl (lop_load_rf rfl rfl Try.isAgg23 rfl) ?_
   | refine y1 rfl rfl g1_7 rfl (lop_load_fp rfl Try.isAgg23 rfl) ?_
  refine y1 rfl rfl g1_7 rfl (lop_len rfl Try.underlying23 ⟨⟨_, rfl⟩, rfl⟩) ?_
  first
   | refine y1 rfl rfl g1_7 rfl (lop_fieldAddr_rf (fo := 1) rfl Try.underlying26 rfl rfl Try.sizeOf23 (by decide)) ?_
   | refine y1 rfl rfl g1_7 rfl (lop_fieldAddr_fp (fo := 1) rfl Try.underlying26 rfl rfl Try.sizeOf23 (by decide) rfl) ?_
  first
   | refine y1 rfl rfl g1_7 rfl (lop_load_rf rfl rfl Try.isAgg23 rfl) ?_
   | refine y1 rfl rfl g1_7 rfl (lop_load_fp rfl Try.isAgg23 rfl) ?_
  refine y1 rfl rfl g1_7 rfl (lop_len rfl Try.underlying23 ⟨⟨_, rfl⟩, rfl⟩) ?_
  refine y1 rfl rfl g1_7 rfl (lop_neq rfl rfl) ?_
  first
   | refine s1 rfl (lop_pick_f (v := .bool _) rfl g1_7 rfl) ?_
   | refine s1 rfl (lop_pick_t (v := .bool _) rfl rfl rfl) ?_
   | refine s1 rfl (lop_pick_f (v := .bool _) rfl rfl rfl) ?_
   | refine s1 rfl (lop_pick rfl rfl rfl) ?_
  refine s1 rfl (lop_move (v := .bool _) rfl) ?_
  first
   | refine gsplitP 16 rfl rfl (fun g1_16 p1_16 => ?_) (fun g1_16 p1_16 => ?_)
   | refine gsplitB 16 rfl rfl (fun g1_16 p1_16 => ?_) (fun g1_16 p1_16 => ?_)
  ·refine n1 rfl rfl g1_16 ?_
   refine n1 rfl rfl g1_16 ?_
   refine n1 rfl rfl g1_16 ?_
   refine n1 rfl rfl g1_16 ?_
   refine n1 rfl rfl g1_16 ?_
   refine n1 rfl rfl g1_16 ?_
   refine n1 rfl rfl g1_16 ?_
   first
    | refine s1 rfl (lop_pick_f (v := .bool _) rfl g1_7 rfl) ?_
    | refine s1 rfl (lop_pick_t (v := .bool _) rfl g1_16 rfl) ?_
    | refine s1 rfl (lop_pick_t (v := .bool _) rfl rfl rfl) ?_
    | refine s1 rfl (lop_pick_f (v := .bool _) rfl rfl rfl) ?_
    | refine s1 rfl (lop_pick rfl rfl rfl) ?_
   refine ops_nil ?_
   refine ok_true rfl rfl ?_
   refine ok_reg ?_
   refine s1 rfl (lop_assign (v := .bool _) rfl) ?_
   refine ops_nil ?_
   refine ok_ret ?_
   exact ret_one rfl rfl rfl rfl (congrArg V.bool (same_no (.inr (.inl (ne_len (by omega))))))
  ·first
    | refine y1 rfl rfl g1_16 rfl (lop_fieldAddr_rf (fo := 2) rfl Try.underlying26 rfl rfl Try.sizeOf24 (by decide)) ?_
    | refine y1 rfl rfl g1_16 rfl (lop_fieldAddr_fp (fo := 2) rfl Try.underlying26 rfl rfl Try.sizeOf24 (by decide) rfl) ?_
   first
    | refine y1 rfl rfl g1_16 rfl (lop_load_rf rfl rfl Try.isAgg24 rfl) ?_
    | refine y1 rfl rfl g1_16 rfl (lop_load_fp rfl Try.isAgg24 rfl) ?_
   refine y1 rfl rfl g1_16 rfl (lop_len rfl Try.underlying24 ⟨⟨_, rfl⟩, rfl⟩) ?_
   first
    | refine y1 rfl rfl g1_16 rfl (lop_fieldAddr_rf (fo := 2) rfl Try.underlying26 rfl rfl Try.sizeOf24 (by decide)) ?_
    | refine y1 rfl rfl g1_16 rfl (lop_fieldAddr_fp (fo := 2) rfl Try.underlying26 rfl rfl Try.sizeOf24 (by decide) rfl) ?_
   first
    | refine y1 rfl rfl g1_16 rfl (lop_load_rf rfl rfl Try.isAgg24 rfl) ?_
    | refine y1 rfl rfl g1_16 rfl (lop_load_fp rfl Try.isAgg24 rfl) ?_
   refine y1 rfl rfl g1_16 rfl (lop_len rfl Try.underlying24 ⟨⟨_, rfl⟩, rfl⟩) ?_
   refine y1 rfl rfl g1_16 rfl (lop_neq rfl rfl) ?_
   first
    | refine s1 rfl (lop_pick_f (v := .bool _) rfl g1_7 rfl) ?_
    | refine s1 rfl (lop_pick_f (v := .bool _) rfl g1_16 rfl) ?_
    | refine s1 rfl (lop_pick_t (v := .bool _) rfl rfl rfl) ?_
    | refine s1 rfl (lop_pick_f (v := .bool _) rfl rfl rfl) ?_
    | refine s1 rfl (lop_pick rfl rfl rfl) ?_
   refine ops_nil ?_
   first
    | refine ok_if _ rfl rfl (fun h_t33 => ?_) (fun h_t33 => ?_)
    | refine ok_cond rfl rfl (fun h_t33 => ?_) (fun h_t33 => ?_)
   ·refine ok_reg ?_
    refine s1 rfl (lop_assign (v := .bool _) rfl) ?_
    refine ops_nil ?_
    refine ok_ret ?_
    exact ret_one rfl rfl rfl rfl (congrArg V.bool (same_no (.inr (.inr (ne_len (by omega))))))
   ·refine ok_skip ?_
    refine ok_seq ?_
    refine ok_reg ?_
    refine s1 rfl (lop_assign (v := .int _ _) rfl) ?_
    refine ops_nil ?_
    refine ok_block ?_
    refine ok_loop (ι := {i : Nat // i ≤ x.vols.length ∧ ∀ j, (h1 : j < x.vols.length) → (h2 : j < y.vols.length) → j < i → x.vols[j] = y.vols[j]}) (fun i => ⟨[(2, .rf 2 0), (3, .rf 3 0), (5, i64 i.1)], [(2, some (true, x.enc)), (3, some (true, y.enc))], 90⟩) (fun i => x.vols.length - i.1) (⟨0, Nat.zero_le _, fun _ _ _ h => absurd h (Nat.not_lt_zero _)⟩) ?_ ?_
    ·exact le_mk ⟨rfl, rfl, rfl, trivial⟩ ⟨.inr rfl, .inr rfl, trivial⟩ rfl
    rintro ⟨i, hi, hn⟩
    dsimp only
    refine ok_seq ?_
    refine ok_reg ?_
    refine s1 rfl (lop_move (v := .int _ _) rfl) ?_
    first
     | refine s1 rfl (lop_fieldAddr_rf (fo := 0) rfl Try.underlying26 rfl rfl Try.sizeOf22 (by decide)) ?_
     | refine s1 rfl (lop_fieldAddr_fp (fo := 0) rfl Try.underlying26 rfl rfl Try.sizeOf22 (by decide) rfl) ?_
    first
     | refine s1 rfl (lop_load_rf rfl rfl Try.isAgg22 rfl) ?_
     | refine s1 rfl (lop_load_fp rfl Try.isAgg22 rfl) ?_
    refine s1 rfl (lop_len rfl Try.underlying22 ⟨⟨_, rfl⟩, rfl⟩) ?_
    refine s1 rfl (lop_lss rfl rfl) ?_
    refine ops_nil ?_
    first
     | refine ok_if _ rfl rfl (fun h_t38 => ?_) (fun h_t38 => ?_)
     | refine ok_cond rfl rfl (fun h_t38 => ?_) (fun h_t38 => ?_)
    ·have hi1 : i < x.vols.length := by omega
     have hi2 : i < y.vols.length := by omega
     refine ok_skip ?_
     refine ok_seq ?_
     refine ok_block ?_
     refine ok_drw Try.mixed ?_
     first
      | refine d1 rfl rfl (lop_fieldAddr_rf (fo := 0) rfl Try.underlying26 rfl rfl Try.sizeOf22 (by decide)) ?_
      | refine d1 rfl rfl (lop_fieldAddr_fp (fo := 0) rfl Try.underlying26 rfl rfl Try.sizeOf22 (by decide) rfl) ?_
     first
      | refine d1 rfl rfl (lop_load_rf rfl rfl Try.isAgg22 rfl) ?_
      | refine d1 rfl rfl (lop_load_fp rfl Try.isAgg22 rfl) ?_
     refine d1 rfl rfl (lop_move (v := .int _ _) rfl) ?_
     first
      | refine d1 rfl rfl (lop_indexAddr_os rfl rfl Try.underlying22 Try.sizeOf50 rfl hi1) ?_
      | refine d1 rfl rfl (lop_indexAddr_sl rfl rfl Try.underlying22 Try.sizeOf50 rfl hi1 (flat_at VolD.len hi1) (flat_ne VolD.len (by decide) hi1)) ?_
     first
      | refine d1 rfl rfl (lop_load_rf_agg rfl rfl Try.isAgg50 Try.sizeOf50 (by rw [List.length_append, VolD.len]; omega) (by rw [List.take_append_of_le_length (by rw [VolD.len]; omega), List.take_of_length_le (by rw [VolD.len]; omega)])) ?_
      | refine d1 rfl rfl (lop_load_fp_agg rfl Try.isAgg50 Try.sizeOf50 (by rw [List.length_append, VolD.len]; omega) (by rw [List.take_append_of_le_length (by rw [VolD.len]; omega), List.take_of_length_le (by rw [VolD.len]; omega)])) ?_
     first
      | refine d1 rfl rfl (lop_fieldAddr_rf (fo := 0) rfl Try.underlying26 rfl rfl Try.sizeOf22 (by decide)) ?_
      | refine d1 rfl rfl (lop_fieldAddr_fp (fo := 0) rfl Try.underlying26 rfl rfl Try.sizeOf22 (by decide) rfl) ?_
     first
      | refine d1 rfl rfl (lop_load_rf rfl rfl Try.isAgg22 rfl) ?_
      | refine d1 rfl rfl (lop_load_fp rfl Try.isAgg22 rfl) ?_
     refine d1 rfl rfl (lop_move (v := .int _ _) rfl) ?_
     first
      | refine d1 rfl rfl (lop_indexAddr_os rfl rfl Try.underlying22 Try.sizeOf50 rfl hi2) ?_
      | refine d1 rfl rfl (lop_indexAddr_sl rfl rfl Try.underlying22 Try.sizeOf50 rfl hi2 (flat_at VolD.len hi2) (flat_ne VolD.len (by decide) hi2)) ?_
     first
      | refine d1 rfl rfl (lop_load_rf_agg rfl rfl Try.isAgg50 Try.sizeOf50 (by rw [List.length_append, VolD.len]; omega) (by rw [List.take_append_of_le_length (by rw [VolD.len]; omega), List.take_of_length_le (by rw [VolD.len]; omega)])) ?_
      | refine d1 rfl rfl (lop_load_fp_agg rfl Try.isAgg50 Try.sizeOf50 (by rw [List.length_append, VolD.len]; omega) (by rw [List.take_append_of_le_length (by rw [VolD.len]; omega), List.take_of_length_le (by rw [VolD.len]; omega)])) ?_
     refine d1 rfl rfl (lop_call rfl Try.call29 (FrzL.tf rfl) (.inl rfl) (sameVol_ac (a := x.vols[i]) (b := y.vols[i]) (Nat.le_trans (hx.places _ (List.getElem_mem hi1)) (by decide)) (Nat.le_trans (hx.parts _ (List.getElem_mem hi1)) (by decide)))) ?_
     refine d1 rfl rfl (lop_assign (v := .bool _) rfl) ?_
     refine dr_nil (by kernel_rfl) ?_
     refine ok_reg ?_
     refine s1 rfl (lop_move (v := .bool _) rfl) ?_
     refine s1 rfl (lop_not rfl) ?_
     refine ops_nil ?_
     first
      | refine ok_if _ rfl rfl (fun h_t53 => ?_) (fun h_t53 => ?_)
      | refine ok_cond rfl rfl (fun h_t53 => ?_) (fun h_t53 => ?_)
     ·refine ok_reg ?_
      refine s1 rfl (lop_assign (v := .bool _) rfl) ?_
      refine ops_nil ?_
      refine ok_ret ?_
      exact ret_one rfl rfl rfl rfl (congrArg V.bool (same_no (.inl (ne_at hi1 hi2 (by simpa using h_t53)))))
     ·refine ok_skip ?_
      refine ok_region ?_
      refine s1 rfl (lop_move (v := .int _ _) rfl) ?_
      refine s1 rfl (lop_bop rfl rfl rfl (bop_add (by omega) (by omega))) ?_
      refine s1 rfl (lop_assign (v := .int _ _) rfl) ?_
      refine ops_nil ?_
      exact ⟨⟨i + 1, by omega, eq_step hn hi1 hi2 (by simpa using h_t53)⟩, by simp only; omega, le_mk ⟨rfl, rfl, rfl, trivial⟩ ⟨.inr rfl, .inr rfl, trivial⟩ rfl⟩
    ·refine ok_exit ?_
     refine ok_seq ?_
     refine ok_reg ?_
     have hev : x.vols = y.vols := eq_all (by omega) (fun j h1 h2 _ => hn j h1 h2 (by omega))
     clear hn
     refine s1 rfl (lop_assign (v := .int _ _) rfl) ?_
     refine ops_nil ?_
     refine ok_block ?_
     refine ok_loop (ι := {i : Nat // i ≤ x.names.length ∧ ∀ j, (h1 : j < x.names.length) → (h2 : j < y.names.length) → j < i → x.names[j] = y.names[j]}) (fun i => ⟨[(2, .rf 2 0), (3, .rf 3 0), (7, i64 i.1)], [(2, some (true, x.enc)), (3, some (true, y.enc))], 90⟩) (fun i => x.names.length - i.1) (⟨0, Nat.zero_le _, fun _ _ _ h => absurd h (Nat.not_lt_zero _)⟩) ?_ ?_
     ·exact le_mk ⟨rfl, rfl, rfl, trivial⟩ ⟨.inr rfl, .inr rfl, trivial⟩ rfl
     rintro ⟨i, hi, hn⟩
     dsimp only
     refine ok_seq ?_
     refine ok_reg ?_
     refine s1 rfl (lop_move (v := .int _ _) rfl) ?_
     first
      | refine s1 rfl (lop_fieldAddr_rf (fo := 1) rfl Try.underlying26 rfl rfl Try.sizeOf23 (by decide)) ?_
      | refine s1 rfl (lop_fieldAddr_fp (fo := 1) rfl Try.underlying26 rfl rfl Try.sizeOf23 (by decide) rfl) ?_
     first
      | refine s1 rfl (lop_load_rf rfl rfl Try.isAgg23 rfl) ?_
      | refine s1 rfl (lop_load_fp rfl Try.isAgg23 rfl) ?_
     refine s1 rfl (lop_len rfl Try.underlying23 ⟨⟨_, rfl⟩, rfl⟩) ?_
     refine s1 rfl (lop_lss rfl rfl) ?_
     refine ops_nil ?_
     first
      | refine ok_if _ rfl rfl (fun h_t58 => ?_) (fun h_t58 => ?_)
      | refine ok_cond rfl rfl (fun h_t58 => ?_) (fun h_t58 => ?_)
     ·have hi1 : i < x.names.length := by omega
      have hi2 : i < y.names.length := by omega
      refine ok_skip ?_
      refine ok_seq ?_
      refine ok_block ?_
      refine ok_drw Try.mixed ?_
      first
       | refine d1 rfl rfl (lop_fieldAddr_rf (fo := 1) rfl Try.underlying26 rfl rfl Try.sizeOf23 (by decide)) ?_
       | refine d1 rfl rfl (lop_fieldAddr_fp (fo := 1) rfl Try.underlying26 rfl rfl Try.sizeOf23 (by decide) rfl) ?_
      first
       | refine d1 rfl rfl (lop_load_rf rfl rfl Try.isAgg23 rfl) ?_
       | refine d1 rfl rfl (lop_load_fp rfl Try.isAgg23 rfl) ?_
      refine d1 rfl rfl (lop_move (v := .int _ _) rfl) ?_
      first
       | refine d1 rfl rfl (lop_indexAddr_os rfl rfl Try.underlying23 Try.sizeOf47 rfl hi1) ?_
       | refine d1 rfl rfl (lop_indexAddr_sl rfl rfl Try.underlying23 Try.sizeOf47 rfl hi1 (flat_at NameD.len hi1) (flat_ne NameD.len (by decide) hi1)) ?_
      first
       | refine d1 rfl rfl (lop_load_rf_agg rfl rfl Try.isAgg47 Try.sizeOf47 (by rw [List.length_append, NameD.len]; omega) (by rw [List.take_append_of_le_length (by rw [NameD.len]; omega), List.take_of_length_le (by rw [NameD.len]; omega)])) ?_
       | refine d1 rfl rfl (lop_load_fp_agg rfl Try.isAgg47 Try.sizeOf47 (by rw [List.length_append, NameD.len]; omega) (by rw [List.take_append_of_le_length (by rw [NameD.len]; omega), List.take_of_length_le (by rw [NameD.len]; omega)])) ?_
      first
       | refine d1 rfl rfl (lop_fieldAddr_rf (fo := 1) rfl Try.underlying26 rfl rfl Try.sizeOf23 (by decide)) ?_
       | refine d1 rfl rfl (lop_fieldAddr_fp (fo := 1) rfl Try.underlying26 rfl rfl Try.sizeOf23 (by decide) rfl) ?_
      first
       | refine d1 rfl rfl (lop_load_rf rfl rfl Try.isAgg23 rfl) ?_
       | refine d1 rfl rfl (lop_load_fp rfl Try.isAgg23 rfl) ?_
      refine d1 rfl rfl (lop_move (v := .int _ _) rfl) ?_
      first
       | refine d1 rfl rfl (lop_indexAddr_os rfl rfl Try.underlying23 Try.sizeOf47 rfl hi2) ?_
       | refine d1 rfl rfl (lop_indexAddr_sl rfl rfl Try.underlying23 Try.sizeOf47 rfl hi2 (flat_at NameD.len hi2) (flat_ne NameD.len (by decide) hi2)) ?_
      first
       | refine d1 rfl rfl (lop_load_rf_agg rfl rfl Try.isAgg47 Try.sizeOf47 (by rw [List.length_append, NameD.len]; omega) (by rw [List.take_append_of_le_length (by rw [NameD.len]; omega), List.take_of_length_le (by rw [NameD.len]; omega)])) ?_
       | refine d1 rfl rfl (lop_load_fp_agg rfl Try.isAgg47 Try.sizeOf47 (by rw [List.length_append, NameD.len]; omega) (by rw [List.take_append_of_le_length (by rw [NameD.len]; omega), List.take_of_length_le (by rw [NameD.len]; omega)])) ?_
      refine d1 rfl rfl (lop_aneq rfl rfl rfl rfl eqg47 (ne47 x.names[i] y.names[i])) ?_
      refine dr_nil (by kernel_rfl) ?_
      first
       | refine ok_if _ rfl rfl (fun h_t71 => ?_) (fun h_t71 => ?_)
       | refine ok_cond rfl rfl (fun h_t71 => ?_) (fun h_t71 => ?_)
      ·refine ok_reg ?_
       refine s1 rfl (lop_assign (v := .bool _) rfl) ?_
       refine ops_nil ?_
       refine ok_ret ?_
       exact ret_one rfl rfl rfl rfl (congrArg V.bool (same_no (.inr (.inl (ne_at hi1 hi2 (by simpa using h_t71))))))
      ·refine ok_skip ?_
       refine ok_region ?_
       refine s1 rfl (lop_move (v := .int _ _) rfl) ?_
       refine s1 rfl (lop_bop rfl rfl rfl (bop_add (by omega) (by omega))) ?_
       refine s1 rfl (lop_assign (v := .int _ _) rfl) ?_
       refine ops_nil ?_
       exact ⟨⟨i + 1, by omega, eq_step hn hi1 hi2 (by simpa using h_t71)⟩, by simp only; omega, le_mk ⟨rfl, rfl, rfl, trivial⟩ ⟨.inr rfl, .inr rfl, trivial⟩ rfl⟩
     ·refine ok_exit ?_
      refine ok_seq ?_
      refine ok_reg ?_
      have hen : x.names = y.names := eq_all (by omega) (fun j h1 h2 _ => hn j h1 h2 (by omega))
      clear hn
      refine s1 rfl (lop_assign (v := .int _ _) rfl) ?_
      refine ops_nil ?_
      refine ok_block ?_
      refine ok_loop (ι := {i : Nat // i ≤ x.last.length ∧ ∀ j, (h1 : j < x.last.length) → (h2 : j < y.last.length) → j < i → x.last[j] = y.last[j]}) (fun i => ⟨[(2, .rf 2 0), (3, .rf 3 0), (8, i64 i.1)], [(2, some (true, x.enc)), (3, some (true, y.enc))], 90⟩) (fun i => x.last.length - i.1) (⟨0, Nat.zero_le _, fun _ _ _ h => absurd h (Nat.not_lt_zero _)⟩) ?_ ?_
      ·exact le_mk ⟨rfl, rfl, rfl, trivial⟩ ⟨.inr rfl, .inr rfl, trivial⟩ rfl
      rintro ⟨i, hi, hn⟩
      dsimp only
      refine ok_seq ?_
      refine ok_reg ?_
      refine s1 rfl (lop_move (v := .int _ _) rfl) ?_
      first
       | refine s1 rfl (lop_fieldAddr_rf (fo := 2) rfl Try.underlying26 rfl rfl Try.sizeOf24 (by decide)) ?_
       | refine s1 rfl (lop_fieldAddr_fp (fo := 2) rfl Try.underlying26 rfl rfl Try.sizeOf24 (by decide) rfl) ?_
      first
       | refine s1 rfl (lop_load_rf rfl rfl Try.isAgg24 rfl) ?_
       | refine s1 rfl (lop_load_fp rfl Try.isAgg24 rfl) ?_
      refine s1 rfl (lop_len rfl Try.underlying24 ⟨⟨_, rfl⟩, rfl⟩) ?_
      refine s1 rfl (lop_lss rfl rfl) ?_
      refine ops_nil ?_
      first
       | refine ok_if _ rfl rfl (fun h_t76 => ?_) (fun h_t76 => ?_)
       | refine ok_cond rfl rfl (fun h_t76 => ?_) (fun h_t76 => ?_)
      ·have hi1 : i < x.last.length := by omega
       have hi2 : i < y.last.length := by omega
       refine ok_skip ?_
       refine ok_seq ?_
       refine ok_block ?_
       refine ok_drw Try.mixed ?_
       first
        | refine d1 rfl rfl (lop_fieldAddr_rf (fo := 2) rfl Try.underlying26 rfl rfl Try.sizeOf24 (by decide)) ?_
        | refine d1 rfl rfl (lop_fieldAddr_fp (fo := 2) rfl Try.underlying26 rfl rfl Try.sizeOf24 (by decide) rfl) ?_
       first
        | refine d1 rfl rfl (lop_load_rf rfl rfl Try.isAgg24 rfl) ?_
        | refine d1 rfl rfl (lop_load_fp rfl Try.isAgg24 rfl) ?_
       refine d1 rfl rfl (lop_move (v := .int _ _) rfl) ?_
       first
        | refine d1 rfl rfl (lop_indexAddr_os rfl rfl Try.underlying24 Try.sizeOf39 rfl hi1) ?_
        | refine d1 rfl rfl (lop_indexAddr_sl rfl rfl Try.underlying24 Try.sizeOf39 rfl hi1 (flat_at SessD.len hi1) (flat_ne SessD.len (by decide) hi1)) ?_
       first
        | refine d1 rfl rfl (lop_load_rf_agg rfl rfl Try.isAgg39 Try.sizeOf39 (by rw [List.length_append, SessD.len]; omega) (by rw [List.take_append_of_le_length (by rw [SessD.len]; omega), List.take_of_length_le (by rw [SessD.len]; omega)])) ?_
        | refine d1 rfl rfl (lop_load_fp_agg rfl Try.isAgg39 Try.sizeOf39 (by rw [List.length_append, SessD.len]; omega) (by rw [List.take_append_of_le_length (by rw [SessD.len]; omega), List.take_of_length_le (by rw [SessD.len]; omega)])) ?_
       first
        | refine d1 rfl rfl (lop_fieldAddr_rf (fo := 2) rfl Try.underlying26 rfl rfl Try.sizeOf24 (by decide)) ?_
        | refine d1 rfl rfl (lop_fieldAddr_fp (fo := 2) rfl Try.underlying26 rfl rfl Try.sizeOf24 (by decide) rfl) ?_
       first
        | refine d1 rfl rfl (lop_load_rf rfl rfl Try.isAgg24 rfl) ?_
        | refine d1 rfl rfl (lop_load_fp rfl Try.isAgg24 rfl) ?_
       refine d1 rfl rfl (lop_move (v := .int _ _) rfl) ?_
       first
        | refine d1 rfl rfl (lop_indexAddr_os rfl rfl Try.underlying24 Try.sizeOf39 rfl hi2) ?_
        | refine d1 rfl rfl (lop_indexAddr_sl rfl rfl Try.underlying24 Try.sizeOf39 rfl hi2 (flat_at SessD.len hi2) (flat_ne SessD.len (by decide) hi2)) ?_
       first
        | refine d1 rfl rfl (lop_load_rf_agg rfl rfl Try.isAgg39 Try.sizeOf39 (by rw [List.length_append, SessD.len]; omega) (by rw [List.take_append_of_le_length (by rw [SessD.len]; omega), List.take_of_length_le (by rw [SessD.len]; omega)])) ?_
        | refine d1 rfl rfl (lop_load_fp_agg rfl Try.isAgg39 Try.sizeOf39 (by rw [List.length_append, SessD.len]; omega) (by rw [List.take_append_of_le_length (by rw [SessD.len]; omega), List.take_of_length_le (by rw [SessD.len]; omega)])) ?_
       refine d1 rfl rfl (lop_aneq rfl rfl rfl rfl eqg39 (ne39 x.last[i] y.last[i])) ?_
       refine dr_nil (by kernel_rfl) ?_
       first
        | refine ok_if _ rfl rfl (fun h_t89 => ?_) (fun h_t89 => ?_)
        | refine ok_cond rfl rfl (fun h_t89 => ?_) (fun h_t89 => ?_)
       ·refine ok_reg ?_
        refine s1 rfl (lop_assign (v := .bool _) rfl) ?_
        refine ops_nil ?_
        refine ok_ret ?_
        exact ret_one rfl rfl rfl rfl (congrArg V.bool (same_no (.inr (.inr (ne_at hi1 hi2 (by simpa using h_t89))))))
       ·refine ok_skip ?_
        refine ok_region ?_
        refine s1 rfl (lop_move (v := .int _ _) rfl) ?_
        refine s1 rfl (lop_bop rfl rfl rfl (bop_add (by omega) (by omega))) ?_
        refine s1 rfl (lop_assign (v := .int _ _) rfl) ?_
        refine ops_nil ?_
        exact ⟨⟨i + 1, by omega, eq_step hn hi1 hi2 (by simpa using h_t89)⟩, by simp only; omega, le_mk ⟨rfl, rfl, rfl, trivial⟩ ⟨.inr rfl, .inr rfl, trivial⟩ rfl⟩
      ·refine ok_exit ?_
       refine ok_reg ?_
       refine s1 rfl (lop_assign (v := .bool _) rfl) ?_
       refine ops_nil ?_
       refine ok_ret ?_
       exact ret_one rfl rfl rfl rfl (congrArg V.bool ((decide_eq_true ⟨hev, hen, eq_all (by omega) (fun j h1 h2 _ => hn j h1 h2 (by omega))⟩).symm))

end Go.Proofs
