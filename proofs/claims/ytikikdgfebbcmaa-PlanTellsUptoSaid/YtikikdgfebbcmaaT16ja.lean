/- Chapter 16: walks. Printed by gen.py. -/
import Derived.Test.YtikikdgfebbcmaaT16ic
import Derived.Test.YtikikdgfebbcmaaT16hb
import Derived.Test.YtikikdgfebbcmaaT16rf
set_option linter.unusedVariables false
set_option linter.unusedSimpArgs false
set_option maxRecDepth 100000
namespace Go.Proofs
open Go.Hg

def wrK (b : List UInt8) (p : PartD) (k : Nat) : List UInt8 := b.take p.at_.toNat ++ p.bytes.data.toList.take k ++ b.drop (p.at_.toNat + k)
theorem wrK_zero (b : List UInt8) (p : PartD) : wrK b p 0 = b := by unfold wrK; simp
theorem wrK_full (b : List UInt8) (p : PartD) : wrK b p p.bytes.size = writeL b p := by
  have e : p.bytes.data.toList.take p.bytes.size = p.bytes.data.toList := List.take_of_length_le (by rw [data_len]; exact Nat.le_refl _)
  unfold wrK writeL; rw [e]
theorem wrK_len {b : List UInt8} {p : PartD} {k : Nat} (h : withinB p.at_ p.bytes.size b.length = true) (hk : k ≤ p.bytes.size) : (wrK b p k).length = b.length := by
  have := within_at h
  unfold wrK
  simp only [List.length_append, List.length_take, List.length_drop, data_len]
  omega
theorem wrK_step {b : List UInt8} {p : PartD} {k : Nat} (h : withinB p.at_ p.bytes.size b.length = true) (hk : k < p.bytes.size) : vsplice (rowV (wrK b p k)) (0 + (p.at_.toNat + k) * 1) [.int .u8 (sb p.bytes k)] = rowV (wrK b p (k + 1)) := by
  have := within_at h
  have e0 : sb p.bytes k = ((p.bytes.data.toList[k]'(by rw [data_len]; exact hk)).toNat : Int) := by
    unfold sb
    rw [List.getD_eq_getElem?_getD, List.getElem?_eq_getElem (by rw [data_len]; exact hk)]
    rfl
  have e1 : [V.int .u8 (sb p.bytes k)] = rowV [p.bytes.data.toList[k]'(by rw [data_len]; exact hk)] := by rw [e0]; rfl
  have e2 : (b.take p.at_.toNat ++ p.bytes.data.toList.take k).length = p.at_.toNat + k := by rw [List.length_append, List.length_take, List.length_take, data_len]; omega
  unfold vsplice
  rw [e1, show 0 + (p.at_.toNat + k) * 1 = p.at_.toNat + k by omega, rowV_take, rowV_drop, ← rowV_append, ← rowV_append]
  congr 1
  unfold wrK
  rw [List.take_append_of_le_length (by omega), List.take_of_length_le (by omega), rowV_length, List.length_singleton, List.drop_append, List.drop_of_length_le (by omega), List.nil_append, List.drop_drop, e2, List.take_add_one, List.getElem?_eq_getElem (by rw [data_len]; exact hk)]
  simp only [Option.toList_some, List.append_assoc]
  congr 4
  omega

theorem ref06_Lay_ac {n : Nat} (hn : n ≤ 65536) {ps : List PartD} (hp : ps.length ≤ 1048576) : AC Try.prog 47 [i64 n, rowOf PartD.enc ps] (.tup [.str (layF n ps).1, i64 (layF n ps).2]) := by
  refine AC.intro Try.func47 rfl (Nat.le_of_ble_eq_true rfl) ?_
  refine ok_reg ?_
  refine s1 rfl (lop_assign (v := .str _) rfl) ?_
  refine s1 rfl (lop_assign (v := .int _ _) rfl) ?_
  refine ops_nil ?_
  refine ok_seq ?_
  refine ok_reg ?_
  refine s1 rfl (lop_move (v := .int _ _) rfl) ?_
  refine s1 rfl (lop_lss rfl rfl) ?_
  refine s1 rfl (lop_move (v := .bool _) rfl) ?_
  first
    | refine gsplitP 2 rfl rfl (fun g1_2 p1_2 => ?_) (fun g1_2 p1_2 => ?_)
    | refine gsplitB 2 rfl rfl (fun g1_2 p1_2 => ?_) (fun g1_2 p1_2 => ?_)
  · exfalso; omega
  · refine y1 rfl rfl g1_2 rfl (lop_move (v := .int _ _) rfl) ?_
    refine y1 rfl rfl g1_2 rfl (lop_gtr rfl rfl) ?_
    first
      | refine s1 rfl (lop_pick_f (v := .bool _) rfl g1_2 rfl) ?_
      | refine s1 rfl (lop_pick_t (v := .bool _) rfl rfl rfl) ?_
      | refine s1 rfl (lop_pick_f (v := .bool _) rfl rfl rfl) ?_
      | refine s1 rfl (lop_pick rfl rfl rfl) ?_
    refine ops_nil ?_
    first
      | refine ok_if _ rfl rfl (fun h_t15 => ?_) (fun h_t15 => ?_)
      | refine ok_cond rfl rfl (fun h_t15 => ?_) (fun h_t15 => ?_)
    · exfalso; omega
    · refine ok_skip ?_
      refine ok_reg ?_
      refine s1 rfl (lop_move (v := .int _ _) rfl) ?_
      refine s1w rfl (lop_make2 (t := 17) (n := n) rfl rfl rfl rfl Try.underlying119 (info5) rfl (by omega) (by omega) (rep_row n)) rfl ?_
      first
        | refine s1 rfl (lop_assign (v := .sl _ _) rfl) ?_
        | refine s1 rfl (lop_assign (v := .os _ _ _ _) rfl) ?_
        | refine s1 rfl (lop_assign (v := .z0) rfl) ?_
      refine ops_nil ?_
      refine ok_seq ?_
      refine ok_reg ?_
      refine s1 rfl (lop_assign (v := .int _ _) rfl) ?_
      refine ops_nil ?_
      refine ok_block ?_
      refine ok_loop (ι := {i : Nat // i ≤ ps.length ∧ ∀ j, (h : j < ps.length) → j < i → withinB ps[j].at_ ps[j].bytes.size n = true}) (fun i => ⟨[(0, i64 n), (1, rowOf PartD.enc ps), (6, .os 17 0 1 n), (7, i64 i.1)], [(17, some (true, rowV (layB n (ps.take i.1))))], 66⟩) (fun i => ps.length - i.1) (⟨0, Nat.zero_le _, fun _ _ h => absurd h (Nat.not_lt_zero _)⟩) ?_ ?_
      · exact le_mk ⟨rfl, rfl, rfl, rfl, trivial⟩ ⟨.inr rfl, trivial⟩ rfl
      rintro ⟨i, hi, hn2⟩
      dsimp only
      have hlen := len_take hn2
      refine ok_seq ?_
      refine ok_reg ?_
      refine s1 rfl (lop_move (v := .int _ _) rfl) ?_
      first
        | refine s1 rfl (lop_move (v := .sl _ _) rfl) ?_
        | refine s1 rfl (lop_move (v := .os _ _ _ _) rfl) ?_
        | refine s1 rfl (lop_move (v := .z0) rfl) ?_
      refine s1 rfl (lop_len rfl Try.underlying56 ⟨⟨_, rfl⟩, rfl⟩) ?_
      refine s1 rfl (lop_lss rfl rfl) ?_
      refine ops_nil ?_
      first
        | refine ok_if _ rfl rfl (fun h_t21 => ?_) (fun h_t21 => ?_)
        | refine ok_cond rfl rfl (fun h_t21 => ?_) (fun h_t21 => ?_)
      · have hri : i < ps.length := by omega
        refine ok_skip ?_
        refine ok_seq ?_
        refine ok_block ?_
        refine ok_reg ?_
        first
          | refine s1 rfl (lop_move (v := .sl _ _) rfl) ?_
          | refine s1 rfl (lop_move (v := .os _ _ _ _) rfl) ?_
          | refine s1 rfl (lop_move (v := .z0) rfl) ?_
        refine s1 rfl (lop_move (v := .int _ _) rfl) ?_
        first
          | refine s1 rfl (lop_indexAddr_os rfl rfl Try.underlying56 Try.sizeOf62 rfl hri) ?_
          | refine s1 rfl (lop_indexAddr_sl rfl rfl Try.underlying56 Try.sizeOf62 rfl hri (flat_at PartD.len hri) (flat_ne PartD.len (by decide) hri)) ?_
        first
          | refine s1 rfl (lop_load_rf_agg rfl rfl Try.isAgg62 Try.sizeOf62 (by rw [List.length_append, PartD.len]; omega) (by rw [List.take_append_of_le_length (by rw [PartD.len]; omega), List.take_of_length_le (by rw [PartD.len]; omega)])) ?_
          | refine s1 rfl (lop_load_fp_agg rfl Try.isAgg62 Try.sizeOf62 (by rw [List.length_append, PartD.len]; omega) (by rw [List.take_append_of_le_length (by rw [PartD.len]; omega), List.take_of_length_le (by rw [PartD.len]; omega)])) ?_
        refine s1w rfl (lop_new (t := 8) (cs := [.int _ _, .str _]) Try.zeroValue62 rfl rfl rfl rfl) rfl ?_
        first
          | refine s0w rfl (lop_storeK (v := .agg [.int _ _, .str _]) (cs' := [.int _ _, .str _]) (f' := true) rfl rfl rfl Try.sizeOf62 rfl rfl rfl rfl rfl) ?_
          | refine s0w rfl (lop_storeK (v := .agg [.int _ _, .str _]) (cs' := [.int _ _, .str _]) (f' := false) rfl rfl rfl Try.sizeOf62 rfl rfl rfl rfl rfl) ?_
        refine ops_nil ?_
        refine ok_seq ?_
        refine ok_reg ?_
        first
          | refine s1 rfl (lop_fieldAddr_rf (fo := 0) rfl Try.underlying62 rfl rfl Try.sizeOf3 (by decide)) ?_
          | refine s1 rfl (lop_fieldAddr_fp (fo := 0) rfl Try.underlying62 rfl rfl Try.sizeOf3 (by decide) rfl) ?_
        first
          | refine s1 rfl (lop_load_rf rfl rfl Try.isAgg3 rfl) ?_
          | refine s1 rfl (lop_load_fp rfl Try.isAgg3 rfl) ?_
        refine s1 rfl (lop_lss rfl rfl) ?_
        refine s1 rfl (lop_move (v := .bool _) rfl) ?_
        first
          | refine gsplitP 3 rfl rfl (fun g8_3 p8_3 => ?_) (fun g8_3 p8_3 => ?_)
          | refine gsplitB 3 rfl rfl (fun g8_3 p8_3 => ?_) (fun g8_3 p8_3 => ?_)
        · refine n1 rfl rfl g8_3 ?_
          refine n1 rfl rfl g8_3 ?_
          refine n1 rfl rfl g8_3 ?_
          refine n1 rfl rfl g8_3 ?_
          first
            | refine s1 rfl (lop_pick_t (v := .bool _) rfl g8_3 rfl) ?_
            | refine s1 rfl (lop_pick_t (v := .bool _) rfl rfl rfl) ?_
            | refine s1 rfl (lop_pick_f (v := .bool _) rfl rfl rfl) ?_
            | refine s1 rfl (lop_pick rfl rfl rfl) ?_
          refine s1 rfl (lop_move (v := .bool _) rfl) ?_
          refine n1 rfl rfl rfl ?_
          refine n1 rfl rfl rfl ?_
          refine n1 rfl rfl rfl ?_
          refine n1 rfl rfl rfl ?_
          refine n1 rfl rfl rfl ?_
          refine n1 rfl rfl rfl ?_
          refine n1 rfl rfl rfl ?_
          refine n1 rfl rfl rfl ?_
          first
            | refine s1 rfl (lop_pick_t (v := .bool _) rfl g8_3 rfl) ?_
            | refine s1 rfl (lop_pick_t (v := .bool _) rfl rfl rfl) ?_
            | refine s1 rfl (lop_pick_t (v := .bool _) rfl rfl rfl) ?_
            | refine s1 rfl (lop_pick_f (v := .bool _) rfl rfl rfl) ?_
            | refine s1 rfl (lop_pick rfl rfl rfl) ?_
          refine ops_nil ?_
          refine ok_true rfl rfl ?_
          refine ok_reg ?_
          refine s1 rfl (lop_assign (v := .str _) rfl) ?_
          refine s1 rfl (lop_assign (v := .int _ _) rfl) ?_
          refine ops_nil ?_
          refine ok_ret ?_
          rw [layF_no hri (by unfold withinB; exact decide_eq_false (by omega))]
          exact ret_two rfl rfl rfl rfl rfl rfl rfl
        · first
            | refine y1 rfl rfl g8_3 rfl (lop_fieldAddr_rf (fo := 0) rfl Try.underlying62 rfl rfl Try.sizeOf3 (by decide)) ?_
            | refine y1 rfl rfl g8_3 rfl (lop_fieldAddr_fp (fo := 0) rfl Try.underlying62 rfl rfl Try.sizeOf3 (by decide) rfl) ?_
          first
            | refine y1 rfl rfl g8_3 rfl (lop_load_rf rfl rfl Try.isAgg3 rfl) ?_
            | refine y1 rfl rfl g8_3 rfl (lop_load_fp rfl Try.isAgg3 rfl) ?_
          refine y1 rfl rfl g8_3 rfl (lop_move (v := .int _ _) rfl) ?_
          refine y1 rfl rfl g8_3 rfl (lop_gtr rfl rfl) ?_
          first
            | refine s1 rfl (lop_pick_f (v := .bool _) rfl g8_3 rfl) ?_
            | refine s1 rfl (lop_pick_t (v := .bool _) rfl rfl rfl) ?_
            | refine s1 rfl (lop_pick_f (v := .bool _) rfl rfl rfl) ?_
            | refine s1 rfl (lop_pick rfl rfl rfl) ?_
          refine s1 rfl (lop_move (v := .bool _) rfl) ?_
          first
            | refine gsplitP 9 rfl rfl (fun g8_9 p8_9 => ?_) (fun g8_9 p8_9 => ?_)
            | refine gsplitB 9 rfl rfl (fun g8_9 p8_9 => ?_) (fun g8_9 p8_9 => ?_)
          · refine n1 rfl rfl g8_9 ?_
            refine n1 rfl rfl g8_9 ?_
            refine n1 rfl rfl g8_9 ?_
            refine n1 rfl rfl g8_9 ?_
            refine n1 rfl rfl g8_9 ?_
            refine n1 rfl rfl g8_9 ?_
            refine n1 rfl rfl g8_9 ?_
            refine n1 rfl rfl g8_9 ?_
            first
              | refine s1 rfl (lop_pick_f (v := .bool _) rfl g8_3 rfl) ?_
              | refine s1 rfl (lop_pick_t (v := .bool _) rfl g8_9 rfl) ?_
              | refine s1 rfl (lop_pick_t (v := .bool _) rfl rfl rfl) ?_
              | refine s1 rfl (lop_pick_f (v := .bool _) rfl rfl rfl) ?_
              | refine s1 rfl (lop_pick rfl rfl rfl) ?_
            refine ops_nil ?_
            refine ok_true rfl rfl ?_
            refine ok_reg ?_
            refine s1 rfl (lop_assign (v := .str _) rfl) ?_
            refine s1 rfl (lop_assign (v := .int _ _) rfl) ?_
            refine ops_nil ?_
            refine ok_ret ?_
            rw [layF_no hri (by unfold withinB; exact decide_eq_false (by omega))]
            exact ret_two rfl rfl rfl rfl rfl rfl rfl
          · first
              | refine y1 rfl rfl g8_9 rfl (lop_fieldAddr_rf (fo := 1) rfl Try.underlying62 rfl rfl Try.sizeOf9 (by decide)) ?_
              | refine y1 rfl rfl g8_9 rfl (lop_fieldAddr_fp (fo := 1) rfl Try.underlying62 rfl rfl Try.sizeOf9 (by decide) rfl) ?_
            first
              | refine y1 rfl rfl g8_9 rfl (lop_load_rf rfl rfl Try.isAgg9 rfl) ?_
              | refine y1 rfl rfl g8_9 rfl (lop_load_fp rfl Try.isAgg9 rfl) ?_
            refine y1 rfl rfl g8_9 rfl (lop_len rfl Try.underlying9 ⟨rfl, rfl⟩) ?_
            refine y1 rfl rfl g8_9 rfl (lop_move (v := .int _ _) rfl) ?_
            first
              | refine y1 rfl rfl g8_9 rfl (lop_fieldAddr_rf (fo := 0) rfl Try.underlying62 rfl rfl Try.sizeOf3 (by decide)) ?_
              | refine y1 rfl rfl g8_9 rfl (lop_fieldAddr_fp (fo := 0) rfl Try.underlying62 rfl rfl Try.sizeOf3 (by decide) rfl) ?_
            first
              | refine y1 rfl rfl g8_9 rfl (lop_load_rf rfl rfl Try.isAgg3 rfl) ?_
              | refine y1 rfl rfl g8_9 rfl (lop_load_fp rfl Try.isAgg3 rfl) ?_
            refine y1 rfl rfl g8_9 rfl (lop_bop rfl rfl rfl (bop_sub (by omega) (by omega))) ?_
            refine y1 rfl rfl g8_9 rfl (lop_gtr rfl rfl) ?_
            first
              | refine s1 rfl (lop_pick_f (v := .bool _) rfl g8_3 rfl) ?_
              | refine s1 rfl (lop_pick_f (v := .bool _) rfl g8_9 rfl) ?_
              | refine s1 rfl (lop_pick_t (v := .bool _) rfl rfl rfl) ?_
              | refine s1 rfl (lop_pick_f (v := .bool _) rfl rfl rfl) ?_
              | refine s1 rfl (lop_pick rfl rfl rfl) ?_
            refine ops_nil ?_
            first
              | refine ok_if _ rfl rfl (fun h_t46 => ?_) (fun h_t46 => ?_)
              | refine ok_cond rfl rfl (fun h_t46 => ?_) (fun h_t46 => ?_)
            · refine ok_reg ?_
              refine s1 rfl (lop_assign (v := .str _) rfl) ?_
              refine s1 rfl (lop_assign (v := .int _ _) rfl) ?_
              refine ops_nil ?_
              refine ok_ret ?_
              rw [layF_no hri (by unfold withinB; exact decide_eq_false (by omega))]
              exact ret_two rfl rfl rfl rfl rfl rfl rfl
            · have hw : withinB ps[i].at_ ps[i].bytes.size n = true := by unfold withinB; exact decide_eq_true (by omega)
              have hw2 := within_at hw
              have hwl : withinB ps[i].at_ ps[i].bytes.size (layB n (ps.take i)).length = true := by rw [hlen]; exact hw
              refine ok_skip ?_
              refine ok_reg ?_
              refine s1 rfl (lop_assign (v := .int _ _) rfl) ?_
              refine ops_nil ?_
              refine ok_block ?_
              refine ok_loop (ι := {k : Nat // k ≤ ps[i].bytes.size}) (fun k => ⟨[(0, i64 n), (1, rowOf PartD.enc ps), (6, .os 17 0 1 n), (7, i64 i), (8, .rf 8 0), (9, i64 k.1)], [(8, some (true, ps[i].enc)), (17, some (true, rowV (wrK (layB n (ps.take i)) ps[i] k.1)))], 66⟩) (fun k => ps[i].bytes.size - k.1) (⟨0, Nat.zero_le _⟩) ?_ ?_
              · exact le_mk ⟨rfl, rfl, rfl, rfl, rfl, rfl, trivial⟩ ⟨.inr rfl, .inr (by rw [wrK_zero]; rfl), trivial⟩ rfl
              rintro ⟨k, hk⟩
              dsimp only
              refine ok_seq ?_
              refine ok_reg ?_
              refine s1 rfl (lop_move (v := .int _ _) rfl) ?_
              first
                | refine s1 rfl (lop_fieldAddr_rf (fo := 1) rfl Try.underlying62 rfl rfl Try.sizeOf9 (by decide)) ?_
                | refine s1 rfl (lop_fieldAddr_fp (fo := 1) rfl Try.underlying62 rfl rfl Try.sizeOf9 (by decide) rfl) ?_
              first
                | refine s1 rfl (lop_load_rf rfl rfl Try.isAgg9 rfl) ?_
                | refine s1 rfl (lop_load_fp rfl Try.isAgg9 rfl) ?_
              refine s1 rfl (lop_len rfl Try.underlying9 ⟨rfl, rfl⟩) ?_
              refine s1 rfl (lop_lss rfl rfl) ?_
              refine ops_nil ?_
              first
                | refine ok_if _ rfl rfl (fun h_t51 => ?_) (fun h_t51 => ?_)
                | refine ok_cond rfl rfl (fun h_t51 => ?_) (fun h_t51 => ?_)
              · have hk1 : k < ps[i].bytes.size := by omega
                refine ok_skip ?_
                refine ok_seq ?_
                refine ok_block ?_
                refine ok_draw Try.mixed ?_
                first
                  | refine d1 rfl rfl (lop_move (v := .sl _ _) rfl) ?_
                  | refine d1 rfl rfl (lop_move (v := .os _ _ _ _) rfl) ?_
                  | refine d1 rfl rfl (lop_move (v := .z0) rfl) ?_
                first
                  | refine d1 rfl rfl (lop_fieldAddr_rf (fo := 0) rfl Try.underlying62 rfl rfl Try.sizeOf3 (by decide)) ?_
                  | refine d1 rfl rfl (lop_fieldAddr_fp (fo := 0) rfl Try.underlying62 rfl rfl Try.sizeOf3 (by decide) rfl) ?_
                first
                  | refine d1 rfl rfl (lop_load_rf rfl rfl Try.isAgg3 rfl) ?_
                  | refine d1 rfl rfl (lop_load_fp rfl Try.isAgg3 rfl) ?_
                refine d1 rfl rfl (lop_move (v := .int _ _) rfl) ?_
                refine d1 rfl rfl (lop_bop rfl rfl rfl (bop_add (by omega) (by omega))) ?_
                first
                  | refine d1 rfl rfl (lop_fieldAddr_rf (fo := 1) rfl Try.underlying62 rfl rfl Try.sizeOf9 (by decide)) ?_
                  | refine d1 rfl rfl (lop_fieldAddr_fp (fo := 1) rfl Try.underlying62 rfl rfl Try.sizeOf9 (by decide) rfl) ?_
                first
                  | refine d1 rfl rfl (lop_load_rf rfl rfl Try.isAgg9 rfl) ?_
                  | refine d1 rfl rfl (lop_load_fp rfl Try.isAgg9 rfl) ?_
                refine d1 rfl rfl (lop_move (v := .int _ _) rfl) ?_
                refine d1 rfl rfl (lop_index rfl rfl Try.underlying9 rfl (by omega)) ?_
                first
                  | refine d1 rfl rfl (lop_indexAddr_os rfl rfl Try.underlying119 Try.sizeOf5 (show _ = ((ps[i].at_.toNat + k : Nat) : Int) by omega) (by omega)) ?_
                  | refine d1 rfl rfl (lop_indexAddr_sl rfl rfl Try.underlying119 Try.sizeOf5 (show _ = ((ps[i].at_.toNat + k : Nat) : Int) by omega) (by omega) rfl (by omega)) ?_
                refine d0w rfl rfl (lop_store (v := .int _ _) rfl rfl rfl Try.sizeOf5 rfl rfl (by rw [rowV_length, wrK_len hwl (by omega), hlen]; omega)) ?_
                refine dr_nil (by kernel_rfl) ?_
                refine ok_region ?_
                refine s1 rfl (lop_move (v := .int _ _) rfl) ?_
                refine s1 rfl (lop_bop rfl rfl rfl (bop_add (by omega) (by omega))) ?_
                refine s1 rfl (lop_assign (v := .int _ _) rfl) ?_
                refine ops_nil ?_
                exact ⟨⟨k + 1, by omega⟩, by simp only; omega, le_mk ⟨rfl, rfl, rfl, rfl, rfl, rfl, trivial⟩ ⟨.inr rfl, .inr (by rw [← wrK_step hwl hk1]; rfl), trivial⟩ rfl⟩
              · refine ok_exit ?_
                refine ok_region ?_
                refine s1 rfl (lop_move (v := .int _ _) rfl) ?_
                refine s1 rfl (lop_bop rfl rfl rfl (bop_add (by omega) (by omega))) ?_
                refine s1 rfl (lop_assign (v := .int _ _) rfl) ?_
                refine ops_nil ?_
                have e8 : k = ps[i].bytes.size := by omega
                exact ⟨⟨i + 1, by omega, all_step hn2 hri hw⟩, by simp only; omega, le_mk ⟨rfl, rfl, rfl, rfl, trivial⟩ ⟨.inr (by rw [layB_succ hri, ← wrK_full, ← e8]; rfl), trivial⟩ rfl⟩
      · refine ok_exit ?_
        refine ok_reg ?_
        first
          | refine s1 rfl (lop_move (v := .sl _ _) rfl) ?_
          | refine s1 rfl (lop_move (v := .os _ _ _ _) rfl) ?_
          | refine s1 rfl (lop_move (v := .z0) rfl) ?_
        have e9 : i = ps.length := by omega
        refine s1 rfl (lop_str_os (l := layB n ps) rfl rfl (by rw [rowV_length, hlen]; omega) (by rw [List.drop_zero, List.take_of_length_le (by rw [rowV_length, hlen]; omega), e9, List.take_length]) rfl Try.underlying119 Try.underlying5 Try.underlying9) ?_
        refine s1 rfl (lop_assign (v := .str _) rfl) ?_
        refine s1 rfl (lop_assign (v := .int _ _) rfl) ?_
        refine ops_nil ?_
        refine ok_ret ?_
        rw [layF_yes (fun j h1 h2 => hn2 j h1 (by omega))]
        exact ret_two rfl rfl rfl rfl rfl rfl rfl

theorem ref10_Ints_ac {l : List Int} (hl : l.length ≤ 1048576) : AC Try.prog 22 [rowOf intEnc l, rowOf intEnc l] (.bool true) := by
  refine AC.intro Try.func22 rfl (Nat.le_of_ble_eq_true rfl) ?_
  refine ok_reg ?_
  refine s1 rfl (lop_assign (v := .bool _) rfl) ?_
  refine ops_nil ?_
  refine ok_seq ?_
  refine ok_reg ?_
  first
    | refine s1 rfl (lop_move (v := .sl _ _) rfl) ?_
    | refine s1 rfl (lop_move (v := .os _ _ _ _) rfl) ?_
    | refine s1 rfl (lop_move (v := .z0) rfl) ?_
  refine s1 rfl (lop_len rfl Try.underlying74 ⟨⟨_, rfl⟩, rfl⟩) ?_
  first
    | refine s1 rfl (lop_move (v := .sl _ _) rfl) ?_
    | refine s1 rfl (lop_move (v := .os _ _ _ _) rfl) ?_
    | refine s1 rfl (lop_move (v := .z0) rfl) ?_
  refine s1 rfl (lop_len rfl Try.underlying74 ⟨⟨_, rfl⟩, rfl⟩) ?_
  refine s1 rfl (lop_neq rfl rfl) ?_
  refine ops_nil ?_
  first
    | refine ok_if _ rfl rfl (fun h_t10 => ?_) (fun h_t10 => ?_)
    | refine ok_cond rfl rfl (fun h_t10 => ?_) (fun h_t10 => ?_)
  · exact absurd rfl h_t10
  · refine ok_skip ?_
    refine ok_seq ?_
    refine ok_reg ?_
    refine s1 rfl (lop_assign (v := .int _ _) rfl) ?_
    refine ops_nil ?_
    refine ok_block ?_
    refine ok_loop (ι := {i : Nat // i ≤ l.length}) (fun i => ⟨[(0, rowOf intEnc l), (1, rowOf intEnc l), (5, i64 i.1)], [], 26⟩) (fun i => l.length - i.1) (⟨0, Nat.zero_le _⟩) ?_ ?_
    · exact le_mk ⟨rfl, rfl, rfl, trivial⟩ trivial rfl
    rintro ⟨i, hi⟩
    dsimp only
    refine ok_seq ?_
    refine ok_reg ?_
    refine s1 rfl (lop_move (v := .int _ _) rfl) ?_
    first
      | refine s1 rfl (lop_move (v := .sl _ _) rfl) ?_
      | refine s1 rfl (lop_move (v := .os _ _ _ _) rfl) ?_
      | refine s1 rfl (lop_move (v := .z0) rfl) ?_
    refine s1 rfl (lop_len rfl Try.underlying74 ⟨⟨_, rfl⟩, rfl⟩) ?_
    refine s1 rfl (lop_lss rfl rfl) ?_
    refine ops_nil ?_
    first
      | refine ok_if _ rfl rfl (fun h_t14 => ?_) (fun h_t14 => ?_)
      | refine ok_cond rfl rfl (fun h_t14 => ?_) (fun h_t14 => ?_)
    · have hri : i < l.length := by omega
      refine ok_skip ?_
      refine ok_seq ?_
      refine ok_block ?_
      refine ok_drw Try.mixed ?_
      first
        | refine d1 rfl rfl (lop_move (v := .sl _ _) rfl) ?_
        | refine d1 rfl rfl (lop_move (v := .os _ _ _ _) rfl) ?_
        | refine d1 rfl rfl (lop_move (v := .z0) rfl) ?_
      refine d1 rfl rfl (lop_move (v := .int _ _) rfl) ?_
      first
        | refine d1 rfl rfl (lop_indexAddr_os rfl rfl Try.underlying74 Try.sizeOf3 rfl hri) ?_
        | refine d1 rfl rfl (lop_indexAddr_sl rfl rfl Try.underlying74 Try.sizeOf3 rfl hri (flat_at intEnc_len hri) (flat_ne intEnc_len (by decide) hri)) ?_
      refine d1 rfl rfl (lop_load_fp (v := i64 l[i]) rfl Try.isAgg3 rfl) ?_
      first
        | refine d1 rfl rfl (lop_move (v := .sl _ _) rfl) ?_
        | refine d1 rfl rfl (lop_move (v := .os _ _ _ _) rfl) ?_
        | refine d1 rfl rfl (lop_move (v := .z0) rfl) ?_
      refine d1 rfl rfl (lop_move (v := .int _ _) rfl) ?_
      first
        | refine d1 rfl rfl (lop_indexAddr_os rfl rfl Try.underlying74 Try.sizeOf3 rfl hri) ?_
        | refine d1 rfl rfl (lop_indexAddr_sl rfl rfl Try.underlying74 Try.sizeOf3 rfl hri (flat_at intEnc_len hri) (flat_ne intEnc_len (by decide) hri)) ?_
      refine d1 rfl rfl (lop_load_fp (v := i64 l[i]) rfl Try.isAgg3 rfl) ?_
      refine d1 rfl rfl (lop_neq rfl rfl) ?_
      refine dr_nil (by kernel_rfl) ?_
      first
        | refine ok_if _ rfl rfl (fun h_t25 => ?_) (fun h_t25 => ?_)
        | refine ok_cond rfl rfl (fun h_t25 => ?_) (fun h_t25 => ?_)
      · exact absurd rfl h_t25
      · refine ok_skip ?_
        refine ok_region ?_
        refine s1 rfl (lop_move (v := .int _ _) rfl) ?_
        refine s1 rfl (lop_bop rfl rfl rfl (bop_add (by omega) (by omega))) ?_
        refine s1 rfl (lop_assign (v := .int _ _) rfl) ?_
        refine ops_nil ?_
        exact ⟨⟨i + 1, by omega⟩, by simp only; omega, le_mk ⟨rfl, rfl, rfl, trivial⟩ trivial rfl⟩
    · refine ok_exit ?_
      refine ok_reg ?_
      refine s1 rfl (lop_assign (v := .bool _) rfl) ?_
      refine ops_nil ?_
      refine ok_ret ?_
      exact ret_one rfl rfl rfl rfl rfl

end Go.Proofs
