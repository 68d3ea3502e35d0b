/- Chapter 15: walks. Printed by gen.py. -/
import Derived.Test.YtajlkpogccbboaaT15k
set_option linter.unusedVariables false
set_option linter.unusedSimpArgs false
set_option maxRecDepth 100000
namespace Go.Proofs
open Go.Hg

theorem setL_mem {α : Type} {l : List α} {i : Int} {v y : α} (h : y ∈ setL l i v) : y = v ∨ y ∈ l := by
 unfold setL at h
 split at h
 ·rcases List.mem_append.1 h with h | h
  ·exact .inr h
  ·exact .inl (List.mem_singleton.1 h)
 ·rcases List.mem_or_eq_of_mem_set h with h | h
  ·exact .inr h
  ·exact .inl h
structure VFit (n : Nat) (v : VolD) : Prop where
 parts : v.parts.length ≤ n
 places : v.places.length ≤ n
 used : R64 v.used
theorem Fit.up {n : Nat} {x : IdxD} (h : Fit n x) : Fit (n + 1) x := ⟨Nat.le_succ_of_le h.vols, Nat.le_succ_of_le h.names, Nat.le_succ_of_le h.last, fun v hv => Nat.le_succ_of_le (h.parts v hv), fun v hv => Nat.le_succ_of_le (h.places v hv), h.used⟩
theorem Fit.vfit {n : Nat} {x : IdxD} (h : Fit n x) {v : VolD} (hv : v ∈ x.vols) : VFit n v := ⟨h.parts v hv, h.places v hv, h.used v hv⟩
theorem VFit.up {n : Nat} {v : VolD} (h : VFit n v) : VFit (n + 1) v := ⟨Nat.le_succ_of_le h.parts, Nat.le_succ_of_le h.places, h.used⟩
/-- Other volumes, as fit. -/
theorem Fit.with {n : Nat} {x : IdxD} (h : Fit n x) {l : List VolD} (hl : l.length ≤ n + 1) (hv : ∀ v ∈ l, VFit (n + 1) v) {ns : List NameD} (hn : ns.length ≤ n + 1) : Fit (n + 1) ⟨l, ns, x.last⟩ :=
 ⟨hl, hn, Nat.le_succ_of_le h.last, fun v hm => (hv v hm).parts, fun v hm => (hv v hm).places, fun v hm => (hv v hm).used⟩
theorem Fit.set {n : Nat} {x : IdxD} (h : Fit n x) {i : Int} {v : VolD} (hv : VFit (n + 1) v) {ns : List NameD} (hn : ns.length ≤ n + 1) : Fit (n + 1) ⟨setL x.vols i v, ns, x.last⟩ :=
 h.with (Nat.le_trans (setL_len _ _ _) (Nat.succ_le_succ h.vols)) (fun y hy => (setL_mem hy).elim (fun e => e ▸ hv) fun hm => (h.vfit hm).up) hn
theorem r64_used {v : VolD} {n : Int} (h : R64 v.used) (hn : 1 ≤ n ∧ n ≤ 32) (hu : ¬ v.used > 160 - n) : R64 (v.used + n) := ⟨by have := h.1; omega, by omega⟩
theorem does_fit {n : Nat} {x : IdxD} (h : Fit n x) {c : CmdD} (hm : May c) (hn : 14 ≤ n) : Fit (n + 1) (doesF x c).1 := by
 have hv := h.vols
 have hns := h.names
 have hp := hm.places
 unfold doesF
 split
 ·unfold openF
  split
  ·exact h.up
  ·split
   ·exact h.up
   ·refine h.with (by simp; omega) (fun y hy => ?_) (by omega)
    rcases List.mem_append.1 hy with hy | hy
    ·exact (h.vfit hy).up
    ·rw [List.mem_singleton.1 hy]
     exact ⟨Nat.zero_le _, Nat.zero_le _, by unfold R64; simp⟩
 split
 ·unfold reserveF
  split
  ·exact h.up
  ·rename_i h1
   have hf := h.vfit (volF_mem h1).1
   split
   ·exact h.up
   ·split
    ·exact h.up
    ·split
     ·exact h.up
     ·exact h.set (ns := x.names) (v := { (volF x c.vol).1 with used := (volF x c.vol).1.used + c.n }) ⟨hf.up.parts, hf.up.places, r64_used hf.used (by omega) (by assumption)⟩ (by omega)
 split
 ·unfold putF
  split
  ·exact h.up
  ·split
   ·exact h.up
   ·rename_i h1
    have hf := h.vfit (volF_mem h1).1
    split
    ·exact h.up
    ·split
     ·exact h.up
     ·split
      ·exact h.up
      ·refine h.set (v := { (volF x c.vol).1 with parts := (volF x c.vol).1.parts ++ [⟨c.off, c.n⟩] }) ⟨by have := hf.parts; simp only [List.length_append, List.length_singleton]; omega, hf.up.places, hf.used⟩ ?_
       split
       ·exact Nat.le_trans (setL_len _ _ _) (by omega)
       ·unfold insL
        simp only [List.length_append, List.length_take, List.length_drop, List.length_singleton]
        omega
 split
 ·unfold dropF
  split
  ·exact h.up
  ·refine ⟨h.up.vols, ?_, h.up.last, h.up.parts, h.up.places, h.up.used⟩
   simp only [List.length_append, List.length_take, List.length_drop]
   omega
 split
 ·unfold getF
  split <;> exact h.up
 split
 ·unfold lockF
  split
  ·exact h.up
  ·rename_i h1
   have hf := h.vfit (volF_mem h1).1
   split
   ·exact h.up
   ·exact h.set (ns := x.names) (v := { (volF x c.vol).1 with phase := 2 }) ⟨hf.up.parts, hf.up.places, hf.used⟩ (by omega)
 split
 ·unfold sealF
  split
  ·exact h.up
  ·rename_i h1
   have hf := h.vfit (volF_mem h1).1
   split
   ·exact h.up
   ·split
    ·exact h.up
    ·exact h.set (ns := x.names) (v := { (volF x c.vol).1 with phase := 3, places := c.places }) ⟨hf.up.parts, by simp only; omega, hf.used⟩ (by omega)
 split
 ·unfold pairF
  split
  ·exact h.up
  ·rename_i h1
   have hf1 := h.vfit (volF_mem (x := x) (id := c.vol) (by omega)).1
   have hf2 := h.vfit (volF_mem (x := x) (id := c.mate) (by omega)).1
   have p1 := (volF_mem (x := x) (id := c.vol) (by omega)).2.2.1
   have p2 := (volF_mem (x := x) (id := c.mate) (by omega)).2.2.1
   split
   ·exact h.up
   ·split
    ·exact h.up
    ·split
     ·exact h.up
     ·refine h.with (by rw [List.length_append, setL_len0 p2, setL_len0 p1]; simp; omega) (fun y hy => ?_) (by omega)
      rcases List.mem_append.1 hy with hy | hy
      ·rcases setL_mem hy with rfl | hy
       ·exact ⟨hf2.up.parts, hf2.up.places, hf2.used⟩
       ·rcases setL_mem hy with rfl | hy
        ·exact ⟨hf1.up.parts, hf1.up.places, hf1.used⟩
        ·exact (h.vfit hy).up
      ·rw [List.mem_singleton.1 hy]
       exact ⟨Nat.zero_le _, by simp only; omega, by unfold R64; simp⟩
 ·unfold moveF
  split
  ·exact h.up
  ·rename_i h1
   have hf := h.vfit (volF_mem h1).1
   split
   ·exact h.up
   ·split
    ·exact h.up
    ·exact h.set (ns := x.names) (v := { (volF x c.vol).1 with places := setL (volF x c.vol).1.places c.idx (c.places.headD ⟨0, 0⟩) }) ⟨hf.up.parts, Nat.le_trans (setL_len _ _ _) (Nat.succ_le_succ hf.places), hf.used⟩ (by omega)
theorem openF_last {x : IdxD} {c : CmdD} : (openF x c).1.last = x.last := by
 unfold openF
 split <;> try rfl
 split <;> try rfl
theorem reserveF_last {x : IdxD} {c : CmdD} : (reserveF x c).1.last = x.last := by
 unfold reserveF
 split <;> try rfl
 split <;> try rfl
 split <;> try rfl
 split <;> try rfl
theorem putF_last {x : IdxD} {c : CmdD} : (putF x c).1.last = x.last := by
 unfold putF
 split <;> try rfl
 split <;> try rfl
 split <;> try rfl
 split <;> try rfl
 split <;> try rfl
theorem dropF_last {x : IdxD} {c : CmdD} : (dropF x c).1.last = x.last := by
 unfold dropF
 split <;> try rfl
theorem getF_last {x : IdxD} {c : CmdD} : (getF x c).1.last = x.last := by
 unfold getF
 split <;> try rfl
theorem lockF_last {x : IdxD} {c : CmdD} : (lockF x c).1.last = x.last := by
 unfold lockF
 split <;> try rfl
 split <;> try rfl
theorem sealF_last {x : IdxD} {c : CmdD} : (sealF x c).1.last = x.last := by
 unfold sealF
 split <;> try rfl
 split <;> try rfl
 split <;> try rfl
theorem pairF_last {x : IdxD} {c : CmdD} : (pairF x c).1.last = x.last := by
 unfold pairF
 split <;> try rfl
 split <;> try rfl
 split <;> try rfl
 split <;> try rfl
theorem moveF_last {x : IdxD} {c : CmdD} : (moveF x c).1.last = x.last := by
 unfold moveF
 split <;> try rfl
 split <;> try rfl
 split <;> try rfl
theorem does_last {x : IdxD} {c : CmdD} : (doesF x c).1.last = x.last := by
 unfold doesF
 split
 ·exact openF_last
 split
 ·exact reserveF_last
 split
 ·exact putF_last
 split
 ·exact dropF_last
 split
 ·exact getF_last
 split
 ·exact lockF_last
 split
 ·exact sealF_last
 split
 ·exact pairF_last
 exact moveF_last
theorem lastF_lt (x : IdxD) (id : Int) : (lastF x id).2 < x.last.length := by
 unfold lastF
 rw [findG_idx]
 exact idxOf_lt _ _
theorem do_fit {n : Nat} {x : IdxD} (h : Fit n x) {c : CmdD} (hn : 14 ≤ n) : Fit (n + 1) (doF x c).1 := by
 unfold doF
 split
 ·exact h.up
 ·rename_i h1
  have hm := may_of (by simpa using h1)
  have hd := does_fit h hm hn
  split
  ·exact h.up
  ·split
   ·exact h.up
   ·split
    ·refine ⟨hd.vols, hd.names, ?_, hd.parts, hd.places, hd.used⟩
     refine Nat.le_trans (setL_len _ _ _) ?_
     rw [does_last]
     exact Nat.succ_le_succ h.last
    ·exact hd

set_option maxHeartbeats 1000000 in
theorem index_Do_ac {x : IdxD} (hx : Fit 549755000000 x) {c : CmdD} (hc : c.places.length ≤ 549755813888) : AC Try.prog 11 [.agg x.enc, .agg c.enc] (.tup [.agg (doF x c).1.enc, .agg (doF x c).2.enc]) := by
 refine AC.intro Try.func11 rfl (Nat.le_of_ble_eq_true rfl) ?_
 refine ok_reg ?_
 first
  | refine s1w rfl (lop_box (t := 2) (v := .agg [_, _, _]) (f := true) (cs := [_, _, _]) rfl rfl rfl rfl (fun h => by cases h)) rfl ?_
  | refine s1w rfl (lop_box (t := 2) (v := .agg [_, _, _]) (f := false) (cs := [_, _, _]) rfl rfl rfl rfl (fun _ => rfl)) rfl ?_
 first
  | refine s1w rfl (lop_box (t := 3) (v := .agg [.int _ _, .int _ _, .int _ _, .str _, .int _ _, .int _ _, .int _ _, .int _ _, .int _ _, .int _ _, .int _ _, _]) (f := true) (cs := [.int _ _, .int _ _, .int _ _, .str _, .int _ _, .int _ _, .int _ _, .int _ _, .int _ _, .int _ _, .int _ _, _]) rfl rfl rfl rfl (fun h => by cases h)) rfl ?_
  | refine s1w rfl (lop_box (t := 3) (v := .agg [.int _ _, .int _ _, .int _ _, .str _, .int _ _, .int _ _, .int _ _, .int _ _, .int _ _, .int _ _, .int _ _, _]) (f := false) (cs := [.int _ _, .int _ _, .int _ _, .str _, .int _ _, .int _ _, .int _ _, .int _ _, .int _ _, .int _ _, .int _ _, _]) rfl rfl rfl rfl (fun _ => rfl)) rfl ?_
 refine s1w rfl (lop_new (t := 4) (cs := [.z0, .z0, .z0]) Try.zeroValue26 rfl rfl rfl rfl) rfl ?_
 refine s1w rfl (lop_new (t := 5) (cs := [.int _ _, .int _ _, .int _ _, .int _ _, .int _ _, .bool _]) Try.zeroValue35 rfl rfl rfl rfl) rfl ?_
 refine ops_nil ?_
 refine ok_seq ?_
 refine ok_reg ?_
 first
  | refine s1 rfl (lop_load_rf_agg (ys := [.int _ _, .int _ _, .int _ _, .str _, .int _ _, .int _ _, .int _ _, .int _ _, .int _ _, .int _ _, .int _ _, _]) rfl rfl Try.isAgg30 Try.sizeOf30 (Nat.le_of_ble_eq_true rfl) rfl) ?_
  | refine s1 rfl (lop_load_fp_agg (ys := [.int _ _, .int _ _, .int _ _, .str _, .int _ _, .int _ _, .int _ _, .int _ _, .int _ _, .int _ _, .int _ _, _]) rfl Try.isAgg30 Try.sizeOf30 (Nat.le_of_ble_eq_true rfl) rfl) ?_
 refine s1 rfl (lop_call rfl Try.call22 (FrzL.tf rfl) (.inl rfl) (may_ac hc)) ?_
 refine s1 rfl (lop_not rfl) ?_
 refine ops_nil ?_
 first
  | refine ok_if _ rfl rfl (fun h_t13 => ?_) (fun h_t13 => ?_)
  | refine ok_cond rfl rfl (fun h_t13 => ?_) (fun h_t13 => ?_)
 ·refine ok_drw Try.mixed ?_
  first
   | refine d1 rfl rfl (lop_load_rf_agg (ys := [_, _, _]) rfl rfl Try.isAgg26 Try.sizeOf26 (Nat.le_of_ble_eq_true rfl) rfl) ?_
   | refine d1 rfl rfl (lop_load_fp_agg (ys := [_, _, _]) rfl Try.isAgg26 Try.sizeOf26 (Nat.le_of_ble_eq_true rfl) rfl) ?_
  refine d1 rfl rfl (lop_call rfl Try.call23 (FrzL.tf rfl) (.inl rfl) (no_ac 1)) ?_
  first
   | refine d0w rfl rfl (lop_storeK (v := .agg [_, _, _]) (cs' := [_, _, _]) (f' := true) rfl rfl rfl Try.sizeOf26 rfl rfl rfl rfl rfl) ?_
   | refine d0w rfl rfl (lop_storeK (v := .agg [_, _, _]) (cs' := [_, _, _]) (f' := false) rfl rfl rfl Try.sizeOf26 rfl rfl rfl rfl rfl) ?_
  first
   | refine d0w rfl rfl (lop_storeK (v := .agg [.int _ _, .int _ _, .int _ _, .int _ _, .int _ _, .bool _]) (cs' := [.int _ _, .int _ _, .int _ _, .int _ _, .int _ _, .bool _]) (f' := true) rfl rfl rfl Try.sizeOf35 rfl rfl rfl rfl rfl) ?_
   | refine d0w rfl rfl (lop_storeK (v := .agg [.int _ _, .int _ _, .int _ _, .int _ _, .int _ _, .bool _]) (cs' := [.int _ _, .int _ _, .int _ _, .int _ _, .int _ _, .bool _]) (f' := false) rfl rfl rfl Try.sizeOf35 rfl rfl rfl rfl rfl) ?_
  refine dr_nil (by kernel_rfl) ?_
  refine ok_ret ?_
  first
  | (rw [show doF x c = (x, noR 1) by unfold doF; rw [if_pos (by simpa using h_t13)]]; exact ret_gen (R := [4, 5]) ⟨_, _, rfl, ⟨rfl, 4, 0, _, _, rfl, rfl, .inl ⟨3, Try.isAgg26, Try.sizeOf26, Nat.le_of_ble_eq_true rfl, rfl⟩⟩, _, _, rfl, ⟨rfl, 5, 0, _, _, rfl, rfl, .inl ⟨6, Try.isAgg35, Try.sizeOf35, Nat.le_of_ble_eq_true rfl, rfl⟩⟩, rfl⟩ (.tup (.cons (.agg (FrzL.tf rfl)) (.cons (.agg (FrzL.tf rfl)) .nil))) (fun t ht => by simp at ht; rcases ht with rfl | rfl <;> exact Option.some_ne_none _))
  | (rw [show doF x c = (x, (lastF x c.client).1.reply) by unfold doF; rw [if_neg hml, if_pos (by omega)]]; exact ret_gen (R := [4, 5]) ⟨_, _, rfl, ⟨rfl, 4, 0, _, _, rfl, rfl, .inl ⟨3, Try.isAgg26, Try.sizeOf26, Nat.le_of_ble_eq_true rfl, rfl⟩⟩, _, _, rfl, ⟨rfl, 5, 0, _, _, rfl, rfl, .inl ⟨6, Try.isAgg35, Try.sizeOf35, Nat.le_of_ble_eq_true rfl, rfl⟩⟩, rfl⟩ (.tup (.cons (.agg (FrzL.tf rfl)) (.cons (.agg (FrzL.tf rfl)) .nil))) (fun t ht => by simp at ht; rcases ht with rfl | rfl <;> exact Option.some_ne_none _))
  | (rw [show doF x c = (x, noR 9) by unfold doF; rw [if_neg hml, if_neg (by omega), if_pos (by omega)]]; exact ret_gen (R := [4, 5]) ⟨_, _, rfl, ⟨rfl, 4, 0, _, _, rfl, rfl, .inl ⟨3, Try.isAgg26, Try.sizeOf26, Nat.le_of_ble_eq_true rfl, rfl⟩⟩, _, _, rfl, ⟨rfl, 5, 0, _, _, rfl, rfl, .inl ⟨6, Try.isAgg35, Try.sizeOf35, Nat.le_of_ble_eq_true rfl, rfl⟩⟩, rfl⟩ (.tup (.cons (.agg (FrzL.tf rfl)) (.cons (.agg (FrzL.tf rfl)) .nil))) (fun t ht => by simp at ht; rcases ht with rfl | rfl <;> exact Option.some_ne_none _))
  | (rw [show doF x c = (⟨(doesF x c).1.vols, (doesF x c).1.names, setL (doesF x c).1.last (lastF (doesF x c).1 c.client).2 ⟨c.client, c.seq, (doesF x c).2⟩⟩, (doesF x c).2) by unfold doF; rw [if_neg hml, if_neg (by omega), if_neg (by omega), if_pos (by omega)]]; exact ret_gen (R := [4, 5]) ⟨_, _, rfl, ⟨rfl, 4, 0, _, _, rfl, rfl, .inl ⟨3, Try.isAgg26, Try.sizeOf26, Nat.le_of_ble_eq_true rfl, rfl⟩⟩, _, _, rfl, ⟨rfl, 5, 0, _, _, rfl, rfl, .inl ⟨6, Try.isAgg35, Try.sizeOf35, Nat.le_of_ble_eq_true rfl, rfl⟩⟩, rfl⟩ (.tup (.cons (.agg (FrzL.tf rfl)) (.cons (.agg (FrzL.tf rfl)) .nil))) (fun t ht => by simp at ht; rcases ht with rfl | rfl <;> exact Option.some_ne_none _))
  | (rw [show doF x c = (doesF x c) by unfold doF; rw [if_neg hml, if_neg (by omega), if_neg (by omega), if_neg (by omega)]]; exact ret_gen (R := [4, 5]) ⟨_, _, rfl, ⟨rfl, 4, 0, _, _, rfl, rfl, .inl ⟨3, Try.isAgg26, Try.sizeOf26, Nat.le_of_ble_eq_true rfl, rfl⟩⟩, _, _, rfl, ⟨rfl, 5, 0, _, _, rfl, rfl, .inl ⟨6, Try.isAgg35, Try.sizeOf35, Nat.le_of_ble_eq_true rfl, rfl⟩⟩, rfl⟩ (.tup (.cons (.agg (FrzL.tf rfl)) (.cons (.agg (FrzL.tf rfl)) .nil))) (fun t ht => by simp at ht; rcases ht with rfl | rfl <;> exact Option.some_ne_none _))
 ·have hml : ¬ mayF c = false := by simpa using h_t13
  have hm := may_of (by simpa using h_t13)
  have hd := does_fit hx hm (by omega)
  have hll := hx.last
  have hdl := hd.last
  refine ok_skip ?_
  refine ok_reg ?_
  first
   | refine s1 rfl (lop_load_rf_agg (ys := [_, _, _]) rfl rfl Try.isAgg26 Try.sizeOf26 (Nat.le_of_ble_eq_true rfl) rfl) ?_
   | refine s1 rfl (lop_load_fp_agg (ys := [_, _, _]) rfl Try.isAgg26 Try.sizeOf26 (Nat.le_of_ble_eq_true rfl) rfl) ?_
  first
   | refine s1 rfl (lop_fieldAddr_rf (fo := 1) rfl Try.underlying30 rfl rfl Try.sizeOf3 (by decide)) ?_
   | refine s1 rfl (lop_fieldAddr_fp (fo := 1) rfl Try.underlying30 rfl rfl Try.sizeOf3 (by decide) rfl) ?_
  first
   | refine s1 rfl (lop_load_rf rfl rfl Try.isAgg3 rfl) ?_
   | refine s1 rfl (lop_load_fp rfl Try.isAgg3 rfl) ?_
  refine s1 rfl (lop_call rfl Try.call12 (FrzL.tf rfl) (.inl rfl) (index_Last_ac x (by omega) c.client)) ?_
  refine s1 rfl (lop_move (v := .tup _) rfl) ?_
  refine s1 rfl (lop_extract rfl rfl) ?_
  refine s1 rfl (lop_extract rfl rfl) ?_
  refine s1w rfl (lop_new (t := 6) (cs := [.int _ _, .int _ _, .int _ _, .int _ _, .int _ _, .int _ _, .int _ _, .bool _]) Try.zeroValue39 rfl rfl rfl rfl) rfl ?_
  first
   | refine s0w rfl (lop_storeK (v := .agg [.int _ _, .int _ _, .int _ _, .int _ _, .int _ _, .int _ _, .int _ _, .bool _]) (cs' := [.int _ _, .int _ _, .int _ _, .int _ _, .int _ _, .int _ _, .int _ _, .bool _]) (f' := true) rfl rfl rfl Try.sizeOf39 rfl rfl rfl rfl rfl) ?_
   | refine s0w rfl (lop_storeK (v := .agg [.int _ _, .int _ _, .int _ _, .int _ _, .int _ _, .int _ _, .int _ _, .bool _]) (cs' := [.int _ _, .int _ _, .int _ _, .int _ _, .int _ _, .int _ _, .int _ _, .bool _]) (f' := false) rfl rfl rfl Try.sizeOf39 rfl rfl rfl rfl rfl) ?_
  refine s1 rfl (lop_assign (v := .bool _) rfl) ?_
  refine ops_nil ?_
  refine ok_seq ?_
  refine ok_block ?_
  refine ok_reg ?_
  first
   | refine s1 rfl (lop_fieldAddr_rf (fo := 1) rfl Try.underlying30 rfl rfl Try.sizeOf3 (by decide)) ?_
   | refine s1 rfl (lop_fieldAddr_fp (fo := 1) rfl Try.underlying30 rfl rfl Try.sizeOf3 (by decide) rfl) ?_
  first
   | refine s1 rfl (lop_load_rf rfl rfl Try.isAgg3 rfl) ?_
   | refine s1 rfl (lop_load_fp rfl Try.isAgg3 rfl) ?_
  refine s1 rfl (lop_gtr rfl rfl) ?_
  refine s1 rfl (lop_move (v := .bool _) rfl) ?_
  first
   | refine gsplitP 3 rfl rfl (fun g4_3 p4_3 => ?_) (fun g4_3 p4_3 => ?_)
   | refine gsplitB 3 rfl rfl (fun g4_3 p4_3 => ?_) (fun g4_3 p4_3 => ?_)
  ·refine y1 rfl rfl g4_3 rfl (lop_move (v := .bool _) rfl) ?_
   first
    | refine s1 rfl (lop_pick_t (v := .bool _) rfl g4_3 rfl) ?_
    | refine s1 rfl (lop_pick_t (v := .bool _) rfl rfl rfl) ?_
    | refine s1 rfl (lop_pick_f (v := .bool _) rfl rfl rfl) ?_
    | refine s1 rfl (lop_pick rfl rfl rfl) ?_
   refine s1 rfl (lop_move (v := .bool _) rfl) ?_
   first
    | refine gsplitP 6 rfl rfl (fun g4_6 p4_6 => ?_) (fun g4_6 p4_6 => ?_)
    | refine gsplitB 6 rfl rfl (fun g4_6 p4_6 => ?_) (fun g4_6 p4_6 => ?_)
   ·first
     | refine y1 rfl rfl g4_6 rfl (lop_fieldAddr_rf (fo := 1) rfl Try.underlying39 rfl rfl Try.sizeOf3 (by decide)) ?_
     | refine y1 rfl rfl g4_6 rfl (lop_fieldAddr_fp (fo := 1) rfl Try.underlying39 rfl rfl Try.sizeOf3 (by decide) rfl) ?_
    first
     | refine y1 rfl rfl g4_6 rfl (lop_load_rf rfl rfl Try.isAgg3 rfl) ?_
     | refine y1 rfl rfl g4_6 rfl (lop_load_fp rfl Try.isAgg3 rfl) ?_
    first
     | refine y1 rfl rfl g4_6 rfl (lop_fieldAddr_rf (fo := 2) rfl Try.underlying30 rfl rfl Try.sizeOf3 (by decide)) ?_
     | refine y1 rfl rfl g4_6 rfl (lop_fieldAddr_fp (fo := 2) rfl Try.underlying30 rfl rfl Try.sizeOf3 (by decide) rfl) ?_
    first
     | refine y1 rfl rfl g4_6 rfl (lop_load_rf rfl rfl Try.isAgg3 rfl) ?_
     | refine y1 rfl rfl g4_6 rfl (lop_load_fp rfl Try.isAgg3 rfl) ?_
    refine y1 rfl rfl g4_6 rfl (lop_eql rfl rfl) ?_
    first
     | refine s1 rfl (lop_pick_t (v := .bool _) rfl g4_3 rfl) ?_
     | refine s1 rfl (lop_pick_t (v := .bool _) rfl g4_6 rfl) ?_
     | refine s1 rfl (lop_pick_t (v := .bool _) rfl rfl rfl) ?_
     | refine s1 rfl (lop_pick_f (v := .bool _) rfl rfl rfl) ?_
     | refine s1 rfl (lop_pick rfl rfl rfl) ?_
    refine s1 rfl (lop_assign (v := .bool _) rfl) ?_
    refine ops_nil ?_
    first
     | refine ok_if _ rfl rfl (fun h_t23 => ?_) (fun h_t23 => ?_)
     | refine ok_cond rfl rfl (fun h_t23 => ?_) (fun h_t23 => ?_)
    ·refine ok_drw Try.mixed ?_
     first
      | refine d1 rfl rfl (lop_load_rf_agg (ys := [_, _, _]) rfl rfl Try.isAgg26 Try.sizeOf26 (Nat.le_of_ble_eq_true rfl) rfl) ?_
      | refine d1 rfl rfl (lop_load_fp_agg (ys := [_, _, _]) rfl Try.isAgg26 Try.sizeOf26 (Nat.le_of_ble_eq_true rfl) rfl) ?_
     first
      | refine d1 rfl rfl (lop_fieldAddr_rf (fo := 2) rfl Try.underlying39 rfl rfl Try.sizeOf35 (by decide)) ?_
      | refine d1 rfl rfl (lop_fieldAddr_fp (fo := 2) rfl Try.underlying39 rfl rfl Try.sizeOf35 (by decide) rfl) ?_
     first
      | refine d1 rfl rfl (lop_load_rf_agg (ys := [.int _ _, .int _ _, .int _ _, .int _ _, .int _ _, .bool _]) rfl rfl Try.isAgg35 Try.sizeOf35 (Nat.le_of_ble_eq_true rfl) rfl) ?_
      | refine d1 rfl rfl (lop_load_fp_agg (ys := [.int _ _, .int _ _, .int _ _, .int _ _, .int _ _, .bool _]) rfl Try.isAgg35 Try.sizeOf35 (Nat.le_of_ble_eq_true rfl) rfl) ?_
     first
      | refine d0w rfl rfl (lop_storeK (v := .agg [_, _, _]) (cs' := [_, _, _]) (f' := true) rfl rfl rfl Try.sizeOf26 rfl rfl rfl rfl rfl) ?_
      | refine d0w rfl rfl (lop_storeK (v := .agg [_, _, _]) (cs' := [_, _, _]) (f' := false) rfl rfl rfl Try.sizeOf26 rfl rfl rfl rfl rfl) ?_
     first
      | refine d0w rfl rfl (lop_storeK (v := .agg [.int _ _, .int _ _, .int _ _, .int _ _, .int _ _, .bool _]) (cs' := [.int _ _, .int _ _, .int _ _, .int _ _, .int _ _, .bool _]) (f' := true) rfl rfl rfl Try.sizeOf35 rfl rfl rfl rfl rfl) ?_
      | refine d0w rfl rfl (lop_storeK (v := .agg [.int _ _, .int _ _, .int _ _, .int _ _, .int _ _, .bool _]) (cs' := [.int _ _, .int _ _, .int _ _, .int _ _, .int _ _, .bool _]) (f' := false) rfl rfl rfl Try.sizeOf35 rfl rfl rfl rfl rfl) ?_
     refine dr_nil (by kernel_rfl) ?_
     refine ok_ret ?_
     first
     | (rw [show doF x c = (x, noR 1) by unfold doF; rw [if_pos (by simpa using h_t13)]]; exact ret_gen (R := [4, 5]) ⟨_, _, rfl, ⟨rfl, 4, 0, _, _, rfl, rfl, .inl ⟨3, Try.isAgg26, Try.sizeOf26, Nat.le_of_ble_eq_true rfl, rfl⟩⟩, _, _, rfl, ⟨rfl, 5, 0, _, _, rfl, rfl, .inl ⟨6, Try.isAgg35, Try.sizeOf35, Nat.le_of_ble_eq_true rfl, rfl⟩⟩, rfl⟩ (.tup (.cons (.agg (FrzL.tf rfl)) (.cons (.agg (FrzL.tf rfl)) .nil))) (fun t ht => by simp at ht; rcases ht with rfl | rfl <;> exact Option.some_ne_none _))
     | (rw [show doF x c = (x, (lastF x c.client).1.reply) by unfold doF; rw [if_neg hml, if_pos (by omega)]]; exact ret_gen (R := [4, 5]) ⟨_, _, rfl, ⟨rfl, 4, 0, _, _, rfl, rfl, .inl ⟨3, Try.isAgg26, Try.sizeOf26, Nat.le_of_ble_eq_true rfl, rfl⟩⟩, _, _, rfl, ⟨rfl, 5, 0, _, _, rfl, rfl, .inl ⟨6, Try.isAgg35, Try.sizeOf35, Nat.le_of_ble_eq_true rfl, rfl⟩⟩, rfl⟩ (.tup (.cons (.agg (FrzL.tf rfl)) (.cons (.agg (FrzL.tf rfl)) .nil))) (fun t ht => by simp at ht; rcases ht with rfl | rfl <;> exact Option.some_ne_none _))
     | (rw [show doF x c = (x, noR 9) by unfold doF; rw [if_neg hml, if_neg (by omega), if_pos (by omega)]]; exact ret_gen (R := [4, 5]) ⟨_, _, rfl, ⟨rfl, 4, 0, _, _, rfl, rfl, .inl ⟨3, Try.isAgg26, Try.sizeOf26, Nat.le_of_ble_eq_true rfl, rfl⟩⟩, _, _, rfl, ⟨rfl, 5, 0, _, _, rfl, rfl, .inl ⟨6, Try.isAgg35, Try.sizeOf35, Nat.le_of_ble_eq_true rfl, rfl⟩⟩, rfl⟩ (.tup (.cons (.agg (FrzL.tf rfl)) (.cons (.agg (FrzL.tf rfl)) .nil))) (fun t ht => by simp at ht; rcases ht with rfl | rfl <;> exact Option.some_ne_none _))
     | (rw [show doF x c = (⟨(doesF x c).1.vols, (doesF x c).1.names, setL (doesF x c).1.last (lastF (doesF x c).1 c.client).2 ⟨c.client, c.seq, (doesF x c).2⟩⟩, (doesF x c).2) by unfold doF; rw [if_neg hml, if_neg (by omega), if_neg (by omega), if_pos (by omega)]]; exact ret_gen (R := [4, 5]) ⟨_, _, rfl, ⟨rfl, 4, 0, _, _, rfl, rfl, .inl ⟨3, Try.isAgg26, Try.sizeOf26, Nat.le_of_ble_eq_true rfl, rfl⟩⟩, _, _, rfl, ⟨rfl, 5, 0, _, _, rfl, rfl, .inl ⟨6, Try.isAgg35, Try.sizeOf35, Nat.le_of_ble_eq_true rfl, rfl⟩⟩, rfl⟩ (.tup (.cons (.agg (FrzL.tf rfl)) (.cons (.agg (FrzL.tf rfl)) .nil))) (fun t ht => by simp at ht; rcases ht with rfl | rfl <;> exact Option.some_ne_none _))
     | (rw [show doF x c = (doesF x c) by unfold doF; rw [if_neg hml, if_neg (by omega), if_neg (by omega), if_neg (by omega)]]; exact ret_gen (R := [4, 5]) ⟨_, _, rfl, ⟨rfl, 4, 0, _, _, rfl, rfl, .inl ⟨3, Try.isAgg26, Try.sizeOf26, Nat.le_of_ble_eq_true rfl, rfl⟩⟩, _, _, rfl, ⟨rfl, 5, 0, _, _, rfl, rfl, .inl ⟨6, Try.isAgg35, Try.sizeOf35, Nat.le_of_ble_eq_true rfl, rfl⟩⟩, rfl⟩ (.tup (.cons (.agg (FrzL.tf rfl)) (.cons (.agg (FrzL.tf rfl)) .nil))) (fun t ht => by simp at ht; rcases ht with rfl | rfl <;> exact Option.some_ne_none _))
    ·refine ok_reg ?_
     first
      | refine s1 rfl (lop_fieldAddr_rf (fo := 1) rfl Try.underlying30 rfl rfl Try.sizeOf3 (by decide)) ?_
      | refine s1 rfl (lop_fieldAddr_fp (fo := 1) rfl Try.underlying30 rfl rfl Try.sizeOf3 (by decide) rfl) ?_
     first
      | refine s1 rfl (lop_load_rf rfl rfl Try.isAgg3 rfl) ?_
      | refine s1 rfl (lop_load_fp rfl Try.isAgg3 rfl) ?_
     refine s1 rfl (lop_gtr rfl rfl) ?_
     refine s1 rfl (lop_move (v := .bool _) rfl) ?_
     first
      | refine gsplitP 3 rfl rfl (fun g6_3 p6_3 => ?_) (fun g6_3 p6_3 => ?_)
      | refine gsplitB 3 rfl rfl (fun g6_3 p6_3 => ?_) (fun g6_3 p6_3 => ?_)
     ·refine y1 rfl rfl g6_3 rfl (lop_move (v := .bool _) rfl) ?_
      first
       | refine s1 rfl (lop_pick_t (v := .bool _) rfl g6_3 rfl) ?_
       | refine s1 rfl (lop_pick_t (v := .bool _) rfl rfl rfl) ?_
       | refine s1 rfl (lop_pick_f (v := .bool _) rfl rfl rfl) ?_
       | refine s1 rfl (lop_pick rfl rfl rfl) ?_
      refine s1 rfl (lop_move (v := .bool _) rfl) ?_
      first
       | refine gsplitP 6 rfl rfl (fun g6_6 p6_6 => ?_) (fun g6_6 p6_6 => ?_)
       | refine gsplitB 6 rfl rfl (fun g6_6 p6_6 => ?_) (fun g6_6 p6_6 => ?_)
      ·first
        | refine y1 rfl rfl g6_6 rfl (lop_fieldAddr_rf (fo := 1) rfl Try.underlying39 rfl rfl Try.sizeOf3 (by decide)) ?_
        | refine y1 rfl rfl g6_6 rfl (lop_fieldAddr_fp (fo := 1) rfl Try.underlying39 rfl rfl Try.sizeOf3 (by decide) rfl) ?_
       first
        | refine y1 rfl rfl g6_6 rfl (lop_load_rf rfl rfl Try.isAgg3 rfl) ?_
        | refine y1 rfl rfl g6_6 rfl (lop_load_fp rfl Try.isAgg3 rfl) ?_
       first
        | refine y1 rfl rfl g6_6 rfl (lop_fieldAddr_rf (fo := 2) rfl Try.underlying30 rfl rfl Try.sizeOf3 (by decide)) ?_
        | refine y1 rfl rfl g6_6 rfl (lop_fieldAddr_fp (fo := 2) rfl Try.underlying30 rfl rfl Try.sizeOf3 (by decide) rfl) ?_
       first
        | refine y1 rfl rfl g6_6 rfl (lop_load_rf rfl rfl Try.isAgg3 rfl) ?_
        | refine y1 rfl rfl g6_6 rfl (lop_load_fp rfl Try.isAgg3 rfl) ?_
       refine y1 rfl rfl g6_6 rfl (lop_gtr rfl rfl) ?_
       first
        | refine s1 rfl (lop_pick_t (v := .bool _) rfl g6_3 rfl) ?_
        | refine s1 rfl (lop_pick_t (v := .bool _) rfl g6_6 rfl) ?_
        | refine s1 rfl (lop_pick_t (v := .bool _) rfl rfl rfl) ?_
        | refine s1 rfl (lop_pick_f (v := .bool _) rfl rfl rfl) ?_
        | refine s1 rfl (lop_pick rfl rfl rfl) ?_
       refine s1 rfl (lop_assign (v := .bool _) rfl) ?_
       refine ops_nil ?_
       first
        | refine ok_if _ rfl rfl (fun h_t40 => ?_) (fun h_t40 => ?_)
        | refine ok_cond rfl rfl (fun h_t40 => ?_) (fun h_t40 => ?_)
       ·refine ok_drw Try.mixed ?_
        first
         | refine d1 rfl rfl (lop_load_rf_agg (ys := [_, _, _]) rfl rfl Try.isAgg26 Try.sizeOf26 (Nat.le_of_ble_eq_true rfl) rfl) ?_
         | refine d1 rfl rfl (lop_load_fp_agg (ys := [_, _, _]) rfl Try.isAgg26 Try.sizeOf26 (Nat.le_of_ble_eq_true rfl) rfl) ?_
        refine d1 rfl rfl (lop_call rfl Try.call23 (FrzL.tf rfl) (.inl rfl) (no_ac 9)) ?_
        first
         | refine d0w rfl rfl (lop_storeK (v := .agg [_, _, _]) (cs' := [_, _, _]) (f' := true) rfl rfl rfl Try.sizeOf26 rfl rfl rfl rfl rfl) ?_
         | refine d0w rfl rfl (lop_storeK (v := .agg [_, _, _]) (cs' := [_, _, _]) (f' := false) rfl rfl rfl Try.sizeOf26 rfl rfl rfl rfl rfl) ?_
        first
         | refine d0w rfl rfl (lop_storeK (v := .agg [.int _ _, .int _ _, .int _ _, .int _ _, .int _ _, .bool _]) (cs' := [.int _ _, .int _ _, .int _ _, .int _ _, .int _ _, .bool _]) (f' := true) rfl rfl rfl Try.sizeOf35 rfl rfl rfl rfl rfl) ?_
         | refine d0w rfl rfl (lop_storeK (v := .agg [.int _ _, .int _ _, .int _ _, .int _ _, .int _ _, .bool _]) (cs' := [.int _ _, .int _ _, .int _ _, .int _ _, .int _ _, .bool _]) (f' := false) rfl rfl rfl Try.sizeOf35 rfl rfl rfl rfl rfl) ?_
        refine dr_nil (by kernel_rfl) ?_
        refine ok_ret ?_
        first
        | (rw [show doF x c = (x, noR 1) by unfold doF; rw [if_pos (by simpa using h_t13)]]; exact ret_gen (R := [4, 5]) ⟨_, _, rfl, ⟨rfl, 4, 0, _, _, rfl, rfl, .inl ⟨3, Try.isAgg26, Try.sizeOf26, Nat.le_of_ble_eq_true rfl, rfl⟩⟩, _, _, rfl, ⟨rfl, 5, 0, _, _, rfl, rfl, .inl ⟨6, Try.isAgg35, Try.sizeOf35, Nat.le_of_ble_eq_true rfl, rfl⟩⟩, rfl⟩ (.tup (.cons (.agg (FrzL.tf rfl)) (.cons (.agg (FrzL.tf rfl)) .nil))) (fun t ht => by simp at ht; rcases ht with rfl | rfl <;> exact Option.some_ne_none _))
        | (rw [show doF x c = (x, (lastF x c.client).1.reply) by unfold doF; rw [if_neg hml, if_pos (by omega)]]; exact ret_gen (R := [4, 5]) ⟨_, _, rfl, ⟨rfl, 4, 0, _, _, rfl, rfl, .inl ⟨3, Try.isAgg26, Try.sizeOf26, Nat.le_of_ble_eq_true rfl, rfl⟩⟩, _, _, rfl, ⟨rfl, 5, 0, _, _, rfl, rfl, .inl ⟨6, Try.isAgg35, Try.sizeOf35, Nat.le_of_ble_eq_true rfl, rfl⟩⟩, rfl⟩ (.tup (.cons (.agg (FrzL.tf rfl)) (.cons (.agg (FrzL.tf rfl)) .nil))) (fun t ht => by simp at ht; rcases ht with rfl | rfl <;> exact Option.some_ne_none _))
        | (rw [show doF x c = (x, noR 9) by unfold doF; rw [if_neg hml, if_neg (by omega), if_pos (by omega)]]; exact ret_gen (R := [4, 5]) ⟨_, _, rfl, ⟨rfl, 4, 0, _, _, rfl, rfl, .inl ⟨3, Try.isAgg26, Try.sizeOf26, Nat.le_of_ble_eq_true rfl, rfl⟩⟩, _, _, rfl, ⟨rfl, 5, 0, _, _, rfl, rfl, .inl ⟨6, Try.isAgg35, Try.sizeOf35, Nat.le_of_ble_eq_true rfl, rfl⟩⟩, rfl⟩ (.tup (.cons (.agg (FrzL.tf rfl)) (.cons (.agg (FrzL.tf rfl)) .nil))) (fun t ht => by simp at ht; rcases ht with rfl | rfl <;> exact Option.some_ne_none _))
        | (rw [show doF x c = (⟨(doesF x c).1.vols, (doesF x c).1.names, setL (doesF x c).1.last (lastF (doesF x c).1 c.client).2 ⟨c.client, c.seq, (doesF x c).2⟩⟩, (doesF x c).2) by unfold doF; rw [if_neg hml, if_neg (by omega), if_neg (by omega), if_pos (by omega)]]; exact ret_gen (R := [4, 5]) ⟨_, _, rfl, ⟨rfl, 4, 0, _, _, rfl, rfl, .inl ⟨3, Try.isAgg26, Try.sizeOf26, Nat.le_of_ble_eq_true rfl, rfl⟩⟩, _, _, rfl, ⟨rfl, 5, 0, _, _, rfl, rfl, .inl ⟨6, Try.isAgg35, Try.sizeOf35, Nat.le_of_ble_eq_true rfl, rfl⟩⟩, rfl⟩ (.tup (.cons (.agg (FrzL.tf rfl)) (.cons (.agg (FrzL.tf rfl)) .nil))) (fun t ht => by simp at ht; rcases ht with rfl | rfl <;> exact Option.some_ne_none _))
        | (rw [show doF x c = (doesF x c) by unfold doF; rw [if_neg hml, if_neg (by omega), if_neg (by omega), if_neg (by omega)]]; exact ret_gen (R := [4, 5]) ⟨_, _, rfl, ⟨rfl, 4, 0, _, _, rfl, rfl, .inl ⟨3, Try.isAgg26, Try.sizeOf26, Nat.le_of_ble_eq_true rfl, rfl⟩⟩, _, _, rfl, ⟨rfl, 5, 0, _, _, rfl, rfl, .inl ⟨6, Try.isAgg35, Try.sizeOf35, Nat.le_of_ble_eq_true rfl, rfl⟩⟩, rfl⟩ (.tup (.cons (.agg (FrzL.tf rfl)) (.cons (.agg (FrzL.tf rfl)) .nil))) (fun t ht => by simp at ht; rcases ht with rfl | rfl <;> exact Option.some_ne_none _))
       ·refine ok_skip ?_
        refine ok_reg ?_
        first
         | refine s1 rfl (lop_load_rf_agg (ys := [_, _, _]) rfl rfl Try.isAgg26 Try.sizeOf26 (Nat.le_of_ble_eq_true rfl) rfl) ?_
         | refine s1 rfl (lop_load_fp_agg (ys := [_, _, _]) rfl Try.isAgg26 Try.sizeOf26 (Nat.le_of_ble_eq_true rfl) rfl) ?_
        first
         | refine s1 rfl (lop_load_rf_agg (ys := [.int _ _, .int _ _, .int _ _, .str _, .int _ _, .int _ _, .int _ _, .int _ _, .int _ _, .int _ _, .int _ _, _]) rfl rfl Try.isAgg30 Try.sizeOf30 (Nat.le_of_ble_eq_true rfl) rfl) ?_
         | refine s1 rfl (lop_load_fp_agg (ys := [.int _ _, .int _ _, .int _ _, .str _, .int _ _, .int _ _, .int _ _, .int _ _, .int _ _, .int _ _, .int _ _, _]) rfl Try.isAgg30 Try.sizeOf30 (Nat.le_of_ble_eq_true rfl) rfl) ?_
        refine s1 rfl (lop_call rfl Try.call24 (FrzL.tf rfl) (.inl rfl) (does_ac hx hm)) ?_
        refine s1 rfl (lop_move (v := .tup _) rfl) ?_
        refine s1 rfl (lop_extract rfl rfl) ?_
        refine s1 rfl (lop_extract rfl rfl) ?_
        refine s1w rfl (lop_new (t := 8) (cs := [.int _ _, .int _ _, .int _ _, .int _ _, .int _ _, .bool _]) Try.zeroValue35 rfl rfl rfl rfl) rfl ?_
        first
         | refine s0w rfl (lop_storeK (v := .agg [_, _, _]) (cs' := [_, _, _]) (f' := true) rfl rfl rfl Try.sizeOf26 rfl rfl rfl rfl rfl) ?_
         | refine s0w rfl (lop_storeK (v := .agg [_, _, _]) (cs' := [_, _, _]) (f' := false) rfl rfl rfl Try.sizeOf26 rfl rfl rfl rfl rfl) ?_
        first
         | refine s0w rfl (lop_storeK (v := .agg [.int _ _, .int _ _, .int _ _, .int _ _, .int _ _, .bool _]) (cs' := [.int _ _, .int _ _, .int _ _, .int _ _, .int _ _, .bool _]) (f' := true) rfl rfl rfl Try.sizeOf35 rfl rfl rfl rfl rfl) ?_
         | refine s0w rfl (lop_storeK (v := .agg [.int _ _, .int _ _, .int _ _, .int _ _, .int _ _, .bool _]) (cs' := [.int _ _, .int _ _, .int _ _, .int _ _, .int _ _, .bool _]) (f' := false) rfl rfl rfl Try.sizeOf35 rfl rfl rfl rfl rfl) ?_
        refine ops_nil ?_
        refine ok_seq ?_
        refine ok_reg ?_
        first
         | refine s1 rfl (lop_fieldAddr_rf (fo := 1) rfl Try.underlying30 rfl rfl Try.sizeOf3 (by decide)) ?_
         | refine s1 rfl (lop_fieldAddr_fp (fo := 1) rfl Try.underlying30 rfl rfl Try.sizeOf3 (by decide) rfl) ?_
        first
         | refine s1 rfl (lop_load_rf rfl rfl Try.isAgg3 rfl) ?_
         | refine s1 rfl (lop_load_fp rfl Try.isAgg3 rfl) ?_
        refine s1 rfl (lop_gtr rfl rfl) ?_
        refine ops_nil ?_
        first
         | refine ok_if _ rfl rfl (fun h_t64 => ?_) (fun h_t64 => ?_)
         | refine ok_cond rfl rfl (fun h_t64 => ?_) (fun h_t64 => ?_)
        ·refine ok_reg ?_
         first
          | refine s1 rfl (lop_fieldAddr_rf (fo := 2) rfl Try.underlying26 rfl rfl Try.sizeOf24 (by decide)) ?_
          | refine s1 rfl (lop_fieldAddr_fp (fo := 2) rfl Try.underlying26 rfl rfl Try.sizeOf24 (by decide) rfl) ?_
         first
          | refine s1 rfl (lop_load_rf rfl rfl Try.isAgg24 rfl) ?_
          | refine s1 rfl (lop_load_fp rfl Try.isAgg24 rfl) ?_
         first
          | refine s1 rfl (lop_func (vs := [.rf _ _]) rfl) ?_
          | refine s1 rfl (lop_func (vs := [.fp _]) rfl) ?_
         refine ops_le (T := ⟨[(2, .rf 2 0), (3, .fp c.enc), (4, .rf 4 0), (5, .rf 5 0), (8, .rf 8 0), (67, rowOf SessD.enc (doesF x c).1.last), (68, .fn 26 [.fp c.enc])], [(2, some (true, (doesF x c).1.enc)), (4, some (true, [.z0, .z0, .z0])), (5, some (true, ReplyD.zero.enc)), (8, some (true, (doesF x c).2.enc))], 85⟩) (le_frz [3] ⟨.inl ⟨rfl, rfl⟩, .inr (fz_sound _ [3] _ rfl), .inl ⟨rfl, rfl⟩, .inl ⟨rfl, rfl⟩, .inl ⟨rfl, rfl⟩, .inl ⟨rfl, rfl⟩, .inr (fz_sound _ [3] _ rfl), trivial⟩ ⟨.inr ⟨rfl, rfl, trivial⟩, .inr ⟨rfl, rfl, trivial⟩, .inr ⟨rfl, rfl, trivial⟩, .inr ⟨rfl, rfl, trivial⟩, trivial⟩ (fun t ht => by simp at ht; subst ht; exact Option.some_ne_none _) rfl) ?_
         refine s1 rfl (lop_call rfl Try.call25 (FrzL.tf rfl) (.inl rfl) (find_Sess_ac (p := fun s => decide (s.client = c.client)) (l := (doesF x c).1.last) (by omega) Try.call26 rfl (fun y _ => do1_ac y c))) ?_
         refine s1 rfl (lop_move (v := .tup _) rfl) ?_
         refine s1 rfl (lop_extract rfl rfl) ?_
         refine s1 rfl (lop_extract rfl rfl) ?_
         refine s1w rfl (lop_new (t := 9) (cs := [.int _ _, .int _ _, .int _ _, .int _ _, .int _ _, .int _ _, .int _ _, .bool _]) Try.zeroValue39 rfl rfl rfl rfl) rfl ?_
         first
          | refine s0w rfl (lop_storeK (v := .agg [.int _ _, .int _ _, .int _ _, .int _ _, .int _ _, .int _ _, .int _ _, .bool _]) (cs' := [.int _ _, .int _ _, .int _ _, .int _ _, .int _ _, .int _ _, .int _ _, .bool _]) (f' := true) rfl rfl rfl Try.sizeOf39 rfl rfl rfl rfl rfl) ?_
          | refine s0w rfl (lop_storeK (v := .agg [.int _ _, .int _ _, .int _ _, .int _ _, .int _ _, .int _ _, .int _ _, .bool _]) (cs' := [.int _ _, .int _ _, .int _ _, .int _ _, .int _ _, .int _ _, .int _ _, .bool _]) (f' := false) rfl rfl rfl Try.sizeOf39 rfl rfl rfl rfl rfl) ?_
         refine s1 rfl (lop_assign (v := .int _ _) rfl) ?_
         refine ops_nil ?_
         refine ok_region ?_
         first
          | refine s1 rfl (lop_fieldAddr_rf (fo := 2) rfl Try.underlying26 rfl rfl Try.sizeOf24 (by decide)) ?_
          | refine s1 rfl (lop_fieldAddr_fp (fo := 2) rfl Try.underlying26 rfl rfl Try.sizeOf24 (by decide) rfl) ?_
         first
          | refine s1 rfl (lop_load_rf rfl rfl Try.isAgg24 rfl) ?_
          | refine s1 rfl (lop_load_fp rfl Try.isAgg24 rfl) ?_
         refine s1 rfl (lop_move (v := .int _ _) rfl) ?_
         first
          | refine s1 rfl (lop_fieldAddr_rf (fo := 1) rfl Try.underlying30 rfl rfl Try.sizeOf3 (by decide)) ?_
          | refine s1 rfl (lop_fieldAddr_fp (fo := 1) rfl Try.underlying30 rfl rfl Try.sizeOf3 (by decide) rfl) ?_
         first
          | refine s1 rfl (lop_load_rf rfl rfl Try.isAgg3 rfl) ?_
          | refine s1 rfl (lop_load_fp rfl Try.isAgg3 rfl) ?_
         first
          | refine s1 rfl (lop_fieldAddr_rf (fo := 2) rfl Try.underlying30 rfl rfl Try.sizeOf3 (by decide)) ?_
          | refine s1 rfl (lop_fieldAddr_fp (fo := 2) rfl Try.underlying30 rfl rfl Try.sizeOf3 (by decide) rfl) ?_
         first
          | refine s1 rfl (lop_load_rf rfl rfl Try.isAgg3 rfl) ?_
          | refine s1 rfl (lop_load_fp rfl Try.isAgg3 rfl) ?_
         first
          | refine s1 rfl (lop_load_rf_agg (ys := [.int _ _, .int _ _, .int _ _, .int _ _, .int _ _, .bool _]) rfl rfl Try.isAgg35 Try.sizeOf35 (Nat.le_of_ble_eq_true rfl) rfl) ?_
          | refine s1 rfl (lop_load_fp_agg (ys := [.int _ _, .int _ _, .int _ _, .int _ _, .int _ _, .bool _]) rfl Try.isAgg35 Try.sizeOf35 (Nat.le_of_ble_eq_true rfl) rfl) ?_
         refine s1 rfl (lop_buildK (cs := [.int _ _, .int _ _, .int _ _, .int _ _, .int _ _, .int _ _, .int _ _, .bool _]) Try.underlying39 Try.zeroValue39 rfl rfl places39 rfl) ?_
         refine s1 rfl (lop_call rfl Try.call27 (FrzL.tf rfl) (.inl rfl) (set_Sess_ac (l := (doesF x c).1.last) (by omega) (i := (lastF (doesF x c).1 c.client).2) (lastF_lt _ _) ⟨c.client, c.seq, (doesF x c).2⟩)) ?_
         first
          | refine s1 rfl (lop_fieldAddr_rf (fo := 2) rfl Try.underlying26 rfl rfl Try.sizeOf24 (by decide)) ?_
          | refine s1 rfl (lop_fieldAddr_fp (fo := 2) rfl Try.underlying26 rfl rfl Try.sizeOf24 (by decide) rfl) ?_
         first
          | refine s0w rfl (lop_storeK (v := .sl _ _) (cs' := [_, _, _]) (f' := true) rfl rfl rfl Try.sizeOf24 rfl rfl rfl rfl rfl) ?_
          | refine s0w rfl (lop_storeK (v := .os _ _ _ _) (cs' := [_, _, _]) (f' := true) rfl rfl rfl Try.sizeOf24 rfl rfl rfl rfl rfl) ?_
          | refine s0w rfl (lop_storeK (v := .z0) (cs' := [_, _, _]) (f' := true) rfl rfl rfl Try.sizeOf24 rfl rfl rfl rfl rfl) ?_
          | refine s0w rfl (lop_storeK (v := .sl _ _) (cs' := [_, _, _]) (f' := false) rfl rfl rfl Try.sizeOf24 rfl rfl rfl rfl rfl) ?_
          | refine s0w rfl (lop_storeK (v := .os _ _ _ _) (cs' := [_, _, _]) (f' := false) rfl rfl rfl Try.sizeOf24 rfl rfl rfl rfl rfl) ?_
          | refine s0w rfl (lop_storeK (v := .z0) (cs' := [_, _, _]) (f' := false) rfl rfl rfl Try.sizeOf24 rfl rfl rfl rfl rfl) ?_
         refine ops_nil ?_
         refine ok_drw Try.mixed ?_
         first
          | refine d1 rfl rfl (lop_load_rf_agg (ys := [_, _, _]) rfl rfl Try.isAgg26 Try.sizeOf26 (Nat.le_of_ble_eq_true rfl) rfl) ?_
          | refine d1 rfl rfl (lop_load_fp_agg (ys := [_, _, _]) rfl Try.isAgg26 Try.sizeOf26 (Nat.le_of_ble_eq_true rfl) rfl) ?_
         first
          | refine d1 rfl rfl (lop_load_rf_agg (ys := [.int _ _, .int _ _, .int _ _, .int _ _, .int _ _, .bool _]) rfl rfl Try.isAgg35 Try.sizeOf35 (Nat.le_of_ble_eq_true rfl) rfl) ?_
          | refine d1 rfl rfl (lop_load_fp_agg (ys := [.int _ _, .int _ _, .int _ _, .int _ _, .int _ _, .bool _]) rfl Try.isAgg35 Try.sizeOf35 (Nat.le_of_ble_eq_true rfl) rfl) ?_
         first
          | refine d0w rfl rfl (lop_storeK (v := .agg [_, _, _]) (cs' := [_, _, _]) (f' := true) rfl rfl rfl Try.sizeOf26 rfl rfl rfl rfl rfl) ?_
          | refine d0w rfl rfl (lop_storeK (v := .agg [_, _, _]) (cs' := [_, _, _]) (f' := false) rfl rfl rfl Try.sizeOf26 rfl rfl rfl rfl rfl) ?_
         first
          | refine d0w rfl rfl (lop_storeK (v := .agg [.int _ _, .int _ _, .int _ _, .int _ _, .int _ _, .bool _]) (cs' := [.int _ _, .int _ _, .int _ _, .int _ _, .int _ _, .bool _]) (f' := true) rfl rfl rfl Try.sizeOf35 rfl rfl rfl rfl rfl) ?_
          | refine d0w rfl rfl (lop_storeK (v := .agg [.int _ _, .int _ _, .int _ _, .int _ _, .int _ _, .bool _]) (cs' := [.int _ _, .int _ _, .int _ _, .int _ _, .int _ _, .bool _]) (f' := false) rfl rfl rfl Try.sizeOf35 rfl rfl rfl rfl rfl) ?_
         refine dr_nil (by kernel_rfl) ?_
         refine ok_ret ?_
         first
         | (rw [show doF x c = (x, noR 1) by unfold doF; rw [if_pos (by simpa using h_t13)]]; exact ret_gen (R := [4, 5]) ⟨_, _, rfl, ⟨rfl, 4, 0, _, _, rfl, rfl, .inl ⟨3, Try.isAgg26, Try.sizeOf26, Nat.le_of_ble_eq_true rfl, rfl⟩⟩, _, _, rfl, ⟨rfl, 5, 0, _, _, rfl, rfl, .inl ⟨6, Try.isAgg35, Try.sizeOf35, Nat.le_of_ble_eq_true rfl, rfl⟩⟩, rfl⟩ (.tup (.cons (.agg (FrzL.tf rfl)) (.cons (.agg (FrzL.tf rfl)) .nil))) (fun t ht => by simp at ht; rcases ht with rfl | rfl <;> exact Option.some_ne_none _))
         | (rw [show doF x c = (x, (lastF x c.client).1.reply) by unfold doF; rw [if_neg hml, if_pos (by omega)]]; exact ret_gen (R := [4, 5]) ⟨_, _, rfl, ⟨rfl, 4, 0, _, _, rfl, rfl, .inl ⟨3, Try.isAgg26, Try.sizeOf26, Nat.le_of_ble_eq_true rfl, rfl⟩⟩, _, _, rfl, ⟨rfl, 5, 0, _, _, rfl, rfl, .inl ⟨6, Try.isAgg35, Try.sizeOf35, Nat.le_of_ble_eq_true rfl, rfl⟩⟩, rfl⟩ (.tup (.cons (.agg (FrzL.tf rfl)) (.cons (.agg (FrzL.tf rfl)) .nil))) (fun t ht => by simp at ht; rcases ht with rfl | rfl <;> exact Option.some_ne_none _))
         | (rw [show doF x c = (x, noR 9) by unfold doF; rw [if_neg hml, if_neg (by omega), if_pos (by omega)]]; exact ret_gen (R := [4, 5]) ⟨_, _, rfl, ⟨rfl, 4, 0, _, _, rfl, rfl, .inl ⟨3, Try.isAgg26, Try.sizeOf26, Nat.le_of_ble_eq_true rfl, rfl⟩⟩, _, _, rfl, ⟨rfl, 5, 0, _, _, rfl, rfl, .inl ⟨6, Try.isAgg35, Try.sizeOf35, Nat.le_of_ble_eq_true rfl, rfl⟩⟩, rfl⟩ (.tup (.cons (.agg (FrzL.tf rfl)) (.cons (.agg (FrzL.tf rfl)) .nil))) (fun t ht => by simp at ht; rcases ht with rfl | rfl <;> exact Option.some_ne_none _))
         | (rw [show doF x c = (⟨(doesF x c).1.vols, (doesF x c).1.names, setL (doesF x c).1.last (lastF (doesF x c).1 c.client).2 ⟨c.client, c.seq, (doesF x c).2⟩⟩, (doesF x c).2) by unfold doF; rw [if_neg hml, if_neg (by omega), if_neg (by omega), if_pos (by omega)]]; exact ret_gen (R := [4, 5]) ⟨_, _, rfl, ⟨rfl, 4, 0, _, _, rfl, rfl, .inl ⟨3, Try.isAgg26, Try.sizeOf26, Nat.le_of_ble_eq_true rfl, rfl⟩⟩, _, _, rfl, ⟨rfl, 5, 0, _, _, rfl, rfl, .inl ⟨6, Try.isAgg35, Try.sizeOf35, Nat.le_of_ble_eq_true rfl, rfl⟩⟩, rfl⟩ (.tup (.cons (.agg (FrzL.tf rfl)) (.cons (.agg (FrzL.tf rfl)) .nil))) (fun t ht => by simp at ht; rcases ht with rfl | rfl <;> exact Option.some_ne_none _))
         | (rw [show doF x c = (doesF x c) by unfold doF; rw [if_neg hml, if_neg (by omega), if_neg (by omega), if_neg (by omega)]]; exact ret_gen (R := [4, 5]) ⟨_, _, rfl, ⟨rfl, 4, 0, _, _, rfl, rfl, .inl ⟨3, Try.isAgg26, Try.sizeOf26, Nat.le_of_ble_eq_true rfl, rfl⟩⟩, _, _, rfl, ⟨rfl, 5, 0, _, _, rfl, rfl, .inl ⟨6, Try.isAgg35, Try.sizeOf35, Nat.le_of_ble_eq_true rfl, rfl⟩⟩, rfl⟩ (.tup (.cons (.agg (FrzL.tf rfl)) (.cons (.agg (FrzL.tf rfl)) .nil))) (fun t ht => by simp at ht; rcases ht with rfl | rfl <;> exact Option.some_ne_none _))
        ·refine ok_skip ?_
         refine ok_drw Try.mixed ?_
         first
          | refine d1 rfl rfl (lop_load_rf_agg (ys := [_, _, _]) rfl rfl Try.isAgg26 Try.sizeOf26 (Nat.le_of_ble_eq_true rfl) rfl) ?_
          | refine d1 rfl rfl (lop_load_fp_agg (ys := [_, _, _]) rfl Try.isAgg26 Try.sizeOf26 (Nat.le_of_ble_eq_true rfl) rfl) ?_
         first
          | refine d1 rfl rfl (lop_load_rf_agg (ys := [.int _ _, .int _ _, .int _ _, .int _ _, .int _ _, .bool _]) rfl rfl Try.isAgg35 Try.sizeOf35 (Nat.le_of_ble_eq_true rfl) rfl) ?_
          | refine d1 rfl rfl (lop_load_fp_agg (ys := [.int _ _, .int _ _, .int _ _, .int _ _, .int _ _, .bool _]) rfl Try.isAgg35 Try.sizeOf35 (Nat.le_of_ble_eq_true rfl) rfl) ?_
         first
          | refine d0w rfl rfl (lop_storeK (v := .agg [_, _, _]) (cs' := [_, _, _]) (f' := true) rfl rfl rfl Try.sizeOf26 rfl rfl rfl rfl rfl) ?_
          | refine d0w rfl rfl (lop_storeK (v := .agg [_, _, _]) (cs' := [_, _, _]) (f' := false) rfl rfl rfl Try.sizeOf26 rfl rfl rfl rfl rfl) ?_
         first
          | refine d0w rfl rfl (lop_storeK (v := .agg [.int _ _, .int _ _, .int _ _, .int _ _, .int _ _, .bool _]) (cs' := [.int _ _, .int _ _, .int _ _, .int _ _, .int _ _, .bool _]) (f' := true) rfl rfl rfl Try.sizeOf35 rfl rfl rfl rfl rfl) ?_
          | refine d0w rfl rfl (lop_storeK (v := .agg [.int _ _, .int _ _, .int _ _, .int _ _, .int _ _, .bool _]) (cs' := [.int _ _, .int _ _, .int _ _, .int _ _, .int _ _, .bool _]) (f' := false) rfl rfl rfl Try.sizeOf35 rfl rfl rfl rfl rfl) ?_
         refine dr_nil (by kernel_rfl) ?_
         refine ok_ret ?_
         first
         | (rw [show doF x c = (x, noR 1) by unfold doF; rw [if_pos (by simpa using h_t13)]]; exact ret_gen (R := [4, 5]) ⟨_, _, rfl, ⟨rfl, 4, 0, _, _, rfl, rfl, .inl ⟨3, Try.isAgg26, Try.sizeOf26, Nat.le_of_ble_eq_true rfl, rfl⟩⟩, _, _, rfl, ⟨rfl, 5, 0, _, _, rfl, rfl, .inl ⟨6, Try.isAgg35, Try.sizeOf35, Nat.le_of_ble_eq_true rfl, rfl⟩⟩, rfl⟩ (.tup (.cons (.agg (FrzL.tf rfl)) (.cons (.agg (FrzL.tf rfl)) .nil))) (fun t ht => by simp at ht; rcases ht with rfl | rfl <;> exact Option.some_ne_none _))
         | (rw [show doF x c = (x, (lastF x c.client).1.reply) by unfold doF; rw [if_neg hml, if_pos (by omega)]]; exact ret_gen (R := [4, 5]) ⟨_, _, rfl, ⟨rfl, 4, 0, _, _, rfl, rfl, .inl ⟨3, Try.isAgg26, Try.sizeOf26, Nat.le_of_ble_eq_true rfl, rfl⟩⟩, _, _, rfl, ⟨rfl, 5, 0, _, _, rfl, rfl, .inl ⟨6, Try.isAgg35, Try.sizeOf35, Nat.le_of_ble_eq_true rfl, rfl⟩⟩, rfl⟩ (.tup (.cons (.agg (FrzL.tf rfl)) (.cons (.agg (FrzL.tf rfl)) .nil))) (fun t ht => by simp at ht; rcases ht with rfl | rfl <;> exact Option.some_ne_none _))
         | (rw [show doF x c = (x, noR 9) by unfold doF; rw [if_neg hml, if_neg (by omega), if_pos (by omega)]]; exact ret_gen (R := [4, 5]) ⟨_, _, rfl, ⟨rfl, 4, 0, _, _, rfl, rfl, .inl ⟨3, Try.isAgg26, Try.sizeOf26, Nat.le_of_ble_eq_true rfl, rfl⟩⟩, _, _, rfl, ⟨rfl, 5, 0, _, _, rfl, rfl, .inl ⟨6, Try.isAgg35, Try.sizeOf35, Nat.le_of_ble_eq_true rfl, rfl⟩⟩, rfl⟩ (.tup (.cons (.agg (FrzL.tf rfl)) (.cons (.agg (FrzL.tf rfl)) .nil))) (fun t ht => by simp at ht; rcases ht with rfl | rfl <;> exact Option.some_ne_none _))
         | (rw [show doF x c = (⟨(doesF x c).1.vols, (doesF x c).1.names, setL (doesF x c).1.last (lastF (doesF x c).1 c.client).2 ⟨c.client, c.seq, (doesF x c).2⟩⟩, (doesF x c).2) by unfold doF; rw [if_neg hml, if_neg (by omega), if_neg (by omega), if_pos (by omega)]]; exact ret_gen (R := [4, 5]) ⟨_, _, rfl, ⟨rfl, 4, 0, _, _, rfl, rfl, .inl ⟨3, Try.isAgg26, Try.sizeOf26, Nat.le_of_ble_eq_true rfl, rfl⟩⟩, _, _, rfl, ⟨rfl, 5, 0, _, _, rfl, rfl, .inl ⟨6, Try.isAgg35, Try.sizeOf35, Nat.le_of_ble_eq_true rfl, rfl⟩⟩, rfl⟩ (.tup (.cons (.agg (FrzL.tf rfl)) (.cons (.agg (FrzL.tf rfl)) .nil))) (fun t ht => by simp at ht; rcases ht with rfl | rfl <;> exact Option.some_ne_none _))
         | (rw [show doF x c = (doesF x c) by unfold doF; rw [if_neg hml, if_neg (by omega), if_neg (by omega), if_neg (by omega)]]; exact ret_gen (R := [4, 5]) ⟨_, _, rfl, ⟨rfl, 4, 0, _, _, rfl, rfl, .inl ⟨3, Try.isAgg26, Try.sizeOf26, Nat.le_of_ble_eq_true rfl, rfl⟩⟩, _, _, rfl, ⟨rfl, 5, 0, _, _, rfl, rfl, .inl ⟨6, Try.isAgg35, Try.sizeOf35, Nat.le_of_ble_eq_true rfl, rfl⟩⟩, rfl⟩ (.tup (.cons (.agg (FrzL.tf rfl)) (.cons (.agg (FrzL.tf rfl)) .nil))) (fun t ht => by simp at ht; rcases ht with rfl | rfl <;> exact Option.some_ne_none _))
      ·refine n1 rfl rfl g6_6 ?_
       refine n1 rfl rfl g6_6 ?_
       refine n1 rfl rfl g6_6 ?_
       refine n1 rfl rfl g6_6 ?_
       refine n1 rfl rfl g6_6 ?_
       first
        | refine s1 rfl (lop_pick_t (v := .bool _) rfl g6_3 rfl) ?_
        | refine s1 rfl (lop_pick_f (v := .bool _) rfl g6_6 rfl) ?_
        | refine s1 rfl (lop_pick_t (v := .bool _) rfl rfl rfl) ?_
        | refine s1 rfl (lop_pick_f (v := .bool _) rfl rfl rfl) ?_
        | refine s1 rfl (lop_pick rfl rfl rfl) ?_
       refine s1 rfl (lop_assign (v := .bool _) rfl) ?_
       refine ops_nil ?_
       refine ok_false rfl rfl ?_
       refine ok_skip ?_
       refine ok_reg ?_
       first
        | refine s1 rfl (lop_load_rf_agg (ys := [_, _, _]) rfl rfl Try.isAgg26 Try.sizeOf26 (Nat.le_of_ble_eq_true rfl) rfl) ?_
        | refine s1 rfl (lop_load_fp_agg (ys := [_, _, _]) rfl Try.isAgg26 Try.sizeOf26 (Nat.le_of_ble_eq_true rfl) rfl) ?_
       first
        | refine s1 rfl (lop_load_rf_agg (ys := [.int _ _, .int _ _, .int _ _, .str _, .int _ _, .int _ _, .int _ _, .int _ _, .int _ _, .int _ _, .int _ _, _]) rfl rfl Try.isAgg30 Try.sizeOf30 (Nat.le_of_ble_eq_true rfl) rfl) ?_
        | refine s1 rfl (lop_load_fp_agg (ys := [.int _ _, .int _ _, .int _ _, .str _, .int _ _, .int _ _, .int _ _, .int _ _, .int _ _, .int _ _, .int _ _, _]) rfl Try.isAgg30 Try.sizeOf30 (Nat.le_of_ble_eq_true rfl) rfl) ?_
       refine s1 rfl (lop_call rfl Try.call24 (FrzL.tf rfl) (.inl rfl) (does_ac hx hm)) ?_
       refine s1 rfl (lop_move (v := .tup _) rfl) ?_
       refine s1 rfl (lop_extract rfl rfl) ?_
       refine s1 rfl (lop_extract rfl rfl) ?_
       refine s1w rfl (lop_new (t := 8) (cs := [.int _ _, .int _ _, .int _ _, .int _ _, .int _ _, .bool _]) Try.zeroValue35 rfl rfl rfl rfl) rfl ?_
       first
        | refine s0w rfl (lop_storeK (v := .agg [_, _, _]) (cs' := [_, _, _]) (f' := true) rfl rfl rfl Try.sizeOf26 rfl rfl rfl rfl rfl) ?_
        | refine s0w rfl (lop_storeK (v := .agg [_, _, _]) (cs' := [_, _, _]) (f' := false) rfl rfl rfl Try.sizeOf26 rfl rfl rfl rfl rfl) ?_
       first
        | refine s0w rfl (lop_storeK (v := .agg [.int _ _, .int _ _, .int _ _, .int _ _, .int _ _, .bool _]) (cs' := [.int _ _, .int _ _, .int _ _, .int _ _, .int _ _, .bool _]) (f' := true) rfl rfl rfl Try.sizeOf35 rfl rfl rfl rfl rfl) ?_
        | refine s0w rfl (lop_storeK (v := .agg [.int _ _, .int _ _, .int _ _, .int _ _, .int _ _, .bool _]) (cs' := [.int _ _, .int _ _, .int _ _, .int _ _, .int _ _, .bool _]) (f' := false) rfl rfl rfl Try.sizeOf35 rfl rfl rfl rfl rfl) ?_
       refine ops_nil ?_
       refine ok_seq ?_
       refine ok_reg ?_
       first
        | refine s1 rfl (lop_fieldAddr_rf (fo := 1) rfl Try.underlying30 rfl rfl Try.sizeOf3 (by decide)) ?_
        | refine s1 rfl (lop_fieldAddr_fp (fo := 1) rfl Try.underlying30 rfl rfl Try.sizeOf3 (by decide) rfl) ?_
       first
        | refine s1 rfl (lop_load_rf rfl rfl Try.isAgg3 rfl) ?_
        | refine s1 rfl (lop_load_fp rfl Try.isAgg3 rfl) ?_
       refine s1 rfl (lop_gtr rfl rfl) ?_
       refine ops_nil ?_
       first
        | refine ok_if _ rfl rfl (fun h_t64 => ?_) (fun h_t64 => ?_)
        | refine ok_cond rfl rfl (fun h_t64 => ?_) (fun h_t64 => ?_)
       ·refine ok_reg ?_
        first
         | refine s1 rfl (lop_fieldAddr_rf (fo := 2) rfl Try.underlying26 rfl rfl Try.sizeOf24 (by decide)) ?_
         | refine s1 rfl (lop_fieldAddr_fp (fo := 2) rfl Try.underlying26 rfl rfl Try.sizeOf24 (by decide) rfl) ?_
        first
         | refine s1 rfl (lop_load_rf rfl rfl Try.isAgg24 rfl) ?_
         | refine s1 rfl (lop_load_fp rfl Try.isAgg24 rfl) ?_
        first
         | refine s1 rfl (lop_func (vs := [.rf _ _]) rfl) ?_
         | refine s1 rfl (lop_func (vs := [.fp _]) rfl) ?_
        refine ops_le (T := ⟨[(2, .rf 2 0), (3, .fp c.enc), (4, .rf 4 0), (5, .rf 5 0), (8, .rf 8 0), (67, rowOf SessD.enc (doesF x c).1.last), (68, .fn 26 [.fp c.enc])], [(2, some (true, (doesF x c).1.enc)), (4, some (true, [.z0, .z0, .z0])), (5, some (true, ReplyD.zero.enc)), (8, some (true, (doesF x c).2.enc))], 85⟩) (le_frz [3] ⟨.inl ⟨rfl, rfl⟩, .inr (fz_sound _ [3] _ rfl), .inl ⟨rfl, rfl⟩, .inl ⟨rfl, rfl⟩, .inl ⟨rfl, rfl⟩, .inl ⟨rfl, rfl⟩, .inr (fz_sound _ [3] _ rfl), trivial⟩ ⟨.inr ⟨rfl, rfl, trivial⟩, .inr ⟨rfl, rfl, trivial⟩, .inr ⟨rfl, rfl, trivial⟩, .inr ⟨rfl, rfl, trivial⟩, trivial⟩ (fun t ht => by simp at ht; subst ht; exact Option.some_ne_none _) rfl) ?_
        refine s1 rfl (lop_call rfl Try.call25 (FrzL.tf rfl) (.inl rfl) (find_Sess_ac (p := fun s => decide (s.client = c.client)) (l := (doesF x c).1.last) (by omega) Try.call26 rfl (fun y _ => do1_ac y c))) ?_
        refine s1 rfl (lop_move (v := .tup _) rfl) ?_
        refine s1 rfl (lop_extract rfl rfl) ?_
        refine s1 rfl (lop_extract rfl rfl) ?_
        refine s1w rfl (lop_new (t := 9) (cs := [.int _ _, .int _ _, .int _ _, .int _ _, .int _ _, .int _ _, .int _ _, .bool _]) Try.zeroValue39 rfl rfl rfl rfl) rfl ?_
        first
         | refine s0w rfl (lop_storeK (v := .agg [.int _ _, .int _ _, .int _ _, .int _ _, .int _ _, .int _ _, .int _ _, .bool _]) (cs' := [.int _ _, .int _ _, .int _ _, .int _ _, .int _ _, .int _ _, .int _ _, .bool _]) (f' := true) rfl rfl rfl Try.sizeOf39 rfl rfl rfl rfl rfl) ?_
         | refine s0w rfl (lop_storeK (v := .agg [.int _ _, .int _ _, .int _ _, .int _ _, .int _ _, .int _ _, .int _ _, .bool _]) (cs' := [.int _ _, .int _ _, .int _ _, .int _ _, .int _ _, .int _ _, .int _ _, .bool _]) (f' := false) rfl rfl rfl Try.sizeOf39 rfl rfl rfl rfl rfl) ?_
        refine s1 rfl (lop_assign (v := .int _ _) rfl) ?_
        refine ops_nil ?_
        refine ok_region ?_
        first
         | refine s1 rfl (lop_fieldAddr_rf (fo := 2) rfl Try.underlying26 rfl rfl Try.sizeOf24 (by decide)) ?_
         | refine s1 rfl (lop_fieldAddr_fp (fo := 2) rfl Try.underlying26 rfl rfl Try.sizeOf24 (by decide) rfl) ?_
        first
         | refine s1 rfl (lop_load_rf rfl rfl Try.isAgg24 rfl) ?_
         | refine s1 rfl (lop_load_fp rfl Try.isAgg24 rfl) ?_
        refine s1 rfl (lop_move (v := .int _ _) rfl) ?_
        first
         | refine s1 rfl (lop_fieldAddr_rf (fo := 1) rfl Try.underlying30 rfl rfl Try.sizeOf3 (by decide)) ?_
         | refine s1 rfl (lop_fieldAddr_fp (fo := 1) rfl Try.underlying30 rfl rfl Try.sizeOf3 (by decide) rfl) ?_
        first
         | refine s1 rfl (lop_load_rf rfl rfl Try.isAgg3 rfl) ?_
         | refine s1 rfl (lop_load_fp rfl Try.isAgg3 rfl) ?_
        first
         | refine s1 rfl (lop_fieldAddr_rf (fo := 2) rfl Try.underlying30 rfl rfl Try.sizeOf3 (by decide)) ?_
         | refine s1 rfl (lop_fieldAddr_fp (fo := 2) rfl Try.underlying30 rfl rfl Try.sizeOf3 (by decide) rfl) ?_
        first
         | refine s1 rfl (lop_load_rf rfl rfl Try.isAgg3 rfl) ?_
         | refine s1 rfl (lop_load_fp rfl Try.isAgg3 rfl) ?_
        first
         | refine s1 rfl (lop_load_rf_agg (ys := [.int _ _, .int _ _, .int _ _, .int _ _, .int _ _, .bool _]) rfl rfl Try.isAgg35 Try.sizeOf35 (Nat.le_of_ble_eq_true rfl) rfl) ?_
         | refine s1 rfl (lop_load_fp_agg (ys := [.int _ _, .int _ _, .int _ _, .int _ _, .int _ _, .bool _]) rfl Try.isAgg35 Try.sizeOf35 (Nat.le_of_ble_eq_true rfl) rfl) ?_
        refine s1 rfl (lop_buildK (cs := [.int _ _, .int _ _, .int _ _, .int _ _, .int _ _, .int _ _, .int _ _, .bool _]) Try.underlying39 Try.zeroValue39 rfl rfl places39 rfl) ?_
        refine s1 rfl (lop_call rfl Try.call27 (FrzL.tf rfl) (.inl rfl) (set_Sess_ac (l := (doesF x c).1.last) (by omega) (i := (lastF (doesF x c).1 c.client).2) (lastF_lt _ _) ⟨c.client, c.seq, (doesF x c).2⟩)) ?_
        first
         | refine s1 rfl (lop_fieldAddr_rf (fo := 2) rfl Try.underlying26 rfl rfl Try.sizeOf24 (by decide)) ?_
         | refine s1 rfl (lop_fieldAddr_fp (fo := 2) rfl Try.underlying26 rfl rfl Try.sizeOf24 (by decide) rfl) ?_
        first
         | refine s0w rfl (lop_storeK (v := .sl _ _) (cs' := [_, _, _]) (f' := true) rfl rfl rfl Try.sizeOf24 rfl rfl rfl rfl rfl) ?_
         | refine s0w rfl (lop_storeK (v := .os _ _ _ _) (cs' := [_, _, _]) (f' := true) rfl rfl rfl Try.sizeOf24 rfl rfl rfl rfl rfl) ?_
         | refine s0w rfl (lop_storeK (v := .z0) (cs' := [_, _, _]) (f' := true) rfl rfl rfl Try.sizeOf24 rfl rfl rfl rfl rfl) ?_
         | refine s0w rfl (lop_storeK (v := .sl _ _) (cs' := [_, _, _]) (f' := false) rfl rfl rfl Try.sizeOf24 rfl rfl rfl rfl rfl) ?_
         | refine s0w rfl (lop_storeK (v := .os _ _ _ _) (cs' := [_, _, _]) (f' := false) rfl rfl rfl Try.sizeOf24 rfl rfl rfl rfl rfl) ?_
         | refine s0w rfl (lop_storeK (v := .z0) (cs' := [_, _, _]) (f' := false) rfl rfl rfl Try.sizeOf24 rfl rfl rfl rfl rfl) ?_
        refine ops_nil ?_
        refine ok_drw Try.mixed ?_
        first
         | refine d1 rfl rfl (lop_load_rf_agg (ys := [_, _, _]) rfl rfl Try.isAgg26 Try.sizeOf26 (Nat.le_of_ble_eq_true rfl) rfl) ?_
         | refine d1 rfl rfl (lop_load_fp_agg (ys := [_, _, _]) rfl Try.isAgg26 Try.sizeOf26 (Nat.le_of_ble_eq_true rfl) rfl) ?_
        first
         | refine d1 rfl rfl (lop_load_rf_agg (ys := [.int _ _, .int _ _, .int _ _, .int _ _, .int _ _, .bool _]) rfl rfl Try.isAgg35 Try.sizeOf35 (Nat.le_of_ble_eq_true rfl) rfl) ?_
         | refine d1 rfl rfl (lop_load_fp_agg (ys := [.int _ _, .int _ _, .int _ _, .int _ _, .int _ _, .bool _]) rfl Try.isAgg35 Try.sizeOf35 (Nat.le_of_ble_eq_true rfl) rfl) ?_
        first
         | refine d0w rfl rfl (lop_storeK (v := .agg [_, _, _]) (cs' := [_, _, _]) (f' := true) rfl rfl rfl Try.sizeOf26 rfl rfl rfl rfl rfl) ?_
         | refine d0w rfl rfl (lop_storeK (v := .agg [_, _, _]) (cs' := [_, _, _]) (f' := false) rfl rfl rfl Try.sizeOf26 rfl rfl rfl rfl rfl) ?_
        first
         | refine d0w rfl rfl (lop_storeK (v := .agg [.int _ _, .int _ _, .int _ _, .int _ _, .int _ _, .bool _]) (cs' := [.int _ _, .int _ _, .int _ _, .int _ _, .int _ _, .bool _]) (f' := true) rfl rfl rfl Try.sizeOf35 rfl rfl rfl rfl rfl) ?_
         | refine d0w rfl rfl (lop_storeK (v := .agg [.int _ _, .int _ _, .int _ _, .int _ _, .int _ _, .bool _]) (cs' := [.int _ _, .int _ _, .int _ _, .int _ _, .int _ _, .bool _]) (f' := false) rfl rfl rfl Try.sizeOf35 rfl rfl rfl rfl rfl) ?_
        refine dr_nil (by kernel_rfl) ?_
        refine ok_ret ?_
        first
        | (rw [show doF x c = (x, noR 1) by unfold doF; rw [if_pos (by simpa using h_t13)]]; exact ret_gen (R := [4, 5]) ⟨_, _, rfl, ⟨rfl, 4, 0, _, _, rfl, rfl, .inl ⟨3, Try.isAgg26, Try.sizeOf26, Nat.le_of_ble_eq_true rfl, rfl⟩⟩, _, _, rfl, ⟨rfl, 5, 0, _, _, rfl, rfl, .inl ⟨6, Try.isAgg35, Try.sizeOf35, Nat.le_of_ble_eq_true rfl, rfl⟩⟩, rfl⟩ (.tup (.cons (.agg (FrzL.tf rfl)) (.cons (.agg (FrzL.tf rfl)) .nil))) (fun t ht => by simp at ht; rcases ht with rfl | rfl <;> exact Option.some_ne_none _))
        | (rw [show doF x c = (x, (lastF x c.client).1.reply) by unfold doF; rw [if_neg hml, if_pos (by omega)]]; exact ret_gen (R := [4, 5]) ⟨_, _, rfl, ⟨rfl, 4, 0, _, _, rfl, rfl, .inl ⟨3, Try.isAgg26, Try.sizeOf26, Nat.le_of_ble_eq_true rfl, rfl⟩⟩, _, _, rfl, ⟨rfl, 5, 0, _, _, rfl, rfl, .inl ⟨6, Try.isAgg35, Try.sizeOf35, Nat.le_of_ble_eq_true rfl, rfl⟩⟩, rfl⟩ (.tup (.cons (.agg (FrzL.tf rfl)) (.cons (.agg (FrzL.tf rfl)) .nil))) (fun t ht => by simp at ht; rcases ht with rfl | rfl <;> exact Option.some_ne_none _))
        | (rw [show doF x c = (x, noR 9) by unfold doF; rw [if_neg hml, if_neg (by omega), if_pos (by omega)]]; exact ret_gen (R := [4, 5]) ⟨_, _, rfl, ⟨rfl, 4, 0, _, _, rfl, rfl, .inl ⟨3, Try.isAgg26, Try.sizeOf26, Nat.le_of_ble_eq_true rfl, rfl⟩⟩, _, _, rfl, ⟨rfl, 5, 0, _, _, rfl, rfl, .inl ⟨6, Try.isAgg35, Try.sizeOf35, Nat.le_of_ble_eq_true rfl, rfl⟩⟩, rfl⟩ (.tup (.cons (.agg (FrzL.tf rfl)) (.cons (.agg (FrzL.tf rfl)) .nil))) (fun t ht => by simp at ht; rcases ht with rfl | rfl <;> exact Option.some_ne_none _))
        | (rw [show doF x c = (⟨(doesF x c).1.vols, (doesF x c).1.names, setL (doesF x c).1.last (lastF (doesF x c).1 c.client).2 ⟨c.client, c.seq, (doesF x c).2⟩⟩, (doesF x c).2) by unfold doF; rw [if_neg hml, if_neg (by omega), if_neg (by omega), if_pos (by omega)]]; exact ret_gen (R := [4, 5]) ⟨_, _, rfl, ⟨rfl, 4, 0, _, _, rfl, rfl, .inl ⟨3, Try.isAgg26, Try.sizeOf26, Nat.le_of_ble_eq_true rfl, rfl⟩⟩, _, _, rfl, ⟨rfl, 5, 0, _, _, rfl, rfl, .inl ⟨6, Try.isAgg35, Try.sizeOf35, Nat.le_of_ble_eq_true rfl, rfl⟩⟩, rfl⟩ (.tup (.cons (.agg (FrzL.tf rfl)) (.cons (.agg (FrzL.tf rfl)) .nil))) (fun t ht => by simp at ht; rcases ht with rfl | rfl <;> exact Option.some_ne_none _))
        | (rw [show doF x c = (doesF x c) by unfold doF; rw [if_neg hml, if_neg (by omega), if_neg (by omega), if_neg (by omega)]]; exact ret_gen (R := [4, 5]) ⟨_, _, rfl, ⟨rfl, 4, 0, _, _, rfl, rfl, .inl ⟨3, Try.isAgg26, Try.sizeOf26, Nat.le_of_ble_eq_true rfl, rfl⟩⟩, _, _, rfl, ⟨rfl, 5, 0, _, _, rfl, rfl, .inl ⟨6, Try.isAgg35, Try.sizeOf35, Nat.le_of_ble_eq_true rfl, rfl⟩⟩, rfl⟩ (.tup (.cons (.agg (FrzL.tf rfl)) (.cons (.agg (FrzL.tf rfl)) .nil))) (fun t ht => by simp at ht; rcases ht with rfl | rfl <;> exact Option.some_ne_none _))
       ·refine ok_skip ?_
        refine ok_drw Try.mixed ?_
        first
         | refine d1 rfl rfl (lop_load_rf_agg (ys := [_, _, _]) rfl rfl Try.isAgg26 Try.sizeOf26 (Nat.le_of_ble_eq_true rfl) rfl) ?_
         | refine d1 rfl rfl (lop_load_fp_agg (ys := [_, _, _]) rfl Try.isAgg26 Try.sizeOf26 (Nat.le_of_ble_eq_true rfl) rfl) ?_
        first
         | refine d1 rfl rfl (lop_load_rf_agg (ys := [.int _ _, .int _ _, .int _ _, .int _ _, .int _ _, .bool _]) rfl rfl Try.isAgg35 Try.sizeOf35 (Nat.le_of_ble_eq_true rfl) rfl) ?_
         | refine d1 rfl rfl (lop_load_fp_agg (ys := [.int _ _, .int _ _, .int _ _, .int _ _, .int _ _, .bool _]) rfl Try.isAgg35 Try.sizeOf35 (Nat.le_of_ble_eq_true rfl) rfl) ?_
        first
         | refine d0w rfl rfl (lop_storeK (v := .agg [_, _, _]) (cs' := [_, _, _]) (f' := true) rfl rfl rfl Try.sizeOf26 rfl rfl rfl rfl rfl) ?_
         | refine d0w rfl rfl (lop_storeK (v := .agg [_, _, _]) (cs' := [_, _, _]) (f' := false) rfl rfl rfl Try.sizeOf26 rfl rfl rfl rfl rfl) ?_
        first
         | refine d0w rfl rfl (lop_storeK (v := .agg [.int _ _, .int _ _, .int _ _, .int _ _, .int _ _, .bool _]) (cs' := [.int _ _, .int _ _, .int _ _, .int _ _, .int _ _, .bool _]) (f' := true) rfl rfl rfl Try.sizeOf35 rfl rfl rfl rfl rfl) ?_
         | refine d0w rfl rfl (lop_storeK (v := .agg [.int _ _, .int _ _, .int _ _, .int _ _, .int _ _, .bool _]) (cs' := [.int _ _, .int _ _, .int _ _, .int _ _, .int _ _, .bool _]) (f' := false) rfl rfl rfl Try.sizeOf35 rfl rfl rfl rfl rfl) ?_
        refine dr_nil (by kernel_rfl) ?_
        refine ok_ret ?_
        first
        | (rw [show doF x c = (x, noR 1) by unfold doF; rw [if_pos (by simpa using h_t13)]]; exact ret_gen (R := [4, 5]) ⟨_, _, rfl, ⟨rfl, 4, 0, _, _, rfl, rfl, .inl ⟨3, Try.isAgg26, Try.sizeOf26, Nat.le_of_ble_eq_true rfl, rfl⟩⟩, _, _, rfl, ⟨rfl, 5, 0, _, _, rfl, rfl, .inl ⟨6, Try.isAgg35, Try.sizeOf35, Nat.le_of_ble_eq_true rfl, rfl⟩⟩, rfl⟩ (.tup (.cons (.agg (FrzL.tf rfl)) (.cons (.agg (FrzL.tf rfl)) .nil))) (fun t ht => by simp at ht; rcases ht with rfl | rfl <;> exact Option.some_ne_none _))
        | (rw [show doF x c = (x, (lastF x c.client).1.reply) by unfold doF; rw [if_neg hml, if_pos (by omega)]]; exact ret_gen (R := [4, 5]) ⟨_, _, rfl, ⟨rfl, 4, 0, _, _, rfl, rfl, .inl ⟨3, Try.isAgg26, Try.sizeOf26, Nat.le_of_ble_eq_true rfl, rfl⟩⟩, _, _, rfl, ⟨rfl, 5, 0, _, _, rfl, rfl, .inl ⟨6, Try.isAgg35, Try.sizeOf35, Nat.le_of_ble_eq_true rfl, rfl⟩⟩, rfl⟩ (.tup (.cons (.agg (FrzL.tf rfl)) (.cons (.agg (FrzL.tf rfl)) .nil))) (fun t ht => by simp at ht; rcases ht with rfl | rfl <;> exact Option.some_ne_none _))
        | (rw [show doF x c = (x, noR 9) by unfold doF; rw [if_neg hml, if_neg (by omega), if_pos (by omega)]]; exact ret_gen (R := [4, 5]) ⟨_, _, rfl, ⟨rfl, 4, 0, _, _, rfl, rfl, .inl ⟨3, Try.isAgg26, Try.sizeOf26, Nat.le_of_ble_eq_true rfl, rfl⟩⟩, _, _, rfl, ⟨rfl, 5, 0, _, _, rfl, rfl, .inl ⟨6, Try.isAgg35, Try.sizeOf35, Nat.le_of_ble_eq_true rfl, rfl⟩⟩, rfl⟩ (.tup (.cons (.agg (FrzL.tf rfl)) (.cons (.agg (FrzL.tf rfl)) .nil))) (fun t ht => by simp at ht; rcases ht with rfl | rfl <;> exact Option.some_ne_none _))
        | (rw [show doF x c = (⟨(doesF x c).1.vols, (doesF x c).1.names, setL (doesF x c).1.last (lastF (doesF x c).1 c.client).2 ⟨c.client, c.seq, (doesF x c).2⟩⟩, (doesF x c).2) by unfold doF; rw [if_neg hml, if_neg (by omega), if_neg (by omega), if_pos (by omega)]]; exact ret_gen (R := [4, 5]) ⟨_, _, rfl, ⟨rfl, 4, 0, _, _, rfl, rfl, .inl ⟨3, Try.isAgg26, Try.sizeOf26, Nat.le_of_ble_eq_true rfl, rfl⟩⟩, _, _, rfl, ⟨rfl, 5, 0, _, _, rfl, rfl, .inl ⟨6, Try.isAgg35, Try.sizeOf35, Nat.le_of_ble_eq_true rfl, rfl⟩⟩, rfl⟩ (.tup (.cons (.agg (FrzL.tf rfl)) (.cons (.agg (FrzL.tf rfl)) .nil))) (fun t ht => by simp at ht; rcases ht with rfl | rfl <;> exact Option.some_ne_none _))
        | (rw [show doF x c = (doesF x c) by unfold doF; rw [if_neg hml, if_neg (by omega), if_neg (by omega), if_neg (by omega)]]; exact ret_gen (R := [4, 5]) ⟨_, _, rfl, ⟨rfl, 4, 0, _, _, rfl, rfl, .inl ⟨3, Try.isAgg26, Try.sizeOf26, Nat.le_of_ble_eq_true rfl, rfl⟩⟩, _, _, rfl, ⟨rfl, 5, 0, _, _, rfl, rfl, .inl ⟨6, Try.isAgg35, Try.sizeOf35, Nat.le_of_ble_eq_true rfl, rfl⟩⟩, rfl⟩ (.tup (.cons (.agg (FrzL.tf rfl)) (.cons (.agg (FrzL.tf rfl)) .nil))) (fun t ht => by simp at ht; rcases ht with rfl | rfl <;> exact Option.some_ne_none _))
     ·refine n1 rfl rfl g6_3 ?_
      first
       | refine s1 rfl (lop_pick_f (v := .bool _) rfl g6_3 rfl) ?_
       | refine s1 rfl (lop_pick_t (v := .bool _) rfl rfl rfl) ?_
       | refine s1 rfl (lop_pick_f (v := .bool _) rfl rfl rfl) ?_
       | refine s1 rfl (lop_pick rfl rfl rfl) ?_
      refine s1 rfl (lop_move (v := .bool _) rfl) ?_
      refine n1 rfl rfl rfl ?_
      refine n1 rfl rfl rfl ?_
      refine n1 rfl rfl rfl ?_
      refine n1 rfl rfl rfl ?_
      refine n1 rfl rfl rfl ?_
      first
       | refine s1 rfl (lop_pick_f (v := .bool _) rfl g6_3 rfl) ?_
       | refine s1 rfl (lop_pick_f (v := .bool _) rfl rfl rfl) ?_
       | refine s1 rfl (lop_pick_t (v := .bool _) rfl rfl rfl) ?_
       | refine s1 rfl (lop_pick_f (v := .bool _) rfl rfl rfl) ?_
       | refine s1 rfl (lop_pick rfl rfl rfl) ?_
      refine s1 rfl (lop_assign (v := .bool _) rfl) ?_
      refine ops_nil ?_
      refine ok_false rfl rfl ?_
      refine ok_skip ?_
      refine ok_reg ?_
      first
       | refine s1 rfl (lop_load_rf_agg (ys := [_, _, _]) rfl rfl Try.isAgg26 Try.sizeOf26 (Nat.le_of_ble_eq_true rfl) rfl) ?_
       | refine s1 rfl (lop_load_fp_agg (ys := [_, _, _]) rfl Try.isAgg26 Try.sizeOf26 (Nat.le_of_ble_eq_true rfl) rfl) ?_
      first
       | refine s1 rfl (lop_load_rf_agg (ys := [.int _ _, .int _ _, .int _ _, .str _, .int _ _, .int _ _, .int _ _, .int _ _, .int _ _, .int _ _, .int _ _, _]) rfl rfl Try.isAgg30 Try.sizeOf30 (Nat.le_of_ble_eq_true rfl) rfl) ?_
       | refine s1 rfl (lop_load_fp_agg (ys := [.int _ _, .int _ _, .int _ _, .str _, .int _ _, .int _ _, .int _ _, .int _ _, .int _ _, .int _ _, .int _ _, _]) rfl Try.isAgg30 Try.sizeOf30 (Nat.le_of_ble_eq_true rfl) rfl) ?_
      refine s1 rfl (lop_call rfl Try.call24 (FrzL.tf rfl) (.inl rfl) (does_ac hx hm)) ?_
      refine s1 rfl (lop_move (v := .tup _) rfl) ?_
      refine s1 rfl (lop_extract rfl rfl) ?_
      refine s1 rfl (lop_extract rfl rfl) ?_
      refine s1w rfl (lop_new (t := 8) (cs := [.int _ _, .int _ _, .int _ _, .int _ _, .int _ _, .bool _]) Try.zeroValue35 rfl rfl rfl rfl) rfl ?_
      first
       | refine s0w rfl (lop_storeK (v := .agg [_, _, _]) (cs' := [_, _, _]) (f' := true) rfl rfl rfl Try.sizeOf26 rfl rfl rfl rfl rfl) ?_
       | refine s0w rfl (lop_storeK (v := .agg [_, _, _]) (cs' := [_, _, _]) (f' := false) rfl rfl rfl Try.sizeOf26 rfl rfl rfl rfl rfl) ?_
      first
       | refine s0w rfl (lop_storeK (v := .agg [.int _ _, .int _ _, .int _ _, .int _ _, .int _ _, .bool _]) (cs' := [.int _ _, .int _ _, .int _ _, .int _ _, .int _ _, .bool _]) (f' := true) rfl rfl rfl Try.sizeOf35 rfl rfl rfl rfl rfl) ?_
       | refine s0w rfl (lop_storeK (v := .agg [.int _ _, .int _ _, .int _ _, .int _ _, .int _ _, .bool _]) (cs' := [.int _ _, .int _ _, .int _ _, .int _ _, .int _ _, .bool _]) (f' := false) rfl rfl rfl Try.sizeOf35 rfl rfl rfl rfl rfl) ?_
      refine ops_nil ?_
      refine ok_seq ?_
      refine ok_reg ?_
      first
       | refine s1 rfl (lop_fieldAddr_rf (fo := 1) rfl Try.underlying30 rfl rfl Try.sizeOf3 (by decide)) ?_
       | refine s1 rfl (lop_fieldAddr_fp (fo := 1) rfl Try.underlying30 rfl rfl Try.sizeOf3 (by decide) rfl) ?_
      first
       | refine s1 rfl (lop_load_rf rfl rfl Try.isAgg3 rfl) ?_
       | refine s1 rfl (lop_load_fp rfl Try.isAgg3 rfl) ?_
      refine s1 rfl (lop_gtr rfl rfl) ?_
      refine ops_nil ?_
      first
       | refine ok_if _ rfl rfl (fun h_t64 => ?_) (fun h_t64 => ?_)
       | refine ok_cond rfl rfl (fun h_t64 => ?_) (fun h_t64 => ?_)
      ·refine ok_reg ?_
       first
        | refine s1 rfl (lop_fieldAddr_rf (fo := 2) rfl Try.underlying26 rfl rfl Try.sizeOf24 (by decide)) ?_
        | refine s1 rfl (lop_fieldAddr_fp (fo := 2) rfl Try.underlying26 rfl rfl Try.sizeOf24 (by decide) rfl) ?_
       first
        | refine s1 rfl (lop_load_rf rfl rfl Try.isAgg24 rfl) ?_
        | refine s1 rfl (lop_load_fp rfl Try.isAgg24 rfl) ?_
       first
        | refine s1 rfl (lop_func (vs := [.rf _ _]) rfl) ?_
        | refine s1 rfl (lop_func (vs := [.fp _]) rfl) ?_
       refine ops_le (T := ⟨[(2, .rf 2 0), (3, .fp c.enc), (4, .rf 4 0), (5, .rf 5 0), (8, .rf 8 0), (67, rowOf SessD.enc (doesF x c).1.last), (68, .fn 26 [.fp c.enc])], [(2, some (true, (doesF x c).1.enc)), (4, some (true, [.z0, .z0, .z0])), (5, some (true, ReplyD.zero.enc)), (8, some (true, (doesF x c).2.enc))], 85⟩) (le_frz [3] ⟨.inl ⟨rfl, rfl⟩, .inr (fz_sound _ [3] _ rfl), .inl ⟨rfl, rfl⟩, .inl ⟨rfl, rfl⟩, .inl ⟨rfl, rfl⟩, .inl ⟨rfl, rfl⟩, .inr (fz_sound _ [3] _ rfl), trivial⟩ ⟨.inr ⟨rfl, rfl, trivial⟩, .inr ⟨rfl, rfl, trivial⟩, .inr ⟨rfl, rfl, trivial⟩, .inr ⟨rfl, rfl, trivial⟩, trivial⟩ (fun t ht => by simp at ht; subst ht; exact Option.some_ne_none _) rfl) ?_
       refine s1 rfl (lop_call rfl Try.call25 (FrzL.tf rfl) (.inl rfl) (find_Sess_ac (p := fun s => decide (s.client = c.client)) (l := (doesF x c).1.last) (by omega) Try.call26 rfl (fun y _ => do1_ac y c))) ?_
       refine s1 rfl (lop_move (v := .tup _) rfl) ?_
       refine s1 rfl (lop_extract rfl rfl) ?_
       refine s1 rfl (lop_extract rfl rfl) ?_
       refine s1w rfl (lop_new (t := 9) (cs := [.int _ _, .int _ _, .int _ _, .int _ _, .int _ _, .int _ _, .int _ _, .bool _]) Try.zeroValue39 rfl rfl rfl rfl) rfl ?_
       first
        | refine s0w rfl (lop_storeK (v := .agg [.int _ _, .int _ _, .int _ _, .int _ _, .int _ _, .int _ _, .int _ _, .bool _]) (cs' := [.int _ _, .int _ _, .int _ _, .int _ _, .int _ _, .int _ _, .int _ _, .bool _]) (f' := true) rfl rfl rfl Try.sizeOf39 rfl rfl rfl rfl rfl) ?_
        | refine s0w rfl (lop_storeK (v := .agg [.int _ _, .int _ _, .int _ _, .int _ _, .int _ _, .int _ _, .int _ _, .bool _]) (cs' := [.int _ _, .int _ _, .int _ _, .int _ _, .int _ _, .int _ _, .int _ _, .bool _]) (f' := false) rfl rfl rfl Try.sizeOf39 rfl rfl rfl rfl rfl) ?_
       refine s1 rfl (lop_assign (v := .int _ _) rfl) ?_
       refine ops_nil ?_
       refine ok_region ?_
       first
        | refine s1 rfl (lop_fieldAddr_rf (fo := 2) rfl Try.underlying26 rfl rfl Try.sizeOf24 (by decide)) ?_
        | refine s1 rfl (lop_fieldAddr_fp (fo := 2) rfl Try.underlying26 rfl rfl Try.sizeOf24 (by decide) rfl) ?_
       first
        | refine s1 rfl (lop_load_rf rfl rfl Try.isAgg24 rfl) ?_
        | refine s1 rfl (lop_load_fp rfl Try.isAgg24 rfl) ?_
       refine s1 rfl (lop_move (v := .int _ _) rfl) ?_
       first
        | refine s1 rfl (lop_fieldAddr_rf (fo := 1) rfl Try.underlying30 rfl rfl Try.sizeOf3 (by decide)) ?_
        | refine s1 rfl (lop_fieldAddr_fp (fo := 1) rfl Try.underlying30 rfl rfl Try.sizeOf3 (by decide) rfl) ?_
       first
        | refine s1 rfl (lop_load_rf rfl rfl Try.isAgg3 rfl) ?_
        | refine s1 rfl (lop_load_fp rfl Try.isAgg3 rfl) ?_
       first
        | refine s1 rfl (lop_fieldAddr_rf (fo := 2) rfl Try.underlying30 rfl rfl Try.sizeOf3 (by decide)) ?_
        | refine s1 rfl (lop_fieldAddr_fp (fo := 2) rfl Try.underlying30 rfl rfl Try.sizeOf3 (by decide) rfl) ?_
       first
        | refine s1 rfl (lop_load_rf rfl rfl Try.isAgg3 rfl) ?_
        | refine s1 rfl (lop_load_fp rfl Try.isAgg3 rfl) ?_
       first
        | refine s1 rfl (lop_load_rf_agg (ys := [.int _ _, .int _ _, .int _ _, .int _ _, .int _ _, .bool _]) rfl rfl Try.isAgg35 Try.sizeOf35 (Nat.le_of_ble_eq_true rfl) rfl) ?_
        | refine s1 rfl (lop_load_fp_agg (ys := [.int _ _, .int _ _, .int _ _, .int _ _, .int _ _, .bool _]) rfl Try.isAgg35 Try.sizeOf35 (Nat.le_of_ble_eq_true rfl) rfl) ?_
       refine s1 rfl (lop_buildK (cs := [.int _ _, .int _ _, .int _ _, .int _ _, .int _ _, .int _ _, .int _ _, .bool _]) Try.underlying39 Try.zeroValue39 rfl rfl places39 rfl) ?_
       refine s1 rfl (lop_call rfl Try.call27 (FrzL.tf rfl) (.inl rfl) (set_Sess_ac (l := (doesF x c).1.last) (by omega) (i := (lastF (doesF x c).1 c.client).2) (lastF_lt _ _) ⟨c.client, c.seq, (doesF x c).2⟩)) ?_
       first
        | refine s1 rfl (lop_fieldAddr_rf (fo := 2) rfl Try.underlying26 rfl rfl Try.sizeOf24 (by decide)) ?_
        | refine s1 rfl (lop_fieldAddr_fp (fo := 2) rfl Try.underlying26 rfl rfl Try.sizeOf24 (by decide) rfl) ?_
       first
        | refine s0w rfl (lop_storeK (v := .sl _ _) (cs' := [_, _, _]) (f' := true) rfl rfl rfl Try.sizeOf24 rfl rfl rfl rfl rfl) ?_
        | refine s0w rfl (lop_storeK (v := .os _ _ _ _) (cs' := [_, _, _]) (f' := true) rfl rfl rfl Try.sizeOf24 rfl rfl rfl rfl rfl) ?_
        | refine s0w rfl (lop_storeK (v := .z0) (cs' := [_, _, _]) (f' := true) rfl rfl rfl Try.sizeOf24 rfl rfl rfl rfl rfl) ?_
        | refine s0w rfl (lop_storeK (v := .sl _ _) (cs' := [_, _, _]) (f' := false) rfl rfl rfl Try.sizeOf24 rfl rfl rfl rfl rfl) ?_
        | refine s0w rfl (lop_storeK (v := .os _ _ _ _) (cs' := [_, _, _]) (f' := false) rfl rfl rfl Try.sizeOf24 rfl rfl rfl rfl rfl) ?_
        | refine s0w rfl (lop_storeK (v := .z0) (cs' := [_, _, _]) (f' := false) rfl rfl rfl Try.sizeOf24 rfl rfl rfl rfl rfl) ?_
       refine ops_nil ?_
       refine ok_drw Try.mixed ?_
       first
        | refine d1 rfl rfl (lop_load_rf_agg (ys := [_, _, _]) rfl rfl Try.isAgg26 Try.sizeOf26 (Nat.le_of_ble_eq_true rfl) rfl) ?_
        | refine d1 rfl rfl (lop_load_fp_agg (ys := [_, _, _]) rfl Try.isAgg26 Try.sizeOf26 (Nat.le_of_ble_eq_true rfl) rfl) ?_
       first
        | refine d1 rfl rfl (lop_load_rf_agg (ys := [.int _ _, .int _ _, .int _ _, .int _ _, .int _ _, .bool _]) rfl rfl Try.isAgg35 Try.sizeOf35 (Nat.le_of_ble_eq_true rfl) rfl) ?_
        | refine d1 rfl rfl (lop_load_fp_agg (ys := [.int _ _, .int _ _, .int _ _, .int _ _, .int _ _, .bool _]) rfl Try.isAgg35 Try.sizeOf35 (Nat.le_of_ble_eq_true rfl) rfl) ?_
       first
        | refine d0w rfl rfl (lop_storeK (v := .agg [_, _, _]) (cs' := [_, _, _]) (f' := true) rfl rfl rfl Try.sizeOf26 rfl rfl rfl rfl rfl) ?_
        | refine d0w rfl rfl (lop_storeK (v := .agg [_, _, _]) (cs' := [_, _, _]) (f' := false) rfl rfl rfl Try.sizeOf26 rfl rfl rfl rfl rfl) ?_
       first
        | refine d0w rfl rfl (lop_storeK (v := .agg [.int _ _, .int _ _, .int _ _, .int _ _, .int _ _, .bool _]) (cs' := [.int _ _, .int _ _, .int _ _, .int _ _, .int _ _, .bool _]) (f' := true) rfl rfl rfl Try.sizeOf35 rfl rfl rfl rfl rfl) ?_
        | refine d0w rfl rfl (lop_storeK (v := .agg [.int _ _, .int _ _, .int _ _, .int _ _, .int _ _, .bool _]) (cs' := [.int _ _, .int _ _, .int _ _, .int _ _, .int _ _, .bool _]) (f' := false) rfl rfl rfl Try.sizeOf35 rfl rfl rfl rfl rfl) ?_
       refine dr_nil (by kernel_rfl) ?_
       refine ok_ret ?_
       first
       | (rw [show doF x c = (x, noR 1) by unfold doF; rw [if_pos (by simpa using h_t13)]]; exact ret_gen (R := [4, 5]) ⟨_, _, rfl, ⟨rfl, 4, 0, _, _, rfl, rfl, .inl ⟨3, Try.isAgg26, Try.sizeOf26, Nat.le_of_ble_eq_true rfl, rfl⟩⟩, _, _, rfl, ⟨rfl, 5, 0, _, _, rfl, rfl, .inl ⟨6, Try.isAgg35, Try.sizeOf35, Nat.le_of_ble_eq_true rfl, rfl⟩⟩, rfl⟩ (.tup (.cons (.agg (FrzL.tf rfl)) (.cons (.agg (FrzL.tf rfl)) .nil))) (fun t ht => by simp at ht; rcases ht with rfl | rfl <;> exact Option.some_ne_none _))
       | (rw [show doF x c = (x, (lastF x c.client).1.reply) by unfold doF; rw [if_neg hml, if_pos (by omega)]]; exact ret_gen (R := [4, 5]) ⟨_, _, rfl, ⟨rfl, 4, 0, _, _, rfl, rfl, .inl ⟨3, Try.isAgg26, Try.sizeOf26, Nat.le_of_ble_eq_true rfl, rfl⟩⟩, _, _, rfl, ⟨rfl, 5, 0, _, _, rfl, rfl, .inl ⟨6, Try.isAgg35, Try.sizeOf35, Nat.le_of_ble_eq_true rfl, rfl⟩⟩, rfl⟩ (.tup (.cons (.agg (FrzL.tf rfl)) (.cons (.agg (FrzL.tf rfl)) .nil))) (fun t ht => by simp at ht; rcases ht with rfl | rfl <;> exact Option.some_ne_none _))
       | (rw [show doF x c = (x, noR 9) by unfold doF; rw [if_neg hml, if_neg (by omega), if_pos (by omega)]]; exact ret_gen (R := [4, 5]) ⟨_, _, rfl, ⟨rfl, 4, 0, _, _, rfl, rfl, .inl ⟨3, Try.isAgg26, Try.sizeOf26, Nat.le_of_ble_eq_true rfl, rfl⟩⟩, _, _, rfl, ⟨rfl, 5, 0, _, _, rfl, rfl, .inl ⟨6, Try.isAgg35, Try.sizeOf35, Nat.le_of_ble_eq_true rfl, rfl⟩⟩, rfl⟩ (.tup (.cons (.agg (FrzL.tf rfl)) (.cons (.agg (FrzL.tf rfl)) .nil))) (fun t ht => by simp at ht; rcases ht with rfl | rfl <;> exact Option.some_ne_none _))
       | (rw [show doF x c = (⟨(doesF x c).1.vols, (doesF x c).1.names, setL (doesF x c).1.last (lastF (doesF x c).1 c.client).2 ⟨c.client, c.seq, (doesF x c).2⟩⟩, (doesF x c).2) by unfold doF; rw [if_neg hml, if_neg (by omega), if_neg (by omega), if_pos (by omega)]]; exact ret_gen (R := [4, 5]) ⟨_, _, rfl, ⟨rfl, 4, 0, _, _, rfl, rfl, .inl ⟨3, Try.isAgg26, Try.sizeOf26, Nat.le_of_ble_eq_true rfl, rfl⟩⟩, _, _, rfl, ⟨rfl, 5, 0, _, _, rfl, rfl, .inl ⟨6, Try.isAgg35, Try.sizeOf35, Nat.le_of_ble_eq_true rfl, rfl⟩⟩, rfl⟩ (.tup (.cons (.agg (FrzL.tf rfl)) (.cons (.agg (FrzL.tf rfl)) .nil))) (fun t ht => by simp at ht; rcases ht with rfl | rfl <;> exact Option.some_ne_none _))
       | (rw [show doF x c = (doesF x c) by unfold doF; rw [if_neg hml, if_neg (by omega), if_neg (by omega), if_neg (by omega)]]; exact ret_gen (R := [4, 5]) ⟨_, _, rfl, ⟨rfl, 4, 0, _, _, rfl, rfl, .inl ⟨3, Try.isAgg26, Try.sizeOf26, Nat.le_of_ble_eq_true rfl, rfl⟩⟩, _, _, rfl, ⟨rfl, 5, 0, _, _, rfl, rfl, .inl ⟨6, Try.isAgg35, Try.sizeOf35, Nat.le_of_ble_eq_true rfl, rfl⟩⟩, rfl⟩ (.tup (.cons (.agg (FrzL.tf rfl)) (.cons (.agg (FrzL.tf rfl)) .nil))) (fun t ht => by simp at ht; rcases ht with rfl | rfl <;> exact Option.some_ne_none _))
      ·refine ok_skip ?_
       refine ok_drw Try.mixed ?_
       first
        | refine d1 rfl rfl (lop_load_rf_agg (ys := [_, _, _]) rfl rfl Try.isAgg26 Try.sizeOf26 (Nat.le_of_ble_eq_true rfl) rfl) ?_
        | refine d1 rfl rfl (lop_load_fp_agg (ys := [_, _, _]) rfl Try.isAgg26 Try.sizeOf26 (Nat.le_of_ble_eq_true rfl) rfl) ?_
       first
        | refine d1 rfl rfl (lop_load_rf_agg (ys := [.int _ _, .int _ _, .int _ _, .int _ _, .int _ _, .bool _]) rfl rfl Try.isAgg35 Try.sizeOf35 (Nat.le_of_ble_eq_true rfl) rfl) ?_
        | refine d1 rfl rfl (lop_load_fp_agg (ys := [.int _ _, .int _ _, .int _ _, .int _ _, .int _ _, .bool _]) rfl Try.isAgg35 Try.sizeOf35 (Nat.le_of_ble_eq_true rfl) rfl) ?_
       first
        | refine d0w rfl rfl (lop_storeK (v := .agg [_, _, _]) (cs' := [_, _, _]) (f' := true) rfl rfl rfl Try.sizeOf26 rfl rfl rfl rfl rfl) ?_
        | refine d0w rfl rfl (lop_storeK (v := .agg [_, _, _]) (cs' := [_, _, _]) (f' := false) rfl rfl rfl Try.sizeOf26 rfl rfl rfl rfl rfl) ?_
       first
        | refine d0w rfl rfl (lop_storeK (v := .agg [.int _ _, .int _ _, .int _ _, .int _ _, .int _ _, .bool _]) (cs' := [.int _ _, .int _ _, .int _ _, .int _ _, .int _ _, .bool _]) (f' := true) rfl rfl rfl Try.sizeOf35 rfl rfl rfl rfl rfl) ?_
        | refine d0w rfl rfl (lop_storeK (v := .agg [.int _ _, .int _ _, .int _ _, .int _ _, .int _ _, .bool _]) (cs' := [.int _ _, .int _ _, .int _ _, .int _ _, .int _ _, .bool _]) (f' := false) rfl rfl rfl Try.sizeOf35 rfl rfl rfl rfl rfl) ?_
       refine dr_nil (by kernel_rfl) ?_
       refine ok_ret ?_
       first
       | (rw [show doF x c = (x, noR 1) by unfold doF; rw [if_pos (by simpa using h_t13)]]; exact ret_gen (R := [4, 5]) ⟨_, _, rfl, ⟨rfl, 4, 0, _, _, rfl, rfl, .inl ⟨3, Try.isAgg26, Try.sizeOf26, Nat.le_of_ble_eq_true rfl, rfl⟩⟩, _, _, rfl, ⟨rfl, 5, 0, _, _, rfl, rfl, .inl ⟨6, Try.isAgg35, Try.sizeOf35, Nat.le_of_ble_eq_true rfl, rfl⟩⟩, rfl⟩ (.tup (.cons (.agg (FrzL.tf rfl)) (.cons (.agg (FrzL.tf rfl)) .nil))) (fun t ht => by simp at ht; rcases ht with rfl | rfl <;> exact Option.some_ne_none _))
       | (rw [show doF x c = (x, (lastF x c.client).1.reply) by unfold doF; rw [if_neg hml, if_pos (by omega)]]; exact ret_gen (R := [4, 5]) ⟨_, _, rfl, ⟨rfl, 4, 0, _, _, rfl, rfl, .inl ⟨3, Try.isAgg26, Try.sizeOf26, Nat.le_of_ble_eq_true rfl, rfl⟩⟩, _, _, rfl, ⟨rfl, 5, 0, _, _, rfl, rfl, .inl ⟨6, Try.isAgg35, Try.sizeOf35, Nat.le_of_ble_eq_true rfl, rfl⟩⟩, rfl⟩ (.tup (.cons (.agg (FrzL.tf rfl)) (.cons (.agg (FrzL.tf rfl)) .nil))) (fun t ht => by simp at ht; rcases ht with rfl | rfl <;> exact Option.some_ne_none _))
       | (rw [show doF x c = (x, noR 9) by unfold doF; rw [if_neg hml, if_neg (by omega), if_pos (by omega)]]; exact ret_gen (R := [4, 5]) ⟨_, _, rfl, ⟨rfl, 4, 0, _, _, rfl, rfl, .inl ⟨3, Try.isAgg26, Try.sizeOf26, Nat.le_of_ble_eq_true rfl, rfl⟩⟩, _, _, rfl, ⟨rfl, 5, 0, _, _, rfl, rfl, .inl ⟨6, Try.isAgg35, Try.sizeOf35, Nat.le_of_ble_eq_true rfl, rfl⟩⟩, rfl⟩ (.tup (.cons (.agg (FrzL.tf rfl)) (.cons (.agg (FrzL.tf rfl)) .nil))) (fun t ht => by simp at ht; rcases ht with rfl | rfl <;> exact Option.some_ne_none _))
       | (rw [show doF x c = (⟨(doesF x c).1.vols, (doesF x c).1.names, setL (doesF x c).1.last (lastF (doesF x c).1 c.client).2 ⟨c.client, c.seq, (doesF x c).2⟩⟩, (doesF x c).2) by unfold doF; rw [if_neg hml, if_neg (by omega), if_neg (by omega), if_pos (by omega)]]; exact ret_gen (R := [4, 5]) ⟨_, _, rfl, ⟨rfl, 4, 0, _, _, rfl, rfl, .inl ⟨3, Try.isAgg26, Try.sizeOf26, Nat.le_of_ble_eq_true rfl, rfl⟩⟩, _, _, rfl, ⟨rfl, 5, 0, _, _, rfl, rfl, .inl ⟨6, Try.isAgg35, Try.sizeOf35, Nat.le_of_ble_eq_true rfl, rfl⟩⟩, rfl⟩ (.tup (.cons (.agg (FrzL.tf rfl)) (.cons (.agg (FrzL.tf rfl)) .nil))) (fun t ht => by simp at ht; rcases ht with rfl | rfl <;> exact Option.some_ne_none _))
       | (rw [show doF x c = (doesF x c) by unfold doF; rw [if_neg hml, if_neg (by omega), if_neg (by omega), if_neg (by omega)]]; exact ret_gen (R := [4, 5]) ⟨_, _, rfl, ⟨rfl, 4, 0, _, _, rfl, rfl, .inl ⟨3, Try.isAgg26, Try.sizeOf26, Nat.le_of_ble_eq_true rfl, rfl⟩⟩, _, _, rfl, ⟨rfl, 5, 0, _, _, rfl, rfl, .inl ⟨6, Try.isAgg35, Try.sizeOf35, Nat.le_of_ble_eq_true rfl, rfl⟩⟩, rfl⟩ (.tup (.cons (.agg (FrzL.tf rfl)) (.cons (.agg (FrzL.tf rfl)) .nil))) (fun t ht => by simp at ht; rcases ht with rfl | rfl <;> exact Option.some_ne_none _))
   ·refine n1 rfl rfl g4_6 ?_
    refine n1 rfl rfl g4_6 ?_
    refine n1 rfl rfl g4_6 ?_
    refine n1 rfl rfl g4_6 ?_
    refine n1 rfl rfl g4_6 ?_
    first
     | refine s1 rfl (lop_pick_t (v := .bool _) rfl g4_3 rfl) ?_
     | refine s1 rfl (lop_pick_f (v := .bool _) rfl g4_6 rfl) ?_
     | refine s1 rfl (lop_pick_t (v := .bool _) rfl rfl rfl) ?_
     | refine s1 rfl (lop_pick_f (v := .bool _) rfl rfl rfl) ?_
     | refine s1 rfl (lop_pick rfl rfl rfl) ?_
    refine s1 rfl (lop_assign (v := .bool _) rfl) ?_
    refine ops_nil ?_
    refine ok_false rfl rfl ?_
    refine ok_reg ?_
    first
     | refine s1 rfl (lop_fieldAddr_rf (fo := 1) rfl Try.underlying30 rfl rfl Try.sizeOf3 (by decide)) ?_
     | refine s1 rfl (lop_fieldAddr_fp (fo := 1) rfl Try.underlying30 rfl rfl Try.sizeOf3 (by decide) rfl) ?_
    first
     | refine s1 rfl (lop_load_rf rfl rfl Try.isAgg3 rfl) ?_
     | refine s1 rfl (lop_load_fp rfl Try.isAgg3 rfl) ?_
    refine s1 rfl (lop_gtr rfl rfl) ?_
    refine s1 rfl (lop_move (v := .bool _) rfl) ?_
    first
     | refine gsplitP 3 rfl rfl (fun g6_3 p6_3 => ?_) (fun g6_3 p6_3 => ?_)
     | refine gsplitB 3 rfl rfl (fun g6_3 p6_3 => ?_) (fun g6_3 p6_3 => ?_)
    ·refine y1 rfl rfl g6_3 rfl (lop_move (v := .bool _) rfl) ?_
     first
      | refine s1 rfl (lop_pick_t (v := .bool _) rfl g6_3 rfl) ?_
      | refine s1 rfl (lop_pick_t (v := .bool _) rfl rfl rfl) ?_
      | refine s1 rfl (lop_pick_f (v := .bool _) rfl rfl rfl) ?_
      | refine s1 rfl (lop_pick rfl rfl rfl) ?_
     refine s1 rfl (lop_move (v := .bool _) rfl) ?_
     first
      | refine gsplitP 6 rfl rfl (fun g6_6 p6_6 => ?_) (fun g6_6 p6_6 => ?_)
      | refine gsplitB 6 rfl rfl (fun g6_6 p6_6 => ?_) (fun g6_6 p6_6 => ?_)
     ·first
       | refine y1 rfl rfl g6_6 rfl (lop_fieldAddr_rf (fo := 1) rfl Try.underlying39 rfl rfl Try.sizeOf3 (by decide)) ?_
       | refine y1 rfl rfl g6_6 rfl (lop_fieldAddr_fp (fo := 1) rfl Try.underlying39 rfl rfl Try.sizeOf3 (by decide) rfl) ?_
      first
       | refine y1 rfl rfl g6_6 rfl (lop_load_rf rfl rfl Try.isAgg3 rfl) ?_
       | refine y1 rfl rfl g6_6 rfl (lop_load_fp rfl Try.isAgg3 rfl) ?_
      first
       | refine y1 rfl rfl g6_6 rfl (lop_fieldAddr_rf (fo := 2) rfl Try.underlying30 rfl rfl Try.sizeOf3 (by decide)) ?_
       | refine y1 rfl rfl g6_6 rfl (lop_fieldAddr_fp (fo := 2) rfl Try.underlying30 rfl rfl Try.sizeOf3 (by decide) rfl) ?_
      first
       | refine y1 rfl rfl g6_6 rfl (lop_load_rf rfl rfl Try.isAgg3 rfl) ?_
       | refine y1 rfl rfl g6_6 rfl (lop_load_fp rfl Try.isAgg3 rfl) ?_
      refine y1 rfl rfl g6_6 rfl (lop_gtr rfl rfl) ?_
      first
       | refine s1 rfl (lop_pick_t (v := .bool _) rfl g6_3 rfl) ?_
       | refine s1 rfl (lop_pick_t (v := .bool _) rfl g6_6 rfl) ?_
       | refine s1 rfl (lop_pick_t (v := .bool _) rfl rfl rfl) ?_
       | refine s1 rfl (lop_pick_f (v := .bool _) rfl rfl rfl) ?_
       | refine s1 rfl (lop_pick rfl rfl rfl) ?_
      refine s1 rfl (lop_assign (v := .bool _) rfl) ?_
      refine ops_nil ?_
      first
       | refine ok_if _ rfl rfl (fun h_t40 => ?_) (fun h_t40 => ?_)
       | refine ok_cond rfl rfl (fun h_t40 => ?_) (fun h_t40 => ?_)
      ·refine ok_drw Try.mixed ?_
       first
        | refine d1 rfl rfl (lop_load_rf_agg (ys := [_, _, _]) rfl rfl Try.isAgg26 Try.sizeOf26 (Nat.le_of_ble_eq_true rfl) rfl) ?_
        | refine d1 rfl rfl (lop_load_fp_agg (ys := [_, _, _]) rfl Try.isAgg26 Try.sizeOf26 (Nat.le_of_ble_eq_true rfl) rfl) ?_
       refine d1 rfl rfl (lop_call rfl Try.call23 (FrzL.tf rfl) (.inl rfl) (no_ac 9)) ?_
       first
        | refine d0w rfl rfl (lop_storeK (v := .agg [_, _, _]) (cs' := [_, _, _]) (f' := true) rfl rfl rfl Try.sizeOf26 rfl rfl rfl rfl rfl) ?_
        | refine d0w rfl rfl (lop_storeK (v := .agg [_, _, _]) (cs' := [_, _, _]) (f' := false) rfl rfl rfl Try.sizeOf26 rfl rfl rfl rfl rfl) ?_
       first
        | refine d0w rfl rfl (lop_storeK (v := .agg [.int _ _, .int _ _, .int _ _, .int _ _, .int _ _, .bool _]) (cs' := [.int _ _, .int _ _, .int _ _, .int _ _, .int _ _, .bool _]) (f' := true) rfl rfl rfl Try.sizeOf35 rfl rfl rfl rfl rfl) ?_
        | refine d0w rfl rfl (lop_storeK (v := .agg [.int _ _, .int _ _, .int _ _, .int _ _, .int _ _, .bool _]) (cs' := [.int _ _, .int _ _, .int _ _, .int _ _, .int _ _, .bool _]) (f' := false) rfl rfl rfl Try.sizeOf35 rfl rfl rfl rfl rfl) ?_
       refine dr_nil (by kernel_rfl) ?_
       refine ok_ret ?_
       first
       | (rw [show doF x c = (x, noR 1) by unfold doF; rw [if_pos (by simpa using h_t13)]]; exact ret_gen (R := [4, 5]) ⟨_, _, rfl, ⟨rfl, 4, 0, _, _, rfl, rfl, .inl ⟨3, Try.isAgg26, Try.sizeOf26, Nat.le_of_ble_eq_true rfl, rfl⟩⟩, _, _, rfl, ⟨rfl, 5, 0, _, _, rfl, rfl, .inl ⟨6, Try.isAgg35, Try.sizeOf35, Nat.le_of_ble_eq_true rfl, rfl⟩⟩, rfl⟩ (.tup (.cons (.agg (FrzL.tf rfl)) (.cons (.agg (FrzL.tf rfl)) .nil))) (fun t ht => by simp at ht; rcases ht with rfl | rfl <;> exact Option.some_ne_none _))
       | (rw [show doF x c = (x, (lastF x c.client).1.reply) by unfold doF; rw [if_neg hml, if_pos (by omega)]]; exact ret_gen (R := [4, 5]) ⟨_, _, rfl, ⟨rfl, 4, 0, _, _, rfl, rfl, .inl ⟨3, Try.isAgg26, Try.sizeOf26, Nat.le_of_ble_eq_true rfl, rfl⟩⟩, _, _, rfl, ⟨rfl, 5, 0, _, _, rfl, rfl, .inl ⟨6, Try.isAgg35, Try.sizeOf35, Nat.le_of_ble_eq_true rfl, rfl⟩⟩, rfl⟩ (.tup (.cons (.agg (FrzL.tf rfl)) (.cons (.agg (FrzL.tf rfl)) .nil))) (fun t ht => by simp at ht; rcases ht with rfl | rfl <;> exact Option.some_ne_none _))
       | (rw [show doF x c = (x, noR 9) by unfold doF; rw [if_neg hml, if_neg (by omega), if_pos (by omega)]]; exact ret_gen (R := [4, 5]) ⟨_, _, rfl, ⟨rfl, 4, 0, _, _, rfl, rfl, .inl ⟨3, Try.isAgg26, Try.sizeOf26, Nat.le_of_ble_eq_true rfl, rfl⟩⟩, _, _, rfl, ⟨rfl, 5, 0, _, _, rfl, rfl, .inl ⟨6, Try.isAgg35, Try.sizeOf35, Nat.le_of_ble_eq_true rfl, rfl⟩⟩, rfl⟩ (.tup (.cons (.agg (FrzL.tf rfl)) (.cons (.agg (FrzL.tf rfl)) .nil))) (fun t ht => by simp at ht; rcases ht with rfl | rfl <;> exact Option.some_ne_none _))
       | (rw [show doF x c = (⟨(doesF x c).1.vols, (doesF x c).1.names, setL (doesF x c).1.last (lastF (doesF x c).1 c.client).2 ⟨c.client, c.seq, (doesF x c).2⟩⟩, (doesF x c).2) by unfold doF; rw [if_neg hml, if_neg (by omega), if_neg (by omega), if_pos (by omega)]]; exact ret_gen (R := [4, 5]) ⟨_, _, rfl, ⟨rfl, 4, 0, _, _, rfl, rfl, .inl ⟨3, Try.isAgg26, Try.sizeOf26, Nat.le_of_ble_eq_true rfl, rfl⟩⟩, _, _, rfl, ⟨rfl, 5, 0, _, _, rfl, rfl, .inl ⟨6, Try.isAgg35, Try.sizeOf35, Nat.le_of_ble_eq_true rfl, rfl⟩⟩, rfl⟩ (.tup (.cons (.agg (FrzL.tf rfl)) (.cons (.agg (FrzL.tf rfl)) .nil))) (fun t ht => by simp at ht; rcases ht with rfl | rfl <;> exact Option.some_ne_none _))
       | (rw [show doF x c = (doesF x c) by unfold doF; rw [if_neg hml, if_neg (by omega), if_neg (by omega), if_neg (by omega)]]; exact ret_gen (R := [4, 5]) ⟨_, _, rfl, ⟨rfl, 4, 0, _, _, rfl, rfl, .inl ⟨3, Try.isAgg26, Try.sizeOf26, Nat.le_of_ble_eq_true rfl, rfl⟩⟩, _, _, rfl, ⟨rfl, 5, 0, _, _, rfl, rfl, .inl ⟨6, Try.isAgg35, Try.sizeOf35, Nat.le_of_ble_eq_true rfl, rfl⟩⟩, rfl⟩ (.tup (.cons (.agg (FrzL.tf rfl)) (.cons (.agg (FrzL.tf rfl)) .nil))) (fun t ht => by simp at ht; rcases ht with rfl | rfl <;> exact Option.some_ne_none _))
      ·refine ok_skip ?_
       refine ok_reg ?_
       first
        | refine s1 rfl (lop_load_rf_agg (ys := [_, _, _]) rfl rfl Try.isAgg26 Try.sizeOf26 (Nat.le_of_ble_eq_true rfl) rfl) ?_
        | refine s1 rfl (lop_load_fp_agg (ys := [_, _, _]) rfl Try.isAgg26 Try.sizeOf26 (Nat.le_of_ble_eq_true rfl) rfl) ?_
       first
        | refine s1 rfl (lop_load_rf_agg (ys := [.int _ _, .int _ _, .int _ _, .str _, .int _ _, .int _ _, .int _ _, .int _ _, .int _ _, .int _ _, .int _ _, _]) rfl rfl Try.isAgg30 Try.sizeOf30 (Nat.le_of_ble_eq_true rfl) rfl) ?_
        | refine s1 rfl (lop_load_fp_agg (ys := [.int _ _, .int _ _, .int _ _, .str _, .int _ _, .int _ _, .int _ _, .int _ _, .int _ _, .int _ _, .int _ _, _]) rfl Try.isAgg30 Try.sizeOf30 (Nat.le_of_ble_eq_true rfl) rfl) ?_
       refine s1 rfl (lop_call rfl Try.call24 (FrzL.tf rfl) (.inl rfl) (does_ac hx hm)) ?_
       refine s1 rfl (lop_move (v := .tup _) rfl) ?_
       refine s1 rfl (lop_extract rfl rfl) ?_
       refine s1 rfl (lop_extract rfl rfl) ?_
       refine s1w rfl (lop_new (t := 8) (cs := [.int _ _, .int _ _, .int _ _, .int _ _, .int _ _, .bool _]) Try.zeroValue35 rfl rfl rfl rfl) rfl ?_
       first
        | refine s0w rfl (lop_storeK (v := .agg [_, _, _]) (cs' := [_, _, _]) (f' := true) rfl rfl rfl Try.sizeOf26 rfl rfl rfl rfl rfl) ?_
        | refine s0w rfl (lop_storeK (v := .agg [_, _, _]) (cs' := [_, _, _]) (f' := false) rfl rfl rfl Try.sizeOf26 rfl rfl rfl rfl rfl) ?_
       first
        | refine s0w rfl (lop_storeK (v := .agg [.int _ _, .int _ _, .int _ _, .int _ _, .int _ _, .bool _]) (cs' := [.int _ _, .int _ _, .int _ _, .int _ _, .int _ _, .bool _]) (f' := true) rfl rfl rfl Try.sizeOf35 rfl rfl rfl rfl rfl) ?_
        | refine s0w rfl (lop_storeK (v := .agg [.int _ _, .int _ _, .int _ _, .int _ _, .int _ _, .bool _]) (cs' := [.int _ _, .int _ _, .int _ _, .int _ _, .int _ _, .bool _]) (f' := false) rfl rfl rfl Try.sizeOf35 rfl rfl rfl rfl rfl) ?_
       refine ops_nil ?_
       refine ok_seq ?_
       refine ok_reg ?_
       first
        | refine s1 rfl (lop_fieldAddr_rf (fo := 1) rfl Try.underlying30 rfl rfl Try.sizeOf3 (by decide)) ?_
        | refine s1 rfl (lop_fieldAddr_fp (fo := 1) rfl Try.underlying30 rfl rfl Try.sizeOf3 (by decide) rfl) ?_
       first
        | refine s1 rfl (lop_load_rf rfl rfl Try.isAgg3 rfl) ?_
        | refine s1 rfl (lop_load_fp rfl Try.isAgg3 rfl) ?_
       refine s1 rfl (lop_gtr rfl rfl) ?_
       refine ops_nil ?_
       first
        | refine ok_if _ rfl rfl (fun h_t64 => ?_) (fun h_t64 => ?_)
        | refine ok_cond rfl rfl (fun h_t64 => ?_) (fun h_t64 => ?_)
       ·refine ok_reg ?_
        first
         | refine s1 rfl (lop_fieldAddr_rf (fo := 2) rfl Try.underlying26 rfl rfl Try.sizeOf24 (by decide)) ?_
         | refine s1 rfl (lop_fieldAddr_fp (fo := 2) rfl Try.underlying26 rfl rfl Try.sizeOf24 (by decide) rfl) ?_
        first
         | refine s1 rfl (lop_load_rf rfl rfl Try.isAgg24 rfl) ?_
         | refine s1 rfl (lop_load_fp rfl Try.isAgg24 rfl) ?_
        first
         | refine s1 rfl (lop_func (vs := [.rf _ _]) rfl) ?_
         | refine s1 rfl (lop_func (vs := [.fp _]) rfl) ?_
        refine ops_le (T := ⟨[(2, .rf 2 0), (3, .fp c.enc), (4, .rf 4 0), (5, .rf 5 0), (8, .rf 8 0), (67, rowOf SessD.enc (doesF x c).1.last), (68, .fn 26 [.fp c.enc])], [(2, some (true, (doesF x c).1.enc)), (4, some (true, [.z0, .z0, .z0])), (5, some (true, ReplyD.zero.enc)), (8, some (true, (doesF x c).2.enc))], 85⟩) (le_frz [3] ⟨.inl ⟨rfl, rfl⟩, .inr (fz_sound _ [3] _ rfl), .inl ⟨rfl, rfl⟩, .inl ⟨rfl, rfl⟩, .inl ⟨rfl, rfl⟩, .inl ⟨rfl, rfl⟩, .inr (fz_sound _ [3] _ rfl), trivial⟩ ⟨.inr ⟨rfl, rfl, trivial⟩, .inr ⟨rfl, rfl, trivial⟩, .inr ⟨rfl, rfl, trivial⟩, .inr ⟨rfl, rfl, trivial⟩, trivial⟩ (fun t ht => by simp at ht; subst ht; exact Option.some_ne_none _) rfl) ?_
        refine s1 rfl (lop_call rfl Try.call25 (FrzL.tf rfl) (.inl rfl) (find_Sess_ac (p := fun s => decide (s.client = c.client)) (l := (doesF x c).1.last) (by omega) Try.call26 rfl (fun y _ => do1_ac y c))) ?_
        refine s1 rfl (lop_move (v := .tup _) rfl) ?_
        refine s1 rfl (lop_extract rfl rfl) ?_
        refine s1 rfl (lop_extract rfl rfl) ?_
        refine s1w rfl (lop_new (t := 9) (cs := [.int _ _, .int _ _, .int _ _, .int _ _, .int _ _, .int _ _, .int _ _, .bool _]) Try.zeroValue39 rfl rfl rfl rfl) rfl ?_
        first
         | refine s0w rfl (lop_storeK (v := .agg [.int _ _, .int _ _, .int _ _, .int _ _, .int _ _, .int _ _, .int _ _, .bool _]) (cs' := [.int _ _, .int _ _, .int _ _, .int _ _, .int _ _, .int _ _, .int _ _, .bool _]) (f' := true) rfl rfl rfl Try.sizeOf39 rfl rfl rfl rfl rfl) ?_
         | refine s0w rfl (lop_storeK (v := .agg [.int _ _, .int _ _, .int _ _, .int _ _, .int _ _, .int _ _, .int _ _, .bool _]) (cs' := [.int _ _, .int _ _, .int _ _, .int _ _, .int _ _, .int _ _, .int _ _, .bool _]) (f' := false) rfl rfl rfl Try.sizeOf39 rfl rfl rfl rfl rfl) ?_
        refine s1 rfl (lop_assign (v := .int _ _) rfl) ?_
        refine ops_nil ?_
        refine ok_region ?_
        first
         | refine s1 rfl (lop_fieldAddr_rf (fo := 2) rfl Try.underlying26 rfl rfl Try.sizeOf24 (by decide)) ?_
         | refine s1 rfl (lop_fieldAddr_fp (fo := 2) rfl Try.underlying26 rfl rfl Try.sizeOf24 (by decide) rfl) ?_
        first
         | refine s1 rfl (lop_load_rf rfl rfl Try.isAgg24 rfl) ?_
         | refine s1 rfl (lop_load_fp rfl Try.isAgg24 rfl) ?_
        refine s1 rfl (lop_move (v := .int _ _) rfl) ?_
        first
         | refine s1 rfl (lop_fieldAddr_rf (fo := 1) rfl Try.underlying30 rfl rfl Try.sizeOf3 (by decide)) ?_
         | refine s1 rfl (lop_fieldAddr_fp (fo := 1) rfl Try.underlying30 rfl rfl Try.sizeOf3 (by decide) rfl) ?_
        first
         | refine s1 rfl (lop_load_rf rfl rfl Try.isAgg3 rfl) ?_
         | refine s1 rfl (lop_load_fp rfl Try.isAgg3 rfl) ?_
        first
         | refine s1 rfl (lop_fieldAddr_rf (fo := 2) rfl Try.underlying30 rfl rfl Try.sizeOf3 (by decide)) ?_
         | refine s1 rfl (lop_fieldAddr_fp (fo := 2) rfl Try.underlying30 rfl rfl Try.sizeOf3 (by decide) rfl) ?_
        first
         | refine s1 rfl (lop_load_rf rfl rfl Try.isAgg3 rfl) ?_
         | refine s1 rfl (lop_load_fp rfl Try.isAgg3 rfl) ?_
        first
         | refine s1 rfl (lop_load_rf_agg (ys := [.int _ _, .int _ _, .int _ _, .int _ _, .int _ _, .bool _]) rfl rfl Try.isAgg35 Try.sizeOf35 (Nat.le_of_ble_eq_true rfl) rfl) ?_
         | refine s1 rfl (lop_load_fp_agg (ys := [.int _ _, .int _ _, .int _ _, .int _ _, .int _ _, .bool _]) rfl Try.isAgg35 Try.sizeOf35 (Nat.le_of_ble_eq_true rfl) rfl) ?_
        refine s1 rfl (lop_buildK (cs := [.int _ _, .int _ _, .int _ _, .int _ _, .int _ _, .int _ _, .int _ _, .bool _]) Try.underlying39 Try.zeroValue39 rfl rfl places39 rfl) ?_
        refine s1 rfl (lop_call rfl Try.call27 (FrzL.tf rfl) (.inl rfl) (set_Sess_ac (l := (doesF x c).1.last) (by omega) (i := (lastF (doesF x c).1 c.client).2) (lastF_lt _ _) ⟨c.client, c.seq, (doesF x c).2⟩)) ?_
        first
         | refine s1 rfl (lop_fieldAddr_rf (fo := 2) rfl Try.underlying26 rfl rfl Try.sizeOf24 (by decide)) ?_
         | refine s1 rfl (lop_fieldAddr_fp (fo := 2) rfl Try.underlying26 rfl rfl Try.sizeOf24 (by decide) rfl) ?_
        first
         | refine s0w rfl (lop_storeK (v := .sl _ _) (cs' := [_, _, _]) (f' := true) rfl rfl rfl Try.sizeOf24 rfl rfl rfl rfl rfl) ?_
         | refine s0w rfl (lop_storeK (v := .os _ _ _ _) (cs' := [_, _, _]) (f' := true) rfl rfl rfl Try.sizeOf24 rfl rfl rfl rfl rfl) ?_
         | refine s0w rfl (lop_storeK (v := .z0) (cs' := [_, _, _]) (f' := true) rfl rfl rfl Try.sizeOf24 rfl rfl rfl rfl rfl) ?_
         | refine s0w rfl (lop_storeK (v := .sl _ _) (cs' := [_, _, _]) (f' := false) rfl rfl rfl Try.sizeOf24 rfl rfl rfl rfl rfl) ?_
         | refine s0w rfl (lop_storeK (v := .os _ _ _ _) (cs' := [_, _, _]) (f' := false) rfl rfl rfl Try.sizeOf24 rfl rfl rfl rfl rfl) ?_
         | refine s0w rfl (lop_storeK (v := .z0) (cs' := [_, _, _]) (f' := false) rfl rfl rfl Try.sizeOf24 rfl rfl rfl rfl rfl) ?_
        refine ops_nil ?_
        refine ok_drw Try.mixed ?_
        first
         | refine d1 rfl rfl (lop_load_rf_agg (ys := [_, _, _]) rfl rfl Try.isAgg26 Try.sizeOf26 (Nat.le_of_ble_eq_true rfl) rfl) ?_
         | refine d1 rfl rfl (lop_load_fp_agg (ys := [_, _, _]) rfl Try.isAgg26 Try.sizeOf26 (Nat.le_of_ble_eq_true rfl) rfl) ?_
        first
         | refine d1 rfl rfl (lop_load_rf_agg (ys := [.int _ _, .int _ _, .int _ _, .int _ _, .int _ _, .bool _]) rfl rfl Try.isAgg35 Try.sizeOf35 (Nat.le_of_ble_eq_true rfl) rfl) ?_
         | refine d1 rfl rfl (lop_load_fp_agg (ys := [.int _ _, .int _ _, .int _ _, .int _ _, .int _ _, .bool _]) rfl Try.isAgg35 Try.sizeOf35 (Nat.le_of_ble_eq_true rfl) rfl) ?_
        first
         | refine d0w rfl rfl (lop_storeK (v := .agg [_, _, _]) (cs' := [_, _, _]) (f' := true) rfl rfl rfl Try.sizeOf26 rfl rfl rfl rfl rfl) ?_
         | refine d0w rfl rfl (lop_storeK (v := .agg [_, _, _]) (cs' := [_, _, _]) (f' := false) rfl rfl rfl Try.sizeOf26 rfl rfl rfl rfl rfl) ?_
        first
         | refine d0w rfl rfl (lop_storeK (v := .agg [.int _ _, .int _ _, .int _ _, .int _ _, .int _ _, .bool _]) (cs' := [.int _ _, .int _ _, .int _ _, .int _ _, .int _ _, .bool _]) (f' := true) rfl rfl rfl Try.sizeOf35 rfl rfl rfl rfl rfl) ?_
         | refine d0w rfl rfl (lop_storeK (v := .agg [.int _ _, .int _ _, .int _ _, .int _ _, .int _ _, .bool _]) (cs' := [.int _ _, .int _ _, .int _ _, .int _ _, .int _ _, .bool _]) (f' := false) rfl rfl rfl Try.sizeOf35 rfl rfl rfl rfl rfl) ?_
        refine dr_nil (by kernel_rfl) ?_
        refine ok_ret ?_
        first
        | (rw [show doF x c = (x, noR 1) by unfold doF; rw [if_pos (by simpa using h_t13)]]; exact ret_gen (R := [4, 5]) ⟨_, _, rfl, ⟨rfl, 4, 0, _, _, rfl, rfl, .inl ⟨3, Try.isAgg26, Try.sizeOf26, Nat.le_of_ble_eq_true rfl, rfl⟩⟩, _, _, rfl, ⟨rfl, 5, 0, _, _, rfl, rfl, .inl ⟨6, Try.isAgg35, Try.sizeOf35, Nat.le_of_ble_eq_true rfl, rfl⟩⟩, rfl⟩ (.tup (.cons (.agg (FrzL.tf rfl)) (.cons (.agg (FrzL.tf rfl)) .nil))) (fun t ht => by simp at ht; rcases ht with rfl | rfl <;> exact Option.some_ne_none _))
        | (rw [show doF x c = (x, (lastF x c.client).1.reply) by unfold doF; rw [if_neg hml, if_pos (by omega)]]; exact ret_gen (R := [4, 5]) ⟨_, _, rfl, ⟨rfl, 4, 0, _, _, rfl, rfl, .inl ⟨3, Try.isAgg26, Try.sizeOf26, Nat.le_of_ble_eq_true rfl, rfl⟩⟩, _, _, rfl, ⟨rfl, 5, 0, _, _, rfl, rfl, .inl ⟨6, Try.isAgg35, Try.sizeOf35, Nat.le_of_ble_eq_true rfl, rfl⟩⟩, rfl⟩ (.tup (.cons (.agg (FrzL.tf rfl)) (.cons (.agg (FrzL.tf rfl)) .nil))) (fun t ht => by simp at ht; rcases ht with rfl | rfl <;> exact Option.some_ne_none _))
        | (rw [show doF x c = (x, noR 9) by unfold doF; rw [if_neg hml, if_neg (by omega), if_pos (by omega)]]; exact ret_gen (R := [4, 5]) ⟨_, _, rfl, ⟨rfl, 4, 0, _, _, rfl, rfl, .inl ⟨3, Try.isAgg26, Try.sizeOf26, Nat.le_of_ble_eq_true rfl, rfl⟩⟩, _, _, rfl, ⟨rfl, 5, 0, _, _, rfl, rfl, .inl ⟨6, Try.isAgg35, Try.sizeOf35, Nat.le_of_ble_eq_true rfl, rfl⟩⟩, rfl⟩ (.tup (.cons (.agg (FrzL.tf rfl)) (.cons (.agg (FrzL.tf rfl)) .nil))) (fun t ht => by simp at ht; rcases ht with rfl | rfl <;> exact Option.some_ne_none _))
        | (rw [show doF x c = (⟨(doesF x c).1.vols, (doesF x c).1.names, setL (doesF x c).1.last (lastF (doesF x c).1 c.client).2 ⟨c.client, c.seq, (doesF x c).2⟩⟩, (doesF x c).2) by unfold doF; rw [if_neg hml, if_neg (by omega), if_neg (by omega), if_pos (by omega)]]; exact ret_gen (R := [4, 5]) ⟨_, _, rfl, ⟨rfl, 4, 0, _, _, rfl, rfl, .inl ⟨3, Try.isAgg26, Try.sizeOf26, Nat.le_of_ble_eq_true rfl, rfl⟩⟩, _, _, rfl, ⟨rfl, 5, 0, _, _, rfl, rfl, .inl ⟨6, Try.isAgg35, Try.sizeOf35, Nat.le_of_ble_eq_true rfl, rfl⟩⟩, rfl⟩ (.tup (.cons (.agg (FrzL.tf rfl)) (.cons (.agg (FrzL.tf rfl)) .nil))) (fun t ht => by simp at ht; rcases ht with rfl | rfl <;> exact Option.some_ne_none _))
        | (rw [show doF x c = (doesF x c) by unfold doF; rw [if_neg hml, if_neg (by omega), if_neg (by omega), if_neg (by omega)]]; exact ret_gen (R := [4, 5]) ⟨_, _, rfl, ⟨rfl, 4, 0, _, _, rfl, rfl, .inl ⟨3, Try.isAgg26, Try.sizeOf26, Nat.le_of_ble_eq_true rfl, rfl⟩⟩, _, _, rfl, ⟨rfl, 5, 0, _, _, rfl, rfl, .inl ⟨6, Try.isAgg35, Try.sizeOf35, Nat.le_of_ble_eq_true rfl, rfl⟩⟩, rfl⟩ (.tup (.cons (.agg (FrzL.tf rfl)) (.cons (.agg (FrzL.tf rfl)) .nil))) (fun t ht => by simp at ht; rcases ht with rfl | rfl <;> exact Option.some_ne_none _))
       ·refine ok_skip ?_
        refine ok_drw Try.mixed ?_
        first
         | refine d1 rfl rfl (lop_load_rf_agg (ys := [_, _, _]) rfl rfl Try.isAgg26 Try.sizeOf26 (Nat.le_of_ble_eq_true rfl) rfl) ?_
         | refine d1 rfl rfl (lop_load_fp_agg (ys := [_, _, _]) rfl Try.isAgg26 Try.sizeOf26 (Nat.le_of_ble_eq_true rfl) rfl) ?_
        first
         | refine d1 rfl rfl (lop_load_rf_agg (ys := [.int _ _, .int _ _, .int _ _, .int _ _, .int _ _, .bool _]) rfl rfl Try.isAgg35 Try.sizeOf35 (Nat.le_of_ble_eq_true rfl) rfl) ?_
         | refine d1 rfl rfl (lop_load_fp_agg (ys := [.int _ _, .int _ _, .int _ _, .int _ _, .int _ _, .bool _]) rfl Try.isAgg35 Try.sizeOf35 (Nat.le_of_ble_eq_true rfl) rfl) ?_
        first
         | refine d0w rfl rfl (lop_storeK (v := .agg [_, _, _]) (cs' := [_, _, _]) (f' := true) rfl rfl rfl Try.sizeOf26 rfl rfl rfl rfl rfl) ?_
         | refine d0w rfl rfl (lop_storeK (v := .agg [_, _, _]) (cs' := [_, _, _]) (f' := false) rfl rfl rfl Try.sizeOf26 rfl rfl rfl rfl rfl) ?_
        first
         | refine d0w rfl rfl (lop_storeK (v := .agg [.int _ _, .int _ _, .int _ _, .int _ _, .int _ _, .bool _]) (cs' := [.int _ _, .int _ _, .int _ _, .int _ _, .int _ _, .bool _]) (f' := true) rfl rfl rfl Try.sizeOf35 rfl rfl rfl rfl rfl) ?_
         | refine d0w rfl rfl (lop_storeK (v := .agg [.int _ _, .int _ _, .int _ _, .int _ _, .int _ _, .bool _]) (cs' := [.int _ _, .int _ _, .int _ _, .int _ _, .int _ _, .bool _]) (f' := false) rfl rfl rfl Try.sizeOf35 rfl rfl rfl rfl rfl) ?_
        refine dr_nil (by kernel_rfl) ?_
        refine ok_ret ?_
        first
        | (rw [show doF x c = (x, noR 1) by unfold doF; rw [if_pos (by simpa using h_t13)]]; exact ret_gen (R := [4, 5]) ⟨_, _, rfl, ⟨rfl, 4, 0, _, _, rfl, rfl, .inl ⟨3, Try.isAgg26, Try.sizeOf26, Nat.le_of_ble_eq_true rfl, rfl⟩⟩, _, _, rfl, ⟨rfl, 5, 0, _, _, rfl, rfl, .inl ⟨6, Try.isAgg35, Try.sizeOf35, Nat.le_of_ble_eq_true rfl, rfl⟩⟩, rfl⟩ (.tup (.cons (.agg (FrzL.tf rfl)) (.cons (.agg (FrzL.tf rfl)) .nil))) (fun t ht => by simp at ht; rcases ht with rfl | rfl <;> exact Option.some_ne_none _))
        | (rw [show doF x c = (x, (lastF x c.client).1.reply) by unfold doF; rw [if_neg hml, if_pos (by omega)]]; exact ret_gen (R := [4, 5]) ⟨_, _, rfl, ⟨rfl, 4, 0, _, _, rfl, rfl, .inl ⟨3, Try.isAgg26, Try.sizeOf26, Nat.le_of_ble_eq_true rfl, rfl⟩⟩, _, _, rfl, ⟨rfl, 5, 0, _, _, rfl, rfl, .inl ⟨6, Try.isAgg35, Try.sizeOf35, Nat.le_of_ble_eq_true rfl, rfl⟩⟩, rfl⟩ (.tup (.cons (.agg (FrzL.tf rfl)) (.cons (.agg (FrzL.tf rfl)) .nil))) (fun t ht => by simp at ht; rcases ht with rfl | rfl <;> exact Option.some_ne_none _))
        | (rw [show doF x c = (x, noR 9) by unfold doF; rw [if_neg hml, if_neg (by omega), if_pos (by omega)]]; exact ret_gen (R := [4, 5]) ⟨_, _, rfl, ⟨rfl, 4, 0, _, _, rfl, rfl, .inl ⟨3, Try.isAgg26, Try.sizeOf26, Nat.le_of_ble_eq_true rfl, rfl⟩⟩, _, _, rfl, ⟨rfl, 5, 0, _, _, rfl, rfl, .inl ⟨6, Try.isAgg35, Try.sizeOf35, Nat.le_of_ble_eq_true rfl, rfl⟩⟩, rfl⟩ (.tup (.cons (.agg (FrzL.tf rfl)) (.cons (.agg (FrzL.tf rfl)) .nil))) (fun t ht => by simp at ht; rcases ht with rfl | rfl <;> exact Option.some_ne_none _))
        | (rw [show doF x c = (⟨(doesF x c).1.vols, (doesF x c).1.names, setL (doesF x c).1.last (lastF (doesF x c).1 c.client).2 ⟨c.client, c.seq, (doesF x c).2⟩⟩, (doesF x c).2) by unfold doF; rw [if_neg hml, if_neg (by omega), if_neg (by omega), if_pos (by omega)]]; exact ret_gen (R := [4, 5]) ⟨_, _, rfl, ⟨rfl, 4, 0, _, _, rfl, rfl, .inl ⟨3, Try.isAgg26, Try.sizeOf26, Nat.le_of_ble_eq_true rfl, rfl⟩⟩, _, _, rfl, ⟨rfl, 5, 0, _, _, rfl, rfl, .inl ⟨6, Try.isAgg35, Try.sizeOf35, Nat.le_of_ble_eq_true rfl, rfl⟩⟩, rfl⟩ (.tup (.cons (.agg (FrzL.tf rfl)) (.cons (.agg (FrzL.tf rfl)) .nil))) (fun t ht => by simp at ht; rcases ht with rfl | rfl <;> exact Option.some_ne_none _))
        | (rw [show doF x c = (doesF x c) by unfold doF; rw [if_neg hml, if_neg (by omega), if_neg (by omega), if_neg (by omega)]]; exact ret_gen (R := [4, 5]) ⟨_, _, rfl, ⟨rfl, 4, 0, _, _, rfl, rfl, .inl ⟨3, Try.isAgg26, Try.sizeOf26, Nat.le_of_ble_eq_true rfl, rfl⟩⟩, _, _, rfl, ⟨rfl, 5, 0, _, _, rfl, rfl, .inl ⟨6, Try.isAgg35, Try.sizeOf35, Nat.le_of_ble_eq_true rfl, rfl⟩⟩, rfl⟩ (.tup (.cons (.agg (FrzL.tf rfl)) (.cons (.agg (FrzL.tf rfl)) .nil))) (fun t ht => by simp at ht; rcases ht with rfl | rfl <;> exact Option.some_ne_none _))
     ·refine n1 rfl rfl g6_6 ?_
      refine n1 rfl rfl g6_6 ?_
      refine n1 rfl rfl g6_6 ?_
      refine n1 rfl rfl g6_6 ?_
      refine n1 rfl rfl g6_6 ?_
      first
       | refine s1 rfl (lop_pick_t (v := .bool _) rfl g6_3 rfl) ?_
       | refine s1 rfl (lop_pick_f (v := .bool _) rfl g6_6 rfl) ?_
       | refine s1 rfl (lop_pick_t (v := .bool _) rfl rfl rfl) ?_
       | refine s1 rfl (lop_pick_f (v := .bool _) rfl rfl rfl) ?_
       | refine s1 rfl (lop_pick rfl rfl rfl) ?_
      refine s1 rfl (lop_assign (v := .bool _) rfl) ?_
      refine ops_nil ?_
      refine ok_false rfl rfl ?_
      refine ok_skip ?_
      refine ok_reg ?_
      first
       | refine s1 rfl (lop_load_rf_agg (ys := [_, _, _]) rfl rfl Try.isAgg26 Try.sizeOf26 (Nat.le_of_ble_eq_true rfl) rfl) ?_
       | refine s1 rfl (lop_load_fp_agg (ys := [_, _, _]) rfl Try.isAgg26 Try.sizeOf26 (Nat.le_of_ble_eq_true rfl) rfl) ?_
      first
       | refine s1 rfl (lop_load_rf_agg (ys := [.int _ _, .int _ _, .int _ _, .str _, .int _ _, .int _ _, .int _ _, .int _ _, .int _ _, .int _ _, .int _ _, _]) rfl rfl Try.isAgg30 Try.sizeOf30 (Nat.le_of_ble_eq_true rfl) rfl) ?_
       | refine s1 rfl (lop_load_fp_agg (ys := [.int _ _, .int _ _, .int _ _, .str _, .int _ _, .int _ _, .int _ _, .int _ _, .int _ _, .int _ _, .int _ _, _]) rfl Try.isAgg30 Try.sizeOf30 (Nat.le_of_ble_eq_true rfl) rfl) ?_
      refine s1 rfl (lop_call rfl Try.call24 (FrzL.tf rfl) (.inl rfl) (does_ac hx hm)) ?_
      refine s1 rfl (lop_move (v := .tup _) rfl) ?_
      refine s1 rfl (lop_extract rfl rfl) ?_
      refine s1 rfl (lop_extract rfl rfl) ?_
      refine s1w rfl (lop_new (t := 8) (cs := [.int _ _, .int _ _, .int _ _, .int _ _, .int _ _, .bool _]) Try.zeroValue35 rfl rfl rfl rfl) rfl ?_
      first
       | refine s0w rfl (lop_storeK (v := .agg [_, _, _]) (cs' := [_, _, _]) (f' := true) rfl rfl rfl Try.sizeOf26 rfl rfl rfl rfl rfl) ?_
       | refine s0w rfl (lop_storeK (v := .agg [_, _, _]) (cs' := [_, _, _]) (f' := false) rfl rfl rfl Try.sizeOf26 rfl rfl rfl rfl rfl) ?_
      first
       | refine s0w rfl (lop_storeK (v := .agg [.int _ _, .int _ _, .int _ _, .int _ _, .int _ _, .bool _]) (cs' := [.int _ _, .int _ _, .int _ _, .int _ _, .int _ _, .bool _]) (f' := true) rfl rfl rfl Try.sizeOf35 rfl rfl rfl rfl rfl) ?_
       | refine s0w rfl (lop_storeK (v := .agg [.int _ _, .int _ _, .int _ _, .int _ _, .int _ _, .bool _]) (cs' := [.int _ _, .int _ _, .int _ _, .int _ _, .int _ _, .bool _]) (f' := false) rfl rfl rfl Try.sizeOf35 rfl rfl rfl rfl rfl) ?_
      refine ops_nil ?_
      refine ok_seq ?_
      refine ok_reg ?_
      first
       | refine s1 rfl (lop_fieldAddr_rf (fo := 1) rfl Try.underlying30 rfl rfl Try.sizeOf3 (by decide)) ?_
       | refine s1 rfl (lop_fieldAddr_fp (fo := 1) rfl Try.underlying30 rfl rfl Try.sizeOf3 (by decide) rfl) ?_
      first
       | refine s1 rfl (lop_load_rf rfl rfl Try.isAgg3 rfl) ?_
       | refine s1 rfl (lop_load_fp rfl Try.isAgg3 rfl) ?_
      refine s1 rfl (lop_gtr rfl rfl) ?_
      refine ops_nil ?_
      first
       | refine ok_if _ rfl rfl (fun h_t64 => ?_) (fun h_t64 => ?_)
       | refine ok_cond rfl rfl (fun h_t64 => ?_) (fun h_t64 => ?_)
      ·refine ok_reg ?_
       first
        | refine s1 rfl (lop_fieldAddr_rf (fo := 2) rfl Try.underlying26 rfl rfl Try.sizeOf24 (by decide)) ?_
        | refine s1 rfl (lop_fieldAddr_fp (fo := 2) rfl Try.underlying26 rfl rfl Try.sizeOf24 (by decide) rfl) ?_
       first
        | refine s1 rfl (lop_load_rf rfl rfl Try.isAgg24 rfl) ?_
        | refine s1 rfl (lop_load_fp rfl Try.isAgg24 rfl) ?_
       first
        | refine s1 rfl (lop_func (vs := [.rf _ _]) rfl) ?_
        | refine s1 rfl (lop_func (vs := [.fp _]) rfl) ?_
       refine ops_le (T := ⟨[(2, .rf 2 0), (3, .fp c.enc), (4, .rf 4 0), (5, .rf 5 0), (8, .rf 8 0), (67, rowOf SessD.enc (doesF x c).1.last), (68, .fn 26 [.fp c.enc])], [(2, some (true, (doesF x c).1.enc)), (4, some (true, [.z0, .z0, .z0])), (5, some (true, ReplyD.zero.enc)), (8, some (true, (doesF x c).2.enc))], 85⟩) (le_frz [3] ⟨.inl ⟨rfl, rfl⟩, .inr (fz_sound _ [3] _ rfl), .inl ⟨rfl, rfl⟩, .inl ⟨rfl, rfl⟩, .inl ⟨rfl, rfl⟩, .inl ⟨rfl, rfl⟩, .inr (fz_sound _ [3] _ rfl), trivial⟩ ⟨.inr ⟨rfl, rfl, trivial⟩, .inr ⟨rfl, rfl, trivial⟩, .inr ⟨rfl, rfl, trivial⟩, .inr ⟨rfl, rfl, trivial⟩, trivial⟩ (fun t ht => by simp at ht; subst ht; exact Option.some_ne_none _) rfl) ?_
       refine s1 rfl (lop_call rfl Try.call25 (FrzL.tf rfl) (.inl rfl) (find_Sess_ac (p := fun s => decide (s.client = c.client)) (l := (doesF x c).1.last) (by omega) Try.call26 rfl (fun y _ => do1_ac y c))) ?_
       refine s1 rfl (lop_move (v := .tup _) rfl) ?_
       refine s1 rfl (lop_extract rfl rfl) ?_
       refine s1 rfl (lop_extract rfl rfl) ?_
       refine s1w rfl (lop_new (t := 9) (cs := [.int _ _, .int _ _, .int _ _, .int _ _, .int _ _, .int _ _, .int _ _, .bool _]) Try.zeroValue39 rfl rfl rfl rfl) rfl ?_
       first
        | refine s0w rfl (lop_storeK (v := .agg [.int _ _, .int _ _, .int _ _, .int _ _, .int _ _, .int _ _, .int _ _, .bool _]) (cs' := [.int _ _, .int _ _, .int _ _, .int _ _, .int _ _, .int _ _, .int _ _, .bool _]) (f' := true) rfl rfl rfl Try.sizeOf39 rfl rfl rfl rfl rfl) ?_
        | refine s0w rfl (lop_storeK (v := .agg [.int _ _, .int _ _, .int _ _, .int _ _, .int _ _, .int _ _, .int _ _, .bool _]) (cs' := [.int _ _, .int _ _, .int _ _, .int _ _, .int _ _, .int _ _, .int _ _, .bool _]) (f' := false) rfl rfl rfl Try.sizeOf39 rfl rfl rfl rfl rfl) ?_
       refine s1 rfl (lop_assign (v := .int _ _) rfl) ?_
       refine ops_nil ?_
       refine ok_region ?_
       first
        | refine s1 rfl (lop_fieldAddr_rf (fo := 2) rfl Try.underlying26 rfl rfl Try.sizeOf24 (by decide)) ?_
        | refine s1 rfl (lop_fieldAddr_fp (fo := 2) rfl Try.underlying26 rfl rfl Try.sizeOf24 (by decide) rfl) ?_
       first
        | refine s1 rfl (lop_load_rf rfl rfl Try.isAgg24 rfl) ?_
        | refine s1 rfl (lop_load_fp rfl Try.isAgg24 rfl) ?_
       refine s1 rfl (lop_move (v := .int _ _) rfl) ?_
       first
        | refine s1 rfl (lop_fieldAddr_rf (fo := 1) rfl Try.underlying30 rfl rfl Try.sizeOf3 (by decide)) ?_
        | refine s1 rfl (lop_fieldAddr_fp (fo := 1) rfl Try.underlying30 rfl rfl Try.sizeOf3 (by decide) rfl) ?_
       first
        | refine s1 rfl (lop_load_rf rfl rfl Try.isAgg3 rfl) ?_
        | refine s1 rfl (lop_load_fp rfl Try.isAgg3 rfl) ?_
       first
        | refine s1 rfl (lop_fieldAddr_rf (fo := 2) rfl Try.underlying30 rfl rfl Try.sizeOf3 (by decide)) ?_
        | refine s1 rfl (lop_fieldAddr_fp (fo := 2) rfl Try.underlying30 rfl rfl Try.sizeOf3 (by decide) rfl) ?_
       first
        | refine s1 rfl (lop_load_rf rfl rfl Try.isAgg3 rfl) ?_
        | refine s1 rfl (lop_load_fp rfl Try.isAgg3 rfl) ?_
       first
        | refine s1 rfl (lop_load_rf_agg (ys := [.int _ _, .int _ _, .int _ _, .int _ _, .int _ _, .bool _]) rfl rfl Try.isAgg35 Try.sizeOf35 (Nat.le_of_ble_eq_true rfl) rfl) ?_
        | refine s1 rfl (lop_load_fp_agg (ys := [.int _ _, .int _ _, .int _ _, .int _ _, .int _ _, .bool _]) rfl Try.isAgg35 Try.sizeOf35 (Nat.le_of_ble_eq_true rfl) rfl) ?_
       refine s1 rfl (lop_buildK (cs := [.int _ _, .int _ _, .int _ _, .int _ _, .int _ _, .int _ _, .int _ _, .bool _]) Try.underlying39 Try.zeroValue39 rfl rfl places39 rfl) ?_
       refine s1 rfl (lop_call rfl Try.call27 (FrzL.tf rfl) (.inl rfl) (set_Sess_ac (l := (doesF x c).1.last) (by omega) (i := (lastF (doesF x c).1 c.client).2) (lastF_lt _ _) ⟨c.client, c.seq, (doesF x c).2⟩)) ?_
       first
        | refine s1 rfl (lop_fieldAddr_rf (fo := 2) rfl Try.underlying26 rfl rfl Try.sizeOf24 (by decide)) ?_
        | refine s1 rfl (lop_fieldAddr_fp (fo := 2) rfl Try.underlying26 rfl rfl Try.sizeOf24 (by decide) rfl) ?_
       first
        | refine s0w rfl (lop_storeK (v := .sl _ _) (cs' := [_, _, _]) (f' := true) rfl rfl rfl Try.sizeOf24 rfl rfl rfl rfl rfl) ?_
        | refine s0w rfl (lop_storeK (v := .os _ _ _ _) (cs' := [_, _, _]) (f' := true) rfl rfl rfl Try.sizeOf24 rfl rfl rfl rfl rfl) ?_
        | refine s0w rfl (lop_storeK (v := .z0) (cs' := [_, _, _]) (f' := true) rfl rfl rfl Try.sizeOf24 rfl rfl rfl rfl rfl) ?_
        | refine s0w rfl (lop_storeK (v := .sl _ _) (cs' := [_, _, _]) (f' := false) rfl rfl rfl Try.sizeOf24 rfl rfl rfl rfl rfl) ?_
        | refine s0w rfl (lop_storeK (v := .os _ _ _ _) (cs' := [_, _, _]) (f' := false) rfl rfl rfl Try.sizeOf24 rfl rfl rfl rfl rfl) ?_
        | refine s0w rfl (lop_storeK (v := .z0) (cs' := [_, _, _]) (f' := false) rfl rfl rfl Try.sizeOf24 rfl rfl rfl rfl rfl) ?_
       refine ops_nil ?_
       refine ok_drw Try.mixed ?_
       first
        | refine d1 rfl rfl (lop_load_rf_agg (ys := [_, _, _]) rfl rfl Try.isAgg26 Try.sizeOf26 (Nat.le_of_ble_eq_true rfl) rfl) ?_
        | refine d1 rfl rfl (lop_load_fp_agg (ys := [_, _, _]) rfl Try.isAgg26 Try.sizeOf26 (Nat.le_of_ble_eq_true rfl) rfl) ?_
       first
        | refine d1 rfl rfl (lop_load_rf_agg (ys := [.int _ _, .int _ _, .int _ _, .int _ _, .int _ _, .bool _]) rfl rfl Try.isAgg35 Try.sizeOf35 (Nat.le_of_ble_eq_true rfl) rfl) ?_
        | refine d1 rfl rfl (lop_load_fp_agg (ys := [.int _ _, .int _ _, .int _ _, .int _ _, .int _ _, .bool _]) rfl Try.isAgg35 Try.sizeOf35 (Nat.le_of_ble_eq_true rfl) rfl) ?_
       first
        | refine d0w rfl rfl (lop_storeK (v := .agg [_, _, _]) (cs' := [_, _, _]) (f' := true) rfl rfl rfl Try.sizeOf26 rfl rfl rfl rfl rfl) ?_
        | refine d0w rfl rfl (lop_storeK (v := .agg [_, _, _]) (cs' := [_, _, _]) (f' := false) rfl rfl rfl Try.sizeOf26 rfl rfl rfl rfl rfl) ?_
       first
        | refine d0w rfl rfl (lop_storeK (v := .agg [.int _ _, .int _ _, .int _ _, .int _ _, .int _ _, .bool _]) (cs' := [.int _ _, .int _ _, .int _ _, .int _ _, .int _ _, .bool _]) (f' := true) rfl rfl rfl Try.sizeOf35 rfl rfl rfl rfl rfl) ?_
        | refine d0w rfl rfl (lop_storeK (v := .agg [.int _ _, .int _ _, .int _ _, .int _ _, .int _ _, .bool _]) (cs' := [.int _ _, .int _ _, .int _ _, .int _ _, .int _ _, .bool _]) (f' := false) rfl rfl rfl Try.sizeOf35 rfl rfl rfl rfl rfl) ?_
       refine dr_nil (by kernel_rfl) ?_
       refine ok_ret ?_
       first
       | (rw [show doF x c = (x, noR 1) by unfold doF; rw [if_pos (by simpa using h_t13)]]; exact ret_gen (R := [4, 5]) ⟨_, _, rfl, ⟨rfl, 4, 0, _, _, rfl, rfl, .inl ⟨3, Try.isAgg26, Try.sizeOf26, Nat.le_of_ble_eq_true rfl, rfl⟩⟩, _, _, rfl, ⟨rfl, 5, 0, _, _, rfl, rfl, .inl ⟨6, Try.isAgg35, Try.sizeOf35, Nat.le_of_ble_eq_true rfl, rfl⟩⟩, rfl⟩ (.tup (.cons (.agg (FrzL.tf rfl)) (.cons (.agg (FrzL.tf rfl)) .nil))) (fun t ht => by simp at ht; rcases ht with rfl | rfl <;> exact Option.some_ne_none _))
       | (rw [show doF x c = (x, (lastF x c.client).1.reply) by unfold doF; rw [if_neg hml, if_pos (by omega)]]; exact ret_gen (R := [4, 5]) ⟨_, _, rfl, ⟨rfl, 4, 0, _, _, rfl, rfl, .inl ⟨3, Try.isAgg26, Try.sizeOf26, Nat.le_of_ble_eq_true rfl, rfl⟩⟩, _, _, rfl, ⟨rfl, 5, 0, _, _, rfl, rfl, .inl ⟨6, Try.isAgg35, Try.sizeOf35, Nat.le_of_ble_eq_true rfl, rfl⟩⟩, rfl⟩ (.tup (.cons (.agg (FrzL.tf rfl)) (.cons (.agg (FrzL.tf rfl)) .nil))) (fun t ht => by simp at ht; rcases ht with rfl | rfl <;> exact Option.some_ne_none _))
       | (rw [show doF x c = (x, noR 9) by unfold doF; rw [if_neg hml, if_neg (by omega), if_pos (by omega)]]; exact ret_gen (R := [4, 5]) ⟨_, _, rfl, ⟨rfl, 4, 0, _, _, rfl, rfl, .inl ⟨3, Try.isAgg26, Try.sizeOf26, Nat.le_of_ble_eq_true rfl, rfl⟩⟩, _, _, rfl, ⟨rfl, 5, 0, _, _, rfl, rfl, .inl ⟨6, Try.isAgg35, Try.sizeOf35, Nat.le_of_ble_eq_true rfl, rfl⟩⟩, rfl⟩ (.tup (.cons (.agg (FrzL.tf rfl)) (.cons (.agg (FrzL.tf rfl)) .nil))) (fun t ht => by simp at ht; rcases ht with rfl | rfl <;> exact Option.some_ne_none _))
       | (rw [show doF x c = (⟨(doesF x c).1.vols, (doesF x c).1.names, setL (doesF x c).1.last (lastF (doesF x c).1 c.client).2 ⟨c.client, c.seq, (doesF x c).2⟩⟩, (doesF x c).2) by unfold doF; rw [if_neg hml, if_neg (by omega), if_neg (by omega), if_pos (by omega)]]; exact ret_gen (R := [4, 5]) ⟨_, _, rfl, ⟨rfl, 4, 0, _, _, rfl, rfl, .inl ⟨3, Try.isAgg26, Try.sizeOf26, Nat.le_of_ble_eq_true rfl, rfl⟩⟩, _, _, rfl, ⟨rfl, 5, 0, _, _, rfl, rfl, .inl ⟨6, Try.isAgg35, Try.sizeOf35, Nat.le_of_ble_eq_true rfl, rfl⟩⟩, rfl⟩ (.tup (.cons (.agg (FrzL.tf rfl)) (.cons (.agg (FrzL.tf rfl)) .nil))) (fun t ht => by simp at ht; rcases ht with rfl | rfl <;> exact Option.some_ne_none _))
       | (rw [show doF x c = (doesF x c) by unfold doF; rw [if_neg hml, if_neg (by omega), if_neg (by omega), if_neg (by omega)]]; exact ret_gen (R := [4, 5]) ⟨_, _, rfl, ⟨rfl, 4, 0, _, _, rfl, rfl, .inl ⟨3, Try.isAgg26, Try.sizeOf26, Nat.le_of_ble_eq_true rfl, rfl⟩⟩, _, _, rfl, ⟨rfl, 5, 0, _, _, rfl, rfl, .inl ⟨6, Try.isAgg35, Try.sizeOf35, Nat.le_of_ble_eq_true rfl, rfl⟩⟩, rfl⟩ (.tup (.cons (.agg (FrzL.tf rfl)) (.cons (.agg (FrzL.tf rfl)) .nil))) (fun t ht => by simp at ht; rcases ht with rfl | rfl <;> exact Option.some_ne_none _))
      ·refine ok_skip ?_
       refine ok_drw Try.mixed ?_
       first
        | refine d1 rfl rfl (lop_load_rf_agg (ys := [_, _, _]) rfl rfl Try.isAgg26 Try.sizeOf26 (Nat.le_of_ble_eq_true rfl) rfl) ?_
        | refine d1 rfl rfl (lop_load_fp_agg (ys := [_, _, _]) rfl Try.isAgg26 Try.sizeOf26 (Nat.le_of_ble_eq_true rfl) rfl) ?_
       first
        | refine d1 rfl rfl (lop_load_rf_agg (ys := [.int _ _, .int _ _, .int _ _, .int _ _, .int _ _, .bool _]) rfl rfl Try.isAgg35 Try.sizeOf35 (Nat.le_of_ble_eq_true rfl) rfl) ?_
        | refine d1 rfl rfl (lop_load_fp_agg (ys := [.int _ _, .int _ _, .int _ _, .int _ _, .int _ _, .bool _]) rfl Try.isAgg35 Try.sizeOf35 (Nat.le_of_ble_eq_true rfl) rfl) ?_
       first
        | refine d0w rfl rfl (lop_storeK (v := .agg [_, _, _]) (cs' := [_, _, _]) (f' := true) rfl rfl rfl Try.sizeOf26 rfl rfl rfl rfl rfl) ?_
        | refine d0w rfl rfl (lop_storeK (v := .agg [_, _, _]) (cs' := [_, _, _]) (f' := false) rfl rfl rfl Try.sizeOf26 rfl rfl rfl rfl rfl) ?_
       first
        | refine d0w rfl rfl (lop_storeK (v := .agg [.int _ _, .int _ _, .int _ _, .int _ _, .int _ _, .bool _]) (cs' := [.int _ _, .int _ _, .int _ _, .int _ _, .int _ _, .bool _]) (f' := true) rfl rfl rfl Try.sizeOf35 rfl rfl rfl rfl rfl) ?_
        | refine d0w rfl rfl (lop_storeK (v := .agg [.int _ _, .int _ _, .int _ _, .int _ _, .int _ _, .bool _]) (cs' := [.int _ _, .int _ _, .int _ _, .int _ _, .int _ _, .bool _]) (f' := false) rfl rfl rfl Try.sizeOf35 rfl rfl rfl rfl rfl) ?_
       refine dr_nil (by kernel_rfl) ?_
       refine ok_ret ?_
       first
       | (rw [show doF x c = (x, noR 1) by unfold doF; rw [if_pos (by simpa using h_t13)]]; exact ret_gen (R := [4, 5]) ⟨_, _, rfl, ⟨rfl, 4, 0, _, _, rfl, rfl, .inl ⟨3, Try.isAgg26, Try.sizeOf26, Nat.le_of_ble_eq_true rfl, rfl⟩⟩, _, _, rfl, ⟨rfl, 5, 0, _, _, rfl, rfl, .inl ⟨6, Try.isAgg35, Try.sizeOf35, Nat.le_of_ble_eq_true rfl, rfl⟩⟩, rfl⟩ (.tup (.cons (.agg (FrzL.tf rfl)) (.cons (.agg (FrzL.tf rfl)) .nil))) (fun t ht => by simp at ht; rcases ht with rfl | rfl <;> exact Option.some_ne_none _))
       | (rw [show doF x c = (x, (lastF x c.client).1.reply) by unfold doF; rw [if_neg hml, if_pos (by omega)]]; exact ret_gen (R := [4, 5]) ⟨_, _, rfl, ⟨rfl, 4, 0, _, _, rfl, rfl, .inl ⟨3, Try.isAgg26, Try.sizeOf26, Nat.le_of_ble_eq_true rfl, rfl⟩⟩, _, _, rfl, ⟨rfl, 5, 0, _, _, rfl, rfl, .inl ⟨6, Try.isAgg35, Try.sizeOf35, Nat.le_of_ble_eq_true rfl, rfl⟩⟩, rfl⟩ (.tup (.cons (.agg (FrzL.tf rfl)) (.cons (.agg (FrzL.tf rfl)) .nil))) (fun t ht => by simp at ht; rcases ht with rfl | rfl <;> exact Option.some_ne_none _))
       | (rw [show doF x c = (x, noR 9) by unfold doF; rw [if_neg hml, if_neg (by omega), if_pos (by omega)]]; exact ret_gen (R := [4, 5]) ⟨_, _, rfl, ⟨rfl, 4, 0, _, _, rfl, rfl, .inl ⟨3, Try.isAgg26, Try.sizeOf26, Nat.le_of_ble_eq_true rfl, rfl⟩⟩, _, _, rfl, ⟨rfl, 5, 0, _, _, rfl, rfl, .inl ⟨6, Try.isAgg35, Try.sizeOf35, Nat.le_of_ble_eq_true rfl, rfl⟩⟩, rfl⟩ (.tup (.cons (.agg (FrzL.tf rfl)) (.cons (.agg (FrzL.tf rfl)) .nil))) (fun t ht => by simp at ht; rcases ht with rfl | rfl <;> exact Option.some_ne_none _))
       | (rw [show doF x c = (⟨(doesF x c).1.vols, (doesF x c).1.names, setL (doesF x c).1.last (lastF (doesF x c).1 c.client).2 ⟨c.client, c.seq, (doesF x c).2⟩⟩, (doesF x c).2) by unfold doF; rw [if_neg hml, if_neg (by omega), if_neg (by omega), if_pos (by omega)]]; exact ret_gen (R := [4, 5]) ⟨_, _, rfl, ⟨rfl, 4, 0, _, _, rfl, rfl, .inl ⟨3, Try.isAgg26, Try.sizeOf26, Nat.le_of_ble_eq_true rfl, rfl⟩⟩, _, _, rfl, ⟨rfl, 5, 0, _, _, rfl, rfl, .inl ⟨6, Try.isAgg35, Try.sizeOf35, Nat.le_of_ble_eq_true rfl, rfl⟩⟩, rfl⟩ (.tup (.cons (.agg (FrzL.tf rfl)) (.cons (.agg (FrzL.tf rfl)) .nil))) (fun t ht => by simp at ht; rcases ht with rfl | rfl <;> exact Option.some_ne_none _))
       | (rw [show doF x c = (doesF x c) by unfold doF; rw [if_neg hml, if_neg (by omega), if_neg (by omega), if_neg (by omega)]]; exact ret_gen (R := [4, 5]) ⟨_, _, rfl, ⟨rfl, 4, 0, _, _, rfl, rfl, .inl ⟨3, Try.isAgg26, Try.sizeOf26, Nat.le_of_ble_eq_true rfl, rfl⟩⟩, _, _, rfl, ⟨rfl, 5, 0, _, _, rfl, rfl, .inl ⟨6, Try.isAgg35, Try.sizeOf35, Nat.le_of_ble_eq_true rfl, rfl⟩⟩, rfl⟩ (.tup (.cons (.agg (FrzL.tf rfl)) (.cons (.agg (FrzL.tf rfl)) .nil))) (fun t ht => by simp at ht; rcases ht with rfl | rfl <;> exact Option.some_ne_none _))
    ·refine n1 rfl rfl g6_3 ?_
     first
      | refine s1 rfl (lop_pick_f (v := .bool _) rfl g6_3 rfl) ?_
      | refine s1 rfl (lop_pick_t (v := .bool _) rfl rfl rfl) ?_
      | refine s1 rfl (lop_pick_f (v := .bool _) rfl rfl rfl) ?_
      | refine s1 rfl (lop_pick rfl rfl rfl) ?_
     refine s1 rfl (lop_move (v := .bool _) rfl) ?_
     refine n1 rfl rfl rfl ?_
     refine n1 rfl rfl rfl ?_
     refine n1 rfl rfl rfl ?_
     refine n1 rfl rfl rfl ?_
     refine n1 rfl rfl rfl ?_
     first
      | refine s1 rfl (lop_pick_f (v := .bool _) rfl g6_3 rfl) ?_
      | refine s1 rfl (lop_pick_f (v := .bool _) rfl rfl rfl) ?_
      | refine s1 rfl (lop_pick_t (v := .bool _) rfl rfl rfl) ?_
      | refine s1 rfl (lop_pick_f (v := .bool _) rfl rfl rfl) ?_
      | refine s1 rfl (lop_pick rfl rfl rfl) ?_
     refine s1 rfl (lop_assign (v := .bool _) rfl) ?_
     refine ops_nil ?_
     refine ok_false rfl rfl ?_
     refine ok_skip ?_
     refine ok_reg ?_
     first
      | refine s1 rfl (lop_load_rf_agg (ys := [_, _, _]) rfl rfl Try.isAgg26 Try.sizeOf26 (Nat.le_of_ble_eq_true rfl) rfl) ?_
      | refine s1 rfl (lop_load_fp_agg (ys := [_, _, _]) rfl Try.isAgg26 Try.sizeOf26 (Nat.le_of_ble_eq_true rfl) rfl) ?_
     first
      | refine s1 rfl (lop_load_rf_agg (ys := [.int _ _, .int _ _, .int _ _, .str _, .int _ _, .int _ _, .int _ _, .int _ _, .int _ _, .int _ _, .int _ _, _]) rfl rfl Try.isAgg30 Try.sizeOf30 (Nat.le_of_ble_eq_true rfl) rfl) ?_
      | refine s1 rfl (lop_load_fp_agg (ys := [.int _ _, .int _ _, .int _ _, .str _, .int _ _, .int _ _, .int _ _, .int _ _, .int _ _, .int _ _, .int _ _, _]) rfl Try.isAgg30 Try.sizeOf30 (Nat.le_of_ble_eq_true rfl) rfl) ?_
     refine s1 rfl (lop_call rfl Try.call24 (FrzL.tf rfl) (.inl rfl) (does_ac hx hm)) ?_
     refine s1 rfl (lop_move (v := .tup _) rfl) ?_
     refine s1 rfl (lop_extract rfl rfl) ?_
     refine s1 rfl (lop_extract rfl rfl) ?_
     refine s1w rfl (lop_new (t := 8) (cs := [.int _ _, .int _ _, .int _ _, .int _ _, .int _ _, .bool _]) Try.zeroValue35 rfl rfl rfl rfl) rfl ?_
     first
      | refine s0w rfl (lop_storeK (v := .agg [_, _, _]) (cs' := [_, _, _]) (f' := true) rfl rfl rfl Try.sizeOf26 rfl rfl rfl rfl rfl) ?_
      | refine s0w rfl (lop_storeK (v := .agg [_, _, _]) (cs' := [_, _, _]) (f' := false) rfl rfl rfl Try.sizeOf26 rfl rfl rfl rfl rfl) ?_
     first
      | refine s0w rfl (lop_storeK (v := .agg [.int _ _, .int _ _, .int _ _, .int _ _, .int _ _, .bool _]) (cs' := [.int _ _, .int _ _, .int _ _, .int _ _, .int _ _, .bool _]) (f' := true) rfl rfl rfl Try.sizeOf35 rfl rfl rfl rfl rfl) ?_
      | refine s0w rfl (lop_storeK (v := .agg [.int _ _, .int _ _, .int _ _, .int _ _, .int _ _, .bool _]) (cs' := [.int _ _, .int _ _, .int _ _, .int _ _, .int _ _, .bool _]) (f' := false) rfl rfl rfl Try.sizeOf35 rfl rfl rfl rfl rfl) ?_
     refine ops_nil ?_
     refine ok_seq ?_
     refine ok_reg ?_
     first
      | refine s1 rfl (lop_fieldAddr_rf (fo := 1) rfl Try.underlying30 rfl rfl Try.sizeOf3 (by decide)) ?_
      | refine s1 rfl (lop_fieldAddr_fp (fo := 1) rfl Try.underlying30 rfl rfl Try.sizeOf3 (by decide) rfl) ?_
     first
      | refine s1 rfl (lop_load_rf rfl rfl Try.isAgg3 rfl) ?_
      | refine s1 rfl (lop_load_fp rfl Try.isAgg3 rfl) ?_
     refine s1 rfl (lop_gtr rfl rfl) ?_
     refine ops_nil ?_
     first
      | refine ok_if _ rfl rfl (fun h_t64 => ?_) (fun h_t64 => ?_)
      | refine ok_cond rfl rfl (fun h_t64 => ?_) (fun h_t64 => ?_)
     ·refine ok_reg ?_
      first
       | refine s1 rfl (lop_fieldAddr_rf (fo := 2) rfl Try.underlying26 rfl rfl Try.sizeOf24 (by decide)) ?_
       | refine s1 rfl (lop_fieldAddr_fp (fo := 2) rfl Try.underlying26 rfl rfl Try.sizeOf24 (by decide) rfl) ?_
      first
       | refine s1 rfl (lop_load_rf rfl rfl Try.isAgg24 rfl) ?_
       | refine s1 rfl (lop_load_fp rfl Try.isAgg24 rfl) ?_
      first
       | refine s1 rfl (lop_func (vs := [.rf _ _]) rfl) ?_
       | refine s1 rfl (lop_func (vs := [.fp _]) rfl) ?_
      refine ops_le (T := ⟨[(2, .rf 2 0), (3, .fp c.enc), (4, .rf 4 0), (5, .rf 5 0), (8, .rf 8 0), (67, rowOf SessD.enc (doesF x c).1.last), (68, .fn 26 [.fp c.enc])], [(2, some (true, (doesF x c).1.enc)), (4, some (true, [.z0, .z0, .z0])), (5, some (true, ReplyD.zero.enc)), (8, some (true, (doesF x c).2.enc))], 85⟩) (le_frz [3] ⟨.inl ⟨rfl, rfl⟩, .inr (fz_sound _ [3] _ rfl), .inl ⟨rfl, rfl⟩, .inl ⟨rfl, rfl⟩, .inl ⟨rfl, rfl⟩, .inl ⟨rfl, rfl⟩, .inr (fz_sound _ [3] _ rfl), trivial⟩ ⟨.inr ⟨rfl, rfl, trivial⟩, .inr ⟨rfl, rfl, trivial⟩, .inr ⟨rfl, rfl, trivial⟩, .inr ⟨rfl, rfl, trivial⟩, trivial⟩ (fun t ht => by simp at ht; subst ht; exact Option.some_ne_none _) rfl) ?_
      refine s1 rfl (lop_call rfl Try.call25 (FrzL.tf rfl) (.inl rfl) (find_Sess_ac (p := fun s => decide (s.client = c.client)) (l := (doesF x c).1.last) (by omega) Try.call26 rfl (fun y _ => do1_ac y c))) ?_
      refine s1 rfl (lop_move (v := .tup _) rfl) ?_
      refine s1 rfl (lop_extract rfl rfl) ?_
      refine s1 rfl (lop_extract rfl rfl) ?_
      refine s1w rfl (lop_new (t := 9) (cs := [.int _ _, .int _ _, .int _ _, .int _ _, .int _ _, .int _ _, .int _ _, .bool _]) Try.zeroValue39 rfl rfl rfl rfl) rfl ?_
      first
       | refine s0w rfl (lop_storeK (v := .agg [.int _ _, .int _ _, .int _ _, .int _ _, .int _ _, .int _ _, .int _ _, .bool _]) (cs' := [.int _ _, .int _ _, .int _ _, .int _ _, .int _ _, .int _ _, .int _ _, .bool _]) (f' := true) rfl rfl rfl Try.sizeOf39 rfl rfl rfl rfl rfl) ?_
       | refine s0w rfl (lop_storeK (v := .agg [.int _ _, .int _ _, .int _ _, .int _ _, .int _ _, .int _ _, .int _ _, .bool _]) (cs' := [.int _ _, .int _ _, .int _ _, .int _ _, .int _ _, .int _ _, .int _ _, .bool _]) (f' := false) rfl rfl rfl Try.sizeOf39 rfl rfl rfl rfl rfl) ?_
      refine s1 rfl (lop_assign (v := .int _ _) rfl) ?_
      refine ops_nil ?_
      refine ok_region ?_
      first
       | refine s1 rfl (lop_fieldAddr_rf (fo := 2) rfl Try.underlying26 rfl rfl Try.sizeOf24 (by decide)) ?_
       | refine s1 rfl (lop_fieldAddr_fp (fo := 2) rfl Try.underlying26 rfl rfl Try.sizeOf24 (by decide) rfl) ?_
      first
       | refine s1 rfl (lop_load_rf rfl rfl Try.isAgg24 rfl) ?_
       | refine s1 rfl (lop_load_fp rfl Try.isAgg24 rfl) ?_
      refine s1 rfl (lop_move (v := .int _ _) rfl) ?_
      first
       | refine s1 rfl (lop_fieldAddr_rf (fo := 1) rfl Try.underlying30 rfl rfl Try.sizeOf3 (by decide)) ?_
       | refine s1 rfl (lop_fieldAddr_fp (fo := 1) rfl Try.underlying30 rfl rfl Try.sizeOf3 (by decide) rfl) ?_
      first
       | refine s1 rfl (lop_load_rf rfl rfl Try.isAgg3 rfl) ?_
       | refine s1 rfl (lop_load_fp rfl Try.isAgg3 rfl) ?_
      first
       | refine s1 rfl (lop_fieldAddr_rf (fo := 2) rfl Try.underlying30 rfl rfl Try.sizeOf3 (by decide)) ?_
       | refine s1 rfl (lop_fieldAddr_fp (fo := 2) rfl Try.underlying30 rfl rfl Try.sizeOf3 (by decide) rfl) ?_
      first
       | refine s1 rfl (lop_load_rf rfl rfl Try.isAgg3 rfl) ?_
       | refine s1 rfl (lop_load_fp rfl Try.isAgg3 rfl) ?_
      first
       | refine s1 rfl (lop_load_rf_agg (ys := [.int _ _, .int _ _, .int _ _, .int _ _, .int _ _, .bool _]) rfl rfl Try.isAgg35 Try.sizeOf35 (Nat.le_of_ble_eq_true rfl) rfl) ?_
       | refine s1 rfl (lop_load_fp_agg (ys := [.int _ _, .int _ _, .int _ _, .int _ _, .int _ _, .bool _]) rfl Try.isAgg35 Try.sizeOf35 (Nat.le_of_ble_eq_true rfl) rfl) ?_
      refine s1 rfl (lop_buildK (cs := [.int _ _, .int _ _, .int _ _, .int _ _, .int _ _, .int _ _, .int _ _, .bool _]) Try.underlying39 Try.zeroValue39 rfl rfl places39 rfl) ?_
      refine s1 rfl (lop_call rfl Try.call27 (FrzL.tf rfl) (.inl rfl) (set_Sess_ac (l := (doesF x c).1.last) (by omega) (i := (lastF (doesF x c).1 c.client).2) (lastF_lt _ _) ⟨c.client, c.seq, (doesF x c).2⟩)) ?_
      first
       | refine s1 rfl (lop_fieldAddr_rf (fo := 2) rfl Try.underlying26 rfl rfl Try.sizeOf24 (by decide)) ?_
       | refine s1 rfl (lop_fieldAddr_fp (fo := 2) rfl Try.underlying26 rfl rfl Try.sizeOf24 (by decide) rfl) ?_
      first
       | refine s0w rfl (lop_storeK (v := .sl _ _) (cs' := [_, _, _]) (f' := true) rfl rfl rfl Try.sizeOf24 rfl rfl rfl rfl rfl) ?_
       | refine s0w rfl (lop_storeK (v := .os _ _ _ _) (cs' := [_, _, _]) (f' := true) rfl rfl rfl Try.sizeOf24 rfl rfl rfl rfl rfl) ?_
       | refine s0w rfl (lop_storeK (v := .z0) (cs' := [_, _, _]) (f' := true) rfl rfl rfl Try.sizeOf24 rfl rfl rfl rfl rfl) ?_
       | refine s0w rfl (lop_storeK (v := .sl _ _) (cs' := [_, _, _]) (f' := false) rfl rfl rfl Try.sizeOf24 rfl rfl rfl rfl rfl) ?_
       | refine s0w rfl (lop_storeK (v := .os _ _ _ _) (cs' := [_, _, _]) (f' := false) rfl rfl rfl Try.sizeOf24 rfl rfl rfl rfl rfl) ?_
       | refine s0w rfl (lop_storeK (v := .z0) (cs' := [_, _, _]) (f' := false) rfl rfl rfl Try.sizeOf24 rfl rfl rfl rfl rfl) ?_
      refine ops_nil ?_
      refine ok_drw Try.mixed ?_
      first
       | refine d1 rfl rfl (lop_load_rf_agg (ys := [_, _, _]) rfl rfl Try.isAgg26 Try.sizeOf26 (Nat.le_of_ble_eq_true rfl) rfl) ?_
       | refine d1 rfl rfl (lop_load_fp_agg (ys := [_, _, _]) rfl Try.isAgg26 Try.sizeOf26 (Nat.le_of_ble_eq_true rfl) rfl) ?_
      first
       | refine d1 rfl rfl (lop_load_rf_agg (ys := [.int _ _, .int _ _, .int _ _, .int _ _, .int _ _, .bool _]) rfl rfl Try.isAgg35 Try.sizeOf35 (Nat.le_of_ble_eq_true rfl) rfl) ?_
       | refine d1 rfl rfl (lop_load_fp_agg (ys := [.int _ _, .int _ _, .int _ _, .int _ _, .int _ _, .bool _]) rfl Try.isAgg35 Try.sizeOf35 (Nat.le_of_ble_eq_true rfl) rfl) ?_
      first
       | refine d0w rfl rfl (lop_storeK (v := .agg [_, _, _]) (cs' := [_, _, _]) (f' := true) rfl rfl rfl Try.sizeOf26 rfl rfl rfl rfl rfl) ?_
       | refine d0w rfl rfl (lop_storeK (v := .agg [_, _, _]) (cs' := [_, _, _]) (f' := false) rfl rfl rfl Try.sizeOf26 rfl rfl rfl rfl rfl) ?_
      first
       | refine d0w rfl rfl (lop_storeK (v := .agg [.int _ _, .int _ _, .int _ _, .int _ _, .int _ _, .bool _]) (cs' := [.int _ _, .int _ _, .int _ _, .int _ _, .int _ _, .bool _]) (f' := true) rfl rfl rfl Try.sizeOf35 rfl rfl rfl rfl rfl) ?_
       | refine d0w rfl rfl (lop_storeK (v := .agg [.int _ _, .int _ _, .int _ _, .int _ _, .int _ _, .bool _]) (cs' := [.int _ _, .int _ _, .int _ _, .int _ _, .int _ _, .bool _]) (f' := false) rfl rfl rfl Try.sizeOf35 rfl rfl rfl rfl rfl) ?_
      refine dr_nil (by kernel_rfl) ?_
      refine ok_ret ?_
      first
      | (rw [show doF x c = (x, noR 1) by unfold doF; rw [if_pos (by simpa using h_t13)]]; exact ret_gen (R := [4, 5]) ⟨_, _, rfl, ⟨rfl, 4, 0, _, _, rfl, rfl, .inl ⟨3, Try.isAgg26, Try.sizeOf26, Nat.le_of_ble_eq_true rfl, rfl⟩⟩, _, _, rfl, ⟨rfl, 5, 0, _, _, rfl, rfl, .inl ⟨6, Try.isAgg35, Try.sizeOf35, Nat.le_of_ble_eq_true rfl, rfl⟩⟩, rfl⟩ (.tup (.cons (.agg (FrzL.tf rfl)) (.cons (.agg (FrzL.tf rfl)) .nil))) (fun t ht => by simp at ht; rcases ht with rfl | rfl <;> exact Option.some_ne_none _))
      | (rw [show doF x c = (x, (lastF x c.client).1.reply) by unfold doF; rw [if_neg hml, if_pos (by omega)]]; exact ret_gen (R := [4, 5]) ⟨_, _, rfl, ⟨rfl, 4, 0, _, _, rfl, rfl, .inl ⟨3, Try.isAgg26, Try.sizeOf26, Nat.le_of_ble_eq_true rfl, rfl⟩⟩, _, _, rfl, ⟨rfl, 5, 0, _, _, rfl, rfl, .inl ⟨6, Try.isAgg35, Try.sizeOf35, Nat.le_of_ble_eq_true rfl, rfl⟩⟩, rfl⟩ (.tup (.cons (.agg (FrzL.tf rfl)) (.cons (.agg (FrzL.tf rfl)) .nil))) (fun t ht => by simp at ht; rcases ht with rfl | rfl <;> exact Option.some_ne_none _))
      | (rw [show doF x c = (x, noR 9) by unfold doF; rw [if_neg hml, if_neg (by omega), if_pos (by omega)]]; exact ret_gen (R := [4, 5]) ⟨_, _, rfl, ⟨rfl, 4, 0, _, _, rfl, rfl, .inl ⟨3, Try.isAgg26, Try.sizeOf26, Nat.le_of_ble_eq_true rfl, rfl⟩⟩, _, _, rfl, ⟨rfl, 5, 0, _, _, rfl, rfl, .inl ⟨6, Try.isAgg35, Try.sizeOf35, Nat.le_of_ble_eq_true rfl, rfl⟩⟩, rfl⟩ (.tup (.cons (.agg (FrzL.tf rfl)) (.cons (.agg (FrzL.tf rfl)) .nil))) (fun t ht => by simp at ht; rcases ht with rfl | rfl <;> exact Option.some_ne_none _))
      | (rw [show doF x c = (⟨(doesF x c).1.vols, (doesF x c).1.names, setL (doesF x c).1.last (lastF (doesF x c).1 c.client).2 ⟨c.client, c.seq, (doesF x c).2⟩⟩, (doesF x c).2) by unfold doF; rw [if_neg hml, if_neg (by omega), if_neg (by omega), if_pos (by omega)]]; exact ret_gen (R := [4, 5]) ⟨_, _, rfl, ⟨rfl, 4, 0, _, _, rfl, rfl, .inl ⟨3, Try.isAgg26, Try.sizeOf26, Nat.le_of_ble_eq_true rfl, rfl⟩⟩, _, _, rfl, ⟨rfl, 5, 0, _, _, rfl, rfl, .inl ⟨6, Try.isAgg35, Try.sizeOf35, Nat.le_of_ble_eq_true rfl, rfl⟩⟩, rfl⟩ (.tup (.cons (.agg (FrzL.tf rfl)) (.cons (.agg (FrzL.tf rfl)) .nil))) (fun t ht => by simp at ht; rcases ht with rfl | rfl <;> exact Option.some_ne_none _))
      | (rw [show doF x c = (doesF x c) by unfold doF; rw [if_neg hml, if_neg (by omega), if_neg (by omega), if_neg (by omega)]]; exact ret_gen (R := [4, 5]) ⟨_, _, rfl, ⟨rfl, 4, 0, _, _, rfl, rfl, .inl ⟨3, Try.isAgg26, Try.sizeOf26, Nat.le_of_ble_eq_true rfl, rfl⟩⟩, _, _, rfl, ⟨rfl, 5, 0, _, _, rfl, rfl, .inl ⟨6, Try.isAgg35, Try.sizeOf35, Nat.le_of_ble_eq_true rfl, rfl⟩⟩, rfl⟩ (.tup (.cons (.agg (FrzL.tf rfl)) (.cons (.agg (FrzL.tf rfl)) .nil))) (fun t ht => by simp at ht; rcases ht with rfl | rfl <;> exact Option.some_ne_none _))
     ·refine ok_skip ?_
      refine ok_drw Try.mixed ?_
      first
       | refine d1 rfl rfl (lop_load_rf_agg (ys := [_, _, _]) rfl rfl Try.isAgg26 Try.sizeOf26 (Nat.le_of_ble_eq_true rfl) rfl) ?_
       | refine d1 rfl rfl (lop_load_fp_agg (ys := [_, _, _]) rfl Try.isAgg26 Try.sizeOf26 (Nat.le_of_ble_eq_true rfl) rfl) ?_
      first
       | refine d1 rfl rfl (lop_load_rf_agg (ys := [.int _ _, .int _ _, .int _ _, .int _ _, .int _ _, .bool _]) rfl rfl Try.isAgg35 Try.sizeOf35 (Nat.le_of_ble_eq_true rfl) rfl) ?_
       | refine d1 rfl rfl (lop_load_fp_agg (ys := [.int _ _, .int _ _, .int _ _, .int _ _, .int _ _, .bool _]) rfl Try.isAgg35 Try.sizeOf35 (Nat.le_of_ble_eq_true rfl) rfl) ?_
      first
       | refine d0w rfl rfl (lop_storeK (v := .agg [_, _, _]) (cs' := [_, _, _]) (f' := true) rfl rfl rfl Try.sizeOf26 rfl rfl rfl rfl rfl) ?_
       | refine d0w rfl rfl (lop_storeK (v := .agg [_, _, _]) (cs' := [_, _, _]) (f' := false) rfl rfl rfl Try.sizeOf26 rfl rfl rfl rfl rfl) ?_
      first
       | refine d0w rfl rfl (lop_storeK (v := .agg [.int _ _, .int _ _, .int _ _, .int _ _, .int _ _, .bool _]) (cs' := [.int _ _, .int _ _, .int _ _, .int _ _, .int _ _, .bool _]) (f' := true) rfl rfl rfl Try.sizeOf35 rfl rfl rfl rfl rfl) ?_
       | refine d0w rfl rfl (lop_storeK (v := .agg [.int _ _, .int _ _, .int _ _, .int _ _, .int _ _, .bool _]) (cs' := [.int _ _, .int _ _, .int _ _, .int _ _, .int _ _, .bool _]) (f' := false) rfl rfl rfl Try.sizeOf35 rfl rfl rfl rfl rfl) ?_
      refine dr_nil (by kernel_rfl) ?_
      refine ok_ret ?_
      first
      | (rw [show doF x c = (x, noR 1) by unfold doF; rw [if_pos (by simpa using h_t13)]]; exact ret_gen (R := [4, 5]) ⟨_, _, rfl, ⟨rfl, 4, 0, _, _, rfl, rfl, .inl ⟨3, Try.isAgg26, Try.sizeOf26, Nat.le_of_ble_eq_true rfl, rfl⟩⟩, _, _, rfl, ⟨rfl, 5, 0, _, _, rfl, rfl, .inl ⟨6, Try.isAgg35, Try.sizeOf35, Nat.le_of_ble_eq_true rfl, rfl⟩⟩, rfl⟩ (.tup (.cons (.agg (FrzL.tf rfl)) (.cons (.agg (FrzL.tf rfl)) .nil))) (fun t ht => by simp at ht; rcases ht with rfl | rfl <;> exact Option.some_ne_none _))
      | (rw [show doF x c = (x, (lastF x c.client).1.reply) by unfold doF; rw [if_neg hml, if_pos (by omega)]]; exact ret_gen (R := [4, 5]) ⟨_, _, rfl, ⟨rfl, 4, 0, _, _, rfl, rfl, .inl ⟨3, Try.isAgg26, Try.sizeOf26, Nat.le_of_ble_eq_true rfl, rfl⟩⟩, _, _, rfl, ⟨rfl, 5, 0, _, _, rfl, rfl, .inl ⟨6, Try.isAgg35, Try.sizeOf35, Nat.le_of_ble_eq_true rfl, rfl⟩⟩, rfl⟩ (.tup (.cons (.agg (FrzL.tf rfl)) (.cons (.agg (FrzL.tf rfl)) .nil))) (fun t ht => by simp at ht; rcases ht with rfl | rfl <;> exact Option.some_ne_none _))
      | (rw [show doF x c = (x, noR 9) by unfold doF; rw [if_neg hml, if_neg (by omega), if_pos (by omega)]]; exact ret_gen (R := [4, 5]) ⟨_, _, rfl, ⟨rfl, 4, 0, _, _, rfl, rfl, .inl ⟨3, Try.isAgg26, Try.sizeOf26, Nat.le_of_ble_eq_true rfl, rfl⟩⟩, _, _, rfl, ⟨rfl, 5, 0, _, _, rfl, rfl, .inl ⟨6, Try.isAgg35, Try.sizeOf35, Nat.le_of_ble_eq_true rfl, rfl⟩⟩, rfl⟩ (.tup (.cons (.agg (FrzL.tf rfl)) (.cons (.agg (FrzL.tf rfl)) .nil))) (fun t ht => by simp at ht; rcases ht with rfl | rfl <;> exact Option.some_ne_none _))
      | (rw [show doF x c = (⟨(doesF x c).1.vols, (doesF x c).1.names, setL (doesF x c).1.last (lastF (doesF x c).1 c.client).2 ⟨c.client, c.seq, (doesF x c).2⟩⟩, (doesF x c).2) by unfold doF; rw [if_neg hml, if_neg (by omega), if_neg (by omega), if_pos (by omega)]]; exact ret_gen (R := [4, 5]) ⟨_, _, rfl, ⟨rfl, 4, 0, _, _, rfl, rfl, .inl ⟨3, Try.isAgg26, Try.sizeOf26, Nat.le_of_ble_eq_true rfl, rfl⟩⟩, _, _, rfl, ⟨rfl, 5, 0, _, _, rfl, rfl, .inl ⟨6, Try.isAgg35, Try.sizeOf35, Nat.le_of_ble_eq_true rfl, rfl⟩⟩, rfl⟩ (.tup (.cons (.agg (FrzL.tf rfl)) (.cons (.agg (FrzL.tf rfl)) .nil))) (fun t ht => by simp at ht; rcases ht with rfl | rfl <;> exact Option.some_ne_none _))
      | (rw [show doF x c = (doesF x c) by unfold doF; rw [if_neg hml, if_neg (by omega), if_neg (by omega), if_neg (by omega)]]; exact ret_gen (R := [4, 5]) ⟨_, _, rfl, ⟨rfl, 4, 0, _, _, rfl, rfl, .inl ⟨3, Try.isAgg26, Try.sizeOf26, Nat.le_of_ble_eq_true rfl, rfl⟩⟩, _, _, rfl, ⟨rfl, 5, 0, _, _, rfl, rfl, .inl ⟨6, Try.isAgg35, Try.sizeOf35, Nat.le_of_ble_eq_true rfl, rfl⟩⟩, rfl⟩ (.tup (.cons (.agg (FrzL.tf rfl)) (.cons (.agg (FrzL.tf rfl)) .nil))) (fun t ht => by simp at ht; rcases ht with rfl | rfl <;> exact Option.some_ne_none _))
  ·refine n1 rfl rfl g4_3 ?_
   first
    | refine s1 rfl (lop_pick_f (v := .bool _) rfl g4_3 rfl) ?_
    | refine s1 rfl (lop_pick_t (v := .bool _) rfl rfl rfl) ?_
    | refine s1 rfl (lop_pick_f (v := .bool _) rfl rfl rfl) ?_
    | refine s1 rfl (lop_pick rfl rfl rfl) ?_
   refine s1 rfl (lop_move (v := .bool _) rfl) ?_
   refine n1 rfl rfl rfl ?_
   refine n1 rfl rfl rfl ?_
   refine n1 rfl rfl rfl ?_
   refine n1 rfl rfl rfl ?_
   refine n1 rfl rfl rfl ?_
   first
    | refine s1 rfl (lop_pick_f (v := .bool _) rfl g4_3 rfl) ?_
    | refine s1 rfl (lop_pick_f (v := .bool _) rfl rfl rfl) ?_
    | refine s1 rfl (lop_pick_t (v := .bool _) rfl rfl rfl) ?_
    | refine s1 rfl (lop_pick_f (v := .bool _) rfl rfl rfl) ?_
    | refine s1 rfl (lop_pick rfl rfl rfl) ?_
   refine s1 rfl (lop_assign (v := .bool _) rfl) ?_
   refine ops_nil ?_
   refine ok_false rfl rfl ?_
   refine ok_reg ?_
   first
    | refine s1 rfl (lop_fieldAddr_rf (fo := 1) rfl Try.underlying30 rfl rfl Try.sizeOf3 (by decide)) ?_
    | refine s1 rfl (lop_fieldAddr_fp (fo := 1) rfl Try.underlying30 rfl rfl Try.sizeOf3 (by decide) rfl) ?_
   first
    | refine s1 rfl (lop_load_rf rfl rfl Try.isAgg3 rfl) ?_
    | refine s1 rfl (lop_load_fp rfl Try.isAgg3 rfl) ?_
   refine s1 rfl (lop_gtr rfl rfl) ?_
   refine s1 rfl (lop_move (v := .bool _) rfl) ?_
   first
    | refine gsplitP 3 rfl rfl (fun g6_3 p6_3 => ?_) (fun g6_3 p6_3 => ?_)
    | refine gsplitB 3 rfl rfl (fun g6_3 p6_3 => ?_) (fun g6_3 p6_3 => ?_)
   ·refine y1 rfl rfl g6_3 rfl (lop_move (v := .bool _) rfl) ?_
    first
     | refine s1 rfl (lop_pick_t (v := .bool _) rfl g6_3 rfl) ?_
     | refine s1 rfl (lop_pick_t (v := .bool _) rfl rfl rfl) ?_
     | refine s1 rfl (lop_pick_f (v := .bool _) rfl rfl rfl) ?_
     | refine s1 rfl (lop_pick rfl rfl rfl) ?_
    refine s1 rfl (lop_move (v := .bool _) rfl) ?_
    first
     | refine gsplitP 6 rfl rfl (fun g6_6 p6_6 => ?_) (fun g6_6 p6_6 => ?_)
     | refine gsplitB 6 rfl rfl (fun g6_6 p6_6 => ?_) (fun g6_6 p6_6 => ?_)
    ·first
      | refine y1 rfl rfl g6_6 rfl (lop_fieldAddr_rf (fo := 1) rfl Try.underlying39 rfl rfl Try.sizeOf3 (by decide)) ?_
      | refine y1 rfl rfl g6_6 rfl (lop_fieldAddr_fp (fo := 1) rfl Try.underlying39 rfl rfl Try.sizeOf3 (by decide) rfl) ?_
     first
      | refine y1 rfl rfl g6_6 rfl (lop_load_rf rfl rfl Try.isAgg3 rfl) ?_
      | refine y1 rfl rfl g6_6 rfl (lop_load_fp rfl Try.isAgg3 rfl) ?_
     first
      | refine y1 rfl rfl g6_6 rfl (lop_fieldAddr_rf (fo := 2) rfl Try.underlying30 rfl rfl Try.sizeOf3 (by decide)) ?_
      | refine y1 rfl rfl g6_6 rfl (lop_fieldAddr_fp (fo := 2) rfl Try.underlying30 rfl rfl Try.sizeOf3 (by decide) rfl) ?_
     first
      | refine y1 rfl rfl g6_6 rfl (lop_load_rf rfl rfl Try.isAgg3 rfl) ?_
      | refine y1 rfl rfl g6_6 rfl (lop_load_fp rfl Try.isAgg3 rfl) ?_
     refine y1 rfl rfl g6_6 rfl (lop_gtr rfl rfl) ?_
     first
      | refine s1 rfl (lop_pick_t (v := .bool _) rfl g6_3 rfl) ?_
      | refine s1 rfl (lop_pick_t (v := .bool _) rfl g6_6 rfl) ?_
      | refine s1 rfl (lop_pick_t (v := .bool _) rfl rfl rfl) ?_
      | refine s1 rfl (lop_pick_f (v := .bool _) rfl rfl rfl) ?_
      | refine s1 rfl (lop_pick rfl rfl rfl) ?_
     refine s1 rfl (lop_assign (v := .bool _) rfl) ?_
     refine ops_nil ?_
     first
      | refine ok_if _ rfl rfl (fun h_t40 => ?_) (fun h_t40 => ?_)
      | refine ok_cond rfl rfl (fun h_t40 => ?_) (fun h_t40 => ?_)
     ·refine ok_drw Try.mixed ?_
      first
       | refine d1 rfl rfl (lop_load_rf_agg (ys := [_, _, _]) rfl rfl Try.isAgg26 Try.sizeOf26 (Nat.le_of_ble_eq_true rfl) rfl) ?_
       | refine d1 rfl rfl (lop_load_fp_agg (ys := [_, _, _]) rfl Try.isAgg26 Try.sizeOf26 (Nat.le_of_ble_eq_true rfl) rfl) ?_
      refine d1 rfl rfl (lop_call rfl Try.call23 (FrzL.tf rfl) (.inl rfl) (no_ac 9)) ?_
      first
       | refine d0w rfl rfl (lop_storeK (v := .agg [_, _, _]) (cs' := [_, _, _]) (f' := true) rfl rfl rfl Try.sizeOf26 rfl rfl rfl rfl rfl) ?_
       | refine d0w rfl rfl (lop_storeK (v := .agg [_, _, _]) (cs' := [_, _, _]) (f' := false) rfl rfl rfl Try.sizeOf26 rfl rfl rfl rfl rfl) ?_
      first
       | refine d0w rfl rfl (lop_storeK (v := .agg [.int _ _, .int _ _, .int _ _, .int _ _, .int _ _, .bool _]) (cs' := [.int _ _, .int _ _, .int _ _, .int _ _, .int _ _, .bool _]) (f' := true) rfl rfl rfl Try.sizeOf35 rfl rfl rfl rfl rfl) ?_
       | refine d0w rfl rfl (lop_storeK (v := .agg [.int _ _, .int _ _, .int _ _, .int _ _, .int _ _, .bool _]) (cs' := [.int _ _, .int _ _, .int _ _, .int _ _, .int _ _, .bool _]) (f' := false) rfl rfl rfl Try.sizeOf35 rfl rfl rfl rfl rfl) ?_
      refine dr_nil (by kernel_rfl) ?_
      refine ok_ret ?_
      first
      | (rw [show doF x c = (x, noR 1) by unfold doF; rw [if_pos (by simpa using h_t13)]]; exact ret_gen (R := [4, 5]) ⟨_, _, rfl, ⟨rfl, 4, 0, _, _, rfl, rfl, .inl ⟨3, Try.isAgg26, Try.sizeOf26, Nat.le_of_ble_eq_true rfl, rfl⟩⟩, _, _, rfl, ⟨rfl, 5, 0, _, _, rfl, rfl, .inl ⟨6, Try.isAgg35, Try.sizeOf35, Nat.le_of_ble_eq_true rfl, rfl⟩⟩, rfl⟩ (.tup (.cons (.agg (FrzL.tf rfl)) (.cons (.agg (FrzL.tf rfl)) .nil))) (fun t ht => by simp at ht; rcases ht with rfl | rfl <;> exact Option.some_ne_none _))
      | (rw [show doF x c = (x, (lastF x c.client).1.reply) by unfold doF; rw [if_neg hml, if_pos (by omega)]]; exact ret_gen (R := [4, 5]) ⟨_, _, rfl, ⟨rfl, 4, 0, _, _, rfl, rfl, .inl ⟨3, Try.isAgg26, Try.sizeOf26, Nat.le_of_ble_eq_true rfl, rfl⟩⟩, _, _, rfl, ⟨rfl, 5, 0, _, _, rfl, rfl, .inl ⟨6, Try.isAgg35, Try.sizeOf35, Nat.le_of_ble_eq_true rfl, rfl⟩⟩, rfl⟩ (.tup (.cons (.agg (FrzL.tf rfl)) (.cons (.agg (FrzL.tf rfl)) .nil))) (fun t ht => by simp at ht; rcases ht with rfl | rfl <;> exact Option.some_ne_none _))
      | (rw [show doF x c = (x, noR 9) by unfold doF; rw [if_neg hml, if_neg (by omega), if_pos (by omega)]]; exact ret_gen (R := [4, 5]) ⟨_, _, rfl, ⟨rfl, 4, 0, _, _, rfl, rfl, .inl ⟨3, Try.isAgg26, Try.sizeOf26, Nat.le_of_ble_eq_true rfl, rfl⟩⟩, _, _, rfl, ⟨rfl, 5, 0, _, _, rfl, rfl, .inl ⟨6, Try.isAgg35, Try.sizeOf35, Nat.le_of_ble_eq_true rfl, rfl⟩⟩, rfl⟩ (.tup (.cons (.agg (FrzL.tf rfl)) (.cons (.agg (FrzL.tf rfl)) .nil))) (fun t ht => by simp at ht; rcases ht with rfl | rfl <;> exact Option.some_ne_none _))
      | (rw [show doF x c = (⟨(doesF x c).1.vols, (doesF x c).1.names, setL (doesF x c).1.last (lastF (doesF x c).1 c.client).2 ⟨c.client, c.seq, (doesF x c).2⟩⟩, (doesF x c).2) by unfold doF; rw [if_neg hml, if_neg (by omega), if_neg (by omega), if_pos (by omega)]]; exact ret_gen (R := [4, 5]) ⟨_, _, rfl, ⟨rfl, 4, 0, _, _, rfl, rfl, .inl ⟨3, Try.isAgg26, Try.sizeOf26, Nat.le_of_ble_eq_true rfl, rfl⟩⟩, _, _, rfl, ⟨rfl, 5, 0, _, _, rfl, rfl, .inl ⟨6, Try.isAgg35, Try.sizeOf35, Nat.le_of_ble_eq_true rfl, rfl⟩⟩, rfl⟩ (.tup (.cons (.agg (FrzL.tf rfl)) (.cons (.agg (FrzL.tf rfl)) .nil))) (fun t ht => by simp at ht; rcases ht with rfl | rfl <;> exact Option.some_ne_none _))
      | (rw [show doF x c = (doesF x c) by unfold doF; rw [if_neg hml, if_neg (by omega), if_neg (by omega), if_neg (by omega)]]; exact ret_gen (R := [4, 5]) ⟨_, _, rfl, ⟨rfl, 4, 0, _, _, rfl, rfl, .inl ⟨3, Try.isAgg26, Try.sizeOf26, Nat.le_of_ble_eq_true rfl, rfl⟩⟩, _, _, rfl, ⟨rfl, 5, 0, _, _, rfl, rfl, .inl ⟨6, Try.isAgg35, Try.sizeOf35, Nat.le_of_ble_eq_true rfl, rfl⟩⟩, rfl⟩ (.tup (.cons (.agg (FrzL.tf rfl)) (.cons (.agg (FrzL.tf rfl)) .nil))) (fun t ht => by simp at ht; rcases ht with rfl | rfl <;> exact Option.some_ne_none _))
     ·refine ok_skip ?_
      refine ok_reg ?_
      first
       | refine s1 rfl (lop_load_rf_agg (ys := [_, _, _]) rfl rfl Try.isAgg26 Try.sizeOf26 (Nat.le_of_ble_eq_true rfl) rfl) ?_
       | refine s1 rfl (lop_load_fp_agg (ys := [_, _, _]) rfl Try.isAgg26 Try.sizeOf26 (Nat.le_of_ble_eq_true rfl) rfl) ?_
      first
       | refine s1 rfl (lop_load_rf_agg (ys := [.int _ _, .int _ _, .int _ _, .str _, .int _ _, .int _ _, .int _ _, .int _ _, .int _ _, .int _ _, .int _ _, _]) rfl rfl Try.isAgg30 Try.sizeOf30 (Nat.le_of_ble_eq_true rfl) rfl) ?_
       | refine s1 rfl (lop_load_fp_agg (ys := [.int _ _, .int _ _, .int _ _, .str _, .int _ _, .int _ _, .int _ _, .int _ _, .int _ _, .int _ _, .int _ _, _]) rfl Try.isAgg30 Try.sizeOf30 (Nat.le_of_ble_eq_true rfl) rfl) ?_
      refine s1 rfl (lop_call rfl Try.call24 (FrzL.tf rfl) (.inl rfl) (does_ac hx hm)) ?_
      refine s1 rfl (lop_move (v := .tup _) rfl) ?_
      refine s1 rfl (lop_extract rfl rfl) ?_
      refine s1 rfl (lop_extract rfl rfl) ?_
      refine s1w rfl (lop_new (t := 8) (cs := [.int _ _, .int _ _, .int _ _, .int _ _, .int _ _, .bool _]) Try.zeroValue35 rfl rfl rfl rfl) rfl ?_
      first
       | refine s0w rfl (lop_storeK (v := .agg [_, _, _]) (cs' := [_, _, _]) (f' := true) rfl rfl rfl Try.sizeOf26 rfl rfl rfl rfl rfl) ?_
       | refine s0w rfl (lop_storeK (v := .agg [_, _, _]) (cs' := [_, _, _]) (f' := false) rfl rfl rfl Try.sizeOf26 rfl rfl rfl rfl rfl) ?_
      first
       | refine s0w rfl (lop_storeK (v := .agg [.int _ _, .int _ _, .int _ _, .int _ _, .int _ _, .bool _]) (cs' := [.int _ _, .int _ _, .int _ _, .int _ _, .int _ _, .bool _]) (f' := true) rfl rfl rfl Try.sizeOf35 rfl rfl rfl rfl rfl) ?_
       | refine s0w rfl (lop_storeK (v := .agg [.int _ _, .int _ _, .int _ _, .int _ _, .int _ _, .bool _]) (cs' := [.int _ _, .int _ _, .int _ _, .int _ _, .int _ _, .bool _]) (f' := false) rfl rfl rfl Try.sizeOf35 rfl rfl rfl rfl rfl) ?_
      refine ops_nil ?_
      refine ok_seq ?_
      refine ok_reg ?_
      first
       | refine s1 rfl (lop_fieldAddr_rf (fo := 1) rfl Try.underlying30 rfl rfl Try.sizeOf3 (by decide)) ?_
       | refine s1 rfl (lop_fieldAddr_fp (fo := 1) rfl Try.underlying30 rfl rfl Try.sizeOf3 (by decide) rfl) ?_
      first
       | refine s1 rfl (lop_load_rf rfl rfl Try.isAgg3 rfl) ?_
       | refine s1 rfl (lop_load_fp rfl Try.isAgg3 rfl) ?_
      refine s1 rfl (lop_gtr rfl rfl) ?_
      refine ops_nil ?_
      first
       | refine ok_if _ rfl rfl (fun h_t64 => ?_) (fun h_t64 => ?_)
       | refine ok_cond rfl rfl (fun h_t64 => ?_) (fun h_t64 => ?_)
      ·refine ok_reg ?_
       first
        | refine s1 rfl (lop_fieldAddr_rf (fo := 2) rfl Try.underlying26 rfl rfl Try.sizeOf24 (by decide)) ?_
        | refine s1 rfl (lop_fieldAddr_fp (fo := 2) rfl Try.underlying26 rfl rfl Try.sizeOf24 (by decide) rfl) ?_
       first
        | refine s1 rfl (lop_load_rf rfl rfl Try.isAgg24 rfl) ?_
        | refine s1 rfl (lop_load_fp rfl Try.isAgg24 rfl) ?_
       first
        | refine s1 rfl (lop_func (vs := [.rf _ _]) rfl) ?_
        | refine s1 rfl (lop_func (vs := [.fp _]) rfl) ?_
       refine ops_le (T := ⟨[(2, .rf 2 0), (3, .fp c.enc), (4, .rf 4 0), (5, .rf 5 0), (8, .rf 8 0), (67, rowOf SessD.enc (doesF x c).1.last), (68, .fn 26 [.fp c.enc])], [(2, some (true, (doesF x c).1.enc)), (4, some (true, [.z0, .z0, .z0])), (5, some (true, ReplyD.zero.enc)), (8, some (true, (doesF x c).2.enc))], 85⟩) (le_frz [3] ⟨.inl ⟨rfl, rfl⟩, .inr (fz_sound _ [3] _ rfl), .inl ⟨rfl, rfl⟩, .inl ⟨rfl, rfl⟩, .inl ⟨rfl, rfl⟩, .inl ⟨rfl, rfl⟩, .inr (fz_sound _ [3] _ rfl), trivial⟩ ⟨.inr ⟨rfl, rfl, trivial⟩, .inr ⟨rfl, rfl, trivial⟩, .inr ⟨rfl, rfl, trivial⟩, .inr ⟨rfl, rfl, trivial⟩, trivial⟩ (fun t ht => by simp at ht; subst ht; exact Option.some_ne_none _) rfl) ?_
       refine s1 rfl (lop_call rfl Try.call25 (FrzL.tf rfl) (.inl rfl) (find_Sess_ac (p := fun s => decide (s.client = c.client)) (l := (doesF x c).1.last) (by omega) Try.call26 rfl (fun y _ => do1_ac y c))) ?_
       refine s1 rfl (lop_move (v := .tup _) rfl) ?_
       refine s1 rfl (lop_extract rfl rfl) ?_
       refine s1 rfl (lop_extract rfl rfl) ?_
       refine s1w rfl (lop_new (t := 9) (cs := [.int _ _, .int _ _, .int _ _, .int _ _, .int _ _, .int _ _, .int _ _, .bool _]) Try.zeroValue39 rfl rfl rfl rfl) rfl ?_
       first
        | refine s0w rfl (lop_storeK (v := .agg [.int _ _, .int _ _, .int _ _, .int _ _, .int _ _, .int _ _, .int _ _, .bool _]) (cs' := [.int _ _, .int _ _, .int _ _, .int _ _, .int _ _, .int _ _, .int _ _, .bool _]) (f' := true) rfl rfl rfl Try.sizeOf39 rfl rfl rfl rfl rfl) ?_
        | refine s0w rfl (lop_storeK (v := .agg [.int _ _, .int _ _, .int _ _, .int _ _, .int _ _, .int _ _, .int _ _, .bool _]) (cs' := [.int _ _, .int _ _, .int _ _, .int _ _, .int _ _, .int _ _, .int _ _, .bool _]) (f' := false) rfl rfl rfl Try.sizeOf39 rfl rfl rfl rfl rfl) ?_
       refine s1 rfl (lop_assign (v := .int _ _) rfl) ?_
       refine ops_nil ?_
       refine ok_region ?_
       first
        | refine s1 rfl (lop_fieldAddr_rf (fo := 2) rfl Try.underlying26 rfl rfl Try.sizeOf24 (by decide)) ?_
        | refine s1 rfl (lop_fieldAddr_fp (fo := 2) rfl Try.underlying26 rfl rfl Try.sizeOf24 (by decide) rfl) ?_
       first
        | refine s1 rfl (lop_load_rf rfl rfl Try.isAgg24 rfl) ?_
        | refine s1 rfl (lop_load_fp rfl Try.isAgg24 rfl) ?_
       refine s1 rfl (lop_move (v := .int _ _) rfl) ?_
       first
        | refine s1 rfl (lop_fieldAddr_rf (fo := 1) rfl Try.underlying30 rfl rfl Try.sizeOf3 (by decide)) ?_
        | refine s1 rfl (lop_fieldAddr_fp (fo := 1) rfl Try.underlying30 rfl rfl Try.sizeOf3 (by decide) rfl) ?_
       first
        | refine s1 rfl (lop_load_rf rfl rfl Try.isAgg3 rfl) ?_
        | refine s1 rfl (lop_load_fp rfl Try.isAgg3 rfl) ?_
       first
        | refine s1 rfl (lop_fieldAddr_rf (fo := 2) rfl Try.underlying30 rfl rfl Try.sizeOf3 (by decide)) ?_
        | refine s1 rfl (lop_fieldAddr_fp (fo := 2) rfl Try.underlying30 rfl rfl Try.sizeOf3 (by decide) rfl) ?_
       first
        | refine s1 rfl (lop_load_rf rfl rfl Try.isAgg3 rfl) ?_
        | refine s1 rfl (lop_load_fp rfl Try.isAgg3 rfl) ?_
       first
        | refine s1 rfl (lop_load_rf_agg (ys := [.int _ _, .int _ _, .int _ _, .int _ _, .int _ _, .bool _]) rfl rfl Try.isAgg35 Try.sizeOf35 (Nat.le_of_ble_eq_true rfl) rfl) ?_
        | refine s1 rfl (lop_load_fp_agg (ys := [.int _ _, .int _ _, .int _ _, .int _ _, .int _ _, .bool _]) rfl Try.isAgg35 Try.sizeOf35 (Nat.le_of_ble_eq_true rfl) rfl) ?_
       refine s1 rfl (lop_buildK (cs := [.int _ _, .int _ _, .int _ _, .int _ _, .int _ _, .int _ _, .int _ _, .bool _]) Try.underlying39 Try.zeroValue39 rfl rfl places39 rfl) ?_
       refine s1 rfl (lop_call rfl Try.call27 (FrzL.tf rfl) (.inl rfl) (set_Sess_ac (l := (doesF x c).1.last) (by omega) (i := (lastF (doesF x c).1 c.client).2) (lastF_lt _ _) ⟨c.client, c.seq, (doesF x c).2⟩)) ?_
       first
        | refine s1 rfl (lop_fieldAddr_rf (fo := 2) rfl Try.underlying26 rfl rfl Try.sizeOf24 (by decide)) ?_
        | refine s1 rfl (lop_fieldAddr_fp (fo := 2) rfl Try.underlying26 rfl rfl Try.sizeOf24 (by decide) rfl) ?_
       first
        | refine s0w rfl (lop_storeK (v := .sl _ _) (cs' := [_, _, _]) (f' := true) rfl rfl rfl Try.sizeOf24 rfl rfl rfl rfl rfl) ?_
        | refine s0w rfl (lop_storeK (v := .os _ _ _ _) (cs' := [_, _, _]) (f' := true) rfl rfl rfl Try.sizeOf24 rfl rfl rfl rfl rfl) ?_
        | refine s0w rfl (lop_storeK (v := .z0) (cs' := [_, _, _]) (f' := true) rfl rfl rfl Try.sizeOf24 rfl rfl rfl rfl rfl) ?_
        | refine s0w rfl (lop_storeK (v := .sl _ _) (cs' := [_, _, _]) (f' := false) rfl rfl rfl Try.sizeOf24 rfl rfl rfl rfl rfl) ?_
        | refine s0w rfl (lop_storeK (v := .os _ _ _ _) (cs' := [_, _, _]) (f' := false) rfl rfl rfl Try.sizeOf24 rfl rfl rfl rfl rfl) ?_
        | refine s0w rfl (lop_storeK (v := .z0) (cs' := [_, _, _]) (f' := false) rfl rfl rfl Try.sizeOf24 rfl rfl rfl rfl rfl) ?_
       refine ops_nil ?_
       refine ok_drw Try.mixed ?_
       first
        | refine d1 rfl rfl (lop_load_rf_agg (ys := [_, _, _]) rfl rfl Try.isAgg26 Try.sizeOf26 (Nat.le_of_ble_eq_true rfl) rfl) ?_
        | refine d1 rfl rfl (lop_load_fp_agg (ys := [_, _, _]) rfl Try.isAgg26 Try.sizeOf26 (Nat.le_of_ble_eq_true rfl) rfl) ?_
       first
        | refine d1 rfl rfl (lop_load_rf_agg (ys := [.int _ _, .int _ _, .int _ _, .int _ _, .int _ _, .bool _]) rfl rfl Try.isAgg35 Try.sizeOf35 (Nat.le_of_ble_eq_true rfl) rfl) ?_
        | refine d1 rfl rfl (lop_load_fp_agg (ys := [.int _ _, .int _ _, .int _ _, .int _ _, .int _ _, .bool _]) rfl Try.isAgg35 Try.sizeOf35 (Nat.le_of_ble_eq_true rfl) rfl) ?_
       first
        | refine d0w rfl rfl (lop_storeK (v := .agg [_, _, _]) (cs' := [_, _, _]) (f' := true) rfl rfl rfl Try.sizeOf26 rfl rfl rfl rfl rfl) ?_
        | refine d0w rfl rfl (lop_storeK (v := .agg [_, _, _]) (cs' := [_, _, _]) (f' := false) rfl rfl rfl Try.sizeOf26 rfl rfl rfl rfl rfl) ?_
       first
        | refine d0w rfl rfl (lop_storeK (v := .agg [.int _ _, .int _ _, .int _ _, .int _ _, .int _ _, .bool _]) (cs' := [.int _ _, .int _ _, .int _ _, .int _ _, .int _ _, .bool _]) (f' := true) rfl rfl rfl Try.sizeOf35 rfl rfl rfl rfl rfl) ?_
        | refine d0w rfl rfl (lop_storeK (v := .agg [.int _ _, .int _ _, .int _ _, .int _ _, .int _ _, .bool _]) (cs' := [.int _ _, .int _ _, .int _ _, .int _ _, .int _ _, .bool _]) (f' := false) rfl rfl rfl Try.sizeOf35 rfl rfl rfl rfl rfl) ?_
       refine dr_nil (by kernel_rfl) ?_
       refine ok_ret ?_
       first
       | (rw [show doF x c = (x, noR 1) by unfold doF; rw [if_pos (by simpa using h_t13)]]; exact ret_gen (R := [4, 5]) ⟨_, _, rfl, ⟨rfl, 4, 0, _, _, rfl, rfl, .inl ⟨3, Try.isAgg26, Try.sizeOf26, Nat.le_of_ble_eq_true rfl, rfl⟩⟩, _, _, rfl, ⟨rfl, 5, 0, _, _, rfl, rfl, .inl ⟨6, Try.isAgg35, Try.sizeOf35, Nat.le_of_ble_eq_true rfl, rfl⟩⟩, rfl⟩ (.tup (.cons (.agg (FrzL.tf rfl)) (.cons (.agg (FrzL.tf rfl)) .nil))) (fun t ht => by simp at ht; rcases ht with rfl | rfl <;> exact Option.some_ne_none _))
       | (rw [show doF x c = (x, (lastF x c.client).1.reply) by unfold doF; rw [if_neg hml, if_pos (by omega)]]; exact ret_gen (R := [4, 5]) ⟨_, _, rfl, ⟨rfl, 4, 0, _, _, rfl, rfl, .inl ⟨3, Try.isAgg26, Try.sizeOf26, Nat.le_of_ble_eq_true rfl, rfl⟩⟩, _, _, rfl, ⟨rfl, 5, 0, _, _, rfl, rfl, .inl ⟨6, Try.isAgg35, Try.sizeOf35, Nat.le_of_ble_eq_true rfl, rfl⟩⟩, rfl⟩ (.tup (.cons (.agg (FrzL.tf rfl)) (.cons (.agg (FrzL.tf rfl)) .nil))) (fun t ht => by simp at ht; rcases ht with rfl | rfl <;> exact Option.some_ne_none _))
       | (rw [show doF x c = (x, noR 9) by unfold doF; rw [if_neg hml, if_neg (by omega), if_pos (by omega)]]; exact ret_gen (R := [4, 5]) ⟨_, _, rfl, ⟨rfl, 4, 0, _, _, rfl, rfl, .inl ⟨3, Try.isAgg26, Try.sizeOf26, Nat.le_of_ble_eq_true rfl, rfl⟩⟩, _, _, rfl, ⟨rfl, 5, 0, _, _, rfl, rfl, .inl ⟨6, Try.isAgg35, Try.sizeOf35, Nat.le_of_ble_eq_true rfl, rfl⟩⟩, rfl⟩ (.tup (.cons (.agg (FrzL.tf rfl)) (.cons (.agg (FrzL.tf rfl)) .nil))) (fun t ht => by simp at ht; rcases ht with rfl | rfl <;> exact Option.some_ne_none _))
       | (rw [show doF x c = (⟨(doesF x c).1.vols, (doesF x c).1.names, setL (doesF x c).1.last (lastF (doesF x c).1 c.client).2 ⟨c.client, c.seq, (doesF x c).2⟩⟩, (doesF x c).2) by unfold doF; rw [if_neg hml, if_neg (by omega), if_neg (by omega), if_pos (by omega)]]; exact ret_gen (R := [4, 5]) ⟨_, _, rfl, ⟨rfl, 4, 0, _, _, rfl, rfl, .inl ⟨3, Try.isAgg26, Try.sizeOf26, Nat.le_of_ble_eq_true rfl, rfl⟩⟩, _, _, rfl, ⟨rfl, 5, 0, _, _, rfl, rfl, .inl ⟨6, Try.isAgg35, Try.sizeOf35, Nat.le_of_ble_eq_true rfl, rfl⟩⟩, rfl⟩ (.tup (.cons (.agg (FrzL.tf rfl)) (.cons (.agg (FrzL.tf rfl)) .nil))) (fun t ht => by simp at ht; rcases ht with rfl | rfl <;> exact Option.some_ne_none _))
       | (rw [show doF x c = (doesF x c) by unfold doF; rw [if_neg hml, if_neg (by omega), if_neg (by omega), if_neg (by omega)]]; exact ret_gen (R := [4, 5]) ⟨_, _, rfl, ⟨rfl, 4, 0, _, _, rfl, rfl, .inl ⟨3, Try.isAgg26, Try.sizeOf26, Nat.le_of_ble_eq_true rfl, rfl⟩⟩, _, _, rfl, ⟨rfl, 5, 0, _, _, rfl, rfl, .inl ⟨6, Try.isAgg35, Try.sizeOf35, Nat.le_of_ble_eq_true rfl, rfl⟩⟩, rfl⟩ (.tup (.cons (.agg (FrzL.tf rfl)) (.cons (.agg (FrzL.tf rfl)) .nil))) (fun t ht => by simp at ht; rcases ht with rfl | rfl <;> exact Option.some_ne_none _))
      ·refine ok_skip ?_
       refine ok_drw Try.mixed ?_
       first
        | refine d1 rfl rfl (lop_load_rf_agg (ys := [_, _, _]) rfl rfl Try.isAgg26 Try.sizeOf26 (Nat.le_of_ble_eq_true rfl) rfl) ?_
        | refine d1 rfl rfl (lop_load_fp_agg (ys := [_, _, _]) rfl Try.isAgg26 Try.sizeOf26 (Nat.le_of_ble_eq_true rfl) rfl) ?_
       first
        | refine d1 rfl rfl (lop_load_rf_agg (ys := [.int _ _, .int _ _, .int _ _, .int _ _, .int _ _, .bool _]) rfl rfl Try.isAgg35 Try.sizeOf35 (Nat.le_of_ble_eq_true rfl) rfl) ?_
        | refine d1 rfl rfl (lop_load_fp_agg (ys := [.int _ _, .int _ _, .int _ _, .int _ _, .int _ _, .bool _]) rfl Try.isAgg35 Try.sizeOf35 (Nat.le_of_ble_eq_true rfl) rfl) ?_
       first
        | refine d0w rfl rfl (lop_storeK (v := .agg [_, _, _]) (cs' := [_, _, _]) (f' := true) rfl rfl rfl Try.sizeOf26 rfl rfl rfl rfl rfl) ?_
        | refine d0w rfl rfl (lop_storeK (v := .agg [_, _, _]) (cs' := [_, _, _]) (f' := false) rfl rfl rfl Try.sizeOf26 rfl rfl rfl rfl rfl) ?_
       first
        | refine d0w rfl rfl (lop_storeK (v := .agg [.int _ _, .int _ _, .int _ _, .int _ _, .int _ _, .bool _]) (cs' := [.int _ _, .int _ _, .int _ _, .int _ _, .int _ _, .bool _]) (f' := true) rfl rfl rfl Try.sizeOf35 rfl rfl rfl rfl rfl) ?_
        | refine d0w rfl rfl (lop_storeK (v := .agg [.int _ _, .int _ _, .int _ _, .int _ _, .int _ _, .bool _]) (cs' := [.int _ _, .int _ _, .int _ _, .int _ _, .int _ _, .bool _]) (f' := false) rfl rfl rfl Try.sizeOf35 rfl rfl rfl rfl rfl) ?_
       refine dr_nil (by kernel_rfl) ?_
       refine ok_ret ?_
       first
       | (rw [show doF x c = (x, noR 1) by unfold doF; rw [if_pos (by simpa using h_t13)]]; exact ret_gen (R := [4, 5]) ⟨_, _, rfl, ⟨rfl, 4, 0, _, _, rfl, rfl, .inl ⟨3, Try.isAgg26, Try.sizeOf26, Nat.le_of_ble_eq_true rfl, rfl⟩⟩, _, _, rfl, ⟨rfl, 5, 0, _, _, rfl, rfl, .inl ⟨6, Try.isAgg35, Try.sizeOf35, Nat.le_of_ble_eq_true rfl, rfl⟩⟩, rfl⟩ (.tup (.cons (.agg (FrzL.tf rfl)) (.cons (.agg (FrzL.tf rfl)) .nil))) (fun t ht => by simp at ht; rcases ht with rfl | rfl <;> exact Option.some_ne_none _))
       | (rw [show doF x c = (x, (lastF x c.client).1.reply) by unfold doF; rw [if_neg hml, if_pos (by omega)]]; exact ret_gen (R := [4, 5]) ⟨_, _, rfl, ⟨rfl, 4, 0, _, _, rfl, rfl, .inl ⟨3, Try.isAgg26, Try.sizeOf26, Nat.le_of_ble_eq_true rfl, rfl⟩⟩, _, _, rfl, ⟨rfl, 5, 0, _, _, rfl, rfl, .inl ⟨6, Try.isAgg35, Try.sizeOf35, Nat.le_of_ble_eq_true rfl, rfl⟩⟩, rfl⟩ (.tup (.cons (.agg (FrzL.tf rfl)) (.cons (.agg (FrzL.tf rfl)) .nil))) (fun t ht => by simp at ht; rcases ht with rfl | rfl <;> exact Option.some_ne_none _))
       | (rw [show doF x c = (x, noR 9) by unfold doF; rw [if_neg hml, if_neg (by omega), if_pos (by omega)]]; exact ret_gen (R := [4, 5]) ⟨_, _, rfl, ⟨rfl, 4, 0, _, _, rfl, rfl, .inl ⟨3, Try.isAgg26, Try.sizeOf26, Nat.le_of_ble_eq_true rfl, rfl⟩⟩, _, _, rfl, ⟨rfl, 5, 0, _, _, rfl, rfl, .inl ⟨6, Try.isAgg35, Try.sizeOf35, Nat.le_of_ble_eq_true rfl, rfl⟩⟩, rfl⟩ (.tup (.cons (.agg (FrzL.tf rfl)) (.cons (.agg (FrzL.tf rfl)) .nil))) (fun t ht => by simp at ht; rcases ht with rfl | rfl <;> exact Option.some_ne_none _))
       | (rw [show doF x c = (⟨(doesF x c).1.vols, (doesF x c).1.names, setL (doesF x c).1.last (lastF (doesF x c).1 c.client).2 ⟨c.client, c.seq, (doesF x c).2⟩⟩, (doesF x c).2) by unfold doF; rw [if_neg hml, if_neg (by omega), if_neg (by omega), if_pos (by omega)]]; exact ret_gen (R := [4, 5]) ⟨_, _, rfl, ⟨rfl, 4, 0, _, _, rfl, rfl, .inl ⟨3, Try.isAgg26, Try.sizeOf26, Nat.le_of_ble_eq_true rfl, rfl⟩⟩, _, _, rfl, ⟨rfl, 5, 0, _, _, rfl, rfl, .inl ⟨6, Try.isAgg35, Try.sizeOf35, Nat.le_of_ble_eq_true rfl, rfl⟩⟩, rfl⟩ (.tup (.cons (.agg (FrzL.tf rfl)) (.cons (.agg (FrzL.tf rfl)) .nil))) (fun t ht => by simp at ht; rcases ht with rfl | rfl <;> exact Option.some_ne_none _))
       | (rw [show doF x c = (doesF x c) by unfold doF; rw [if_neg hml, if_neg (by omega), if_neg (by omega), if_neg (by omega)]]; exact ret_gen (R := [4, 5]) ⟨_, _, rfl, ⟨rfl, 4, 0, _, _, rfl, rfl, .inl ⟨3, Try.isAgg26, Try.sizeOf26, Nat.le_of_ble_eq_true rfl, rfl⟩⟩, _, _, rfl, ⟨rfl, 5, 0, _, _, rfl, rfl, .inl ⟨6, Try.isAgg35, Try.sizeOf35, Nat.le_of_ble_eq_true rfl, rfl⟩⟩, rfl⟩ (.tup (.cons (.agg (FrzL.tf rfl)) (.cons (.agg (FrzL.tf rfl)) .nil))) (fun t ht => by simp at ht; rcases ht with rfl | rfl <;> exact Option.some_ne_none _))
    ·refine n1 rfl rfl g6_6 ?_
     refine n1 rfl rfl g6_6 ?_
     refine n1 rfl rfl g6_6 ?_
     refine n1 rfl rfl g6_6 ?_
     refine n1 rfl rfl g6_6 ?_
     first
      | refine s1 rfl (lop_pick_t (v := .bool _) rfl g6_3 rfl) ?_
      | refine s1 rfl (lop_pick_f (v := .bool _) rfl g6_6 rfl) ?_
      | refine s1 rfl (lop_pick_t (v := .bool _) rfl rfl rfl) ?_
      | refine s1 rfl (lop_pick_f (v := .bool _) rfl rfl rfl) ?_
      | refine s1 rfl (lop_pick rfl rfl rfl) ?_
     refine s1 rfl (lop_assign (v := .bool _) rfl) ?_
     refine ops_nil ?_
     refine ok_false rfl rfl ?_
     refine ok_skip ?_
     refine ok_reg ?_
     first
      | refine s1 rfl (lop_load_rf_agg (ys := [_, _, _]) rfl rfl Try.isAgg26 Try.sizeOf26 (Nat.le_of_ble_eq_true rfl) rfl) ?_
      | refine s1 rfl (lop_load_fp_agg (ys := [_, _, _]) rfl Try.isAgg26 Try.sizeOf26 (Nat.le_of_ble_eq_true rfl) rfl) ?_
     first
      | refine s1 rfl (lop_load_rf_agg (ys := [.int _ _, .int _ _, .int _ _, .str _, .int _ _, .int _ _, .int _ _, .int _ _, .int _ _, .int _ _, .int _ _, _]) rfl rfl Try.isAgg30 Try.sizeOf30 (Nat.le_of_ble_eq_true rfl) rfl) ?_
      | refine s1 rfl (lop_load_fp_agg (ys := [.int _ _, .int _ _, .int _ _, .str _, .int _ _, .int _ _, .int _ _, .int _ _, .int _ _, .int _ _, .int _ _, _]) rfl Try.isAgg30 Try.sizeOf30 (Nat.le_of_ble_eq_true rfl) rfl) ?_
     refine s1 rfl (lop_call rfl Try.call24 (FrzL.tf rfl) (.inl rfl) (does_ac hx hm)) ?_
     refine s1 rfl (lop_move (v := .tup _) rfl) ?_
     refine s1 rfl (lop_extract rfl rfl) ?_
     refine s1 rfl (lop_extract rfl rfl) ?_
     refine s1w rfl (lop_new (t := 8) (cs := [.int _ _, .int _ _, .int _ _, .int _ _, .int _ _, .bool _]) Try.zeroValue35 rfl rfl rfl rfl) rfl ?_
     first
      | refine s0w rfl (lop_storeK (v := .agg [_, _, _]) (cs' := [_, _, _]) (f' := true) rfl rfl rfl Try.sizeOf26 rfl rfl rfl rfl rfl) ?_
      | refine s0w rfl (lop_storeK (v := .agg [_, _, _]) (cs' := [_, _, _]) (f' := false) rfl rfl rfl Try.sizeOf26 rfl rfl rfl rfl rfl) ?_
     first
      | refine s0w rfl (lop_storeK (v := .agg [.int _ _, .int _ _, .int _ _, .int _ _, .int _ _, .bool _]) (cs' := [.int _ _, .int _ _, .int _ _, .int _ _, .int _ _, .bool _]) (f' := true) rfl rfl rfl Try.sizeOf35 rfl rfl rfl rfl rfl) ?_
      | refine s0w rfl (lop_storeK (v := .agg [.int _ _, .int _ _, .int _ _, .int _ _, .int _ _, .bool _]) (cs' := [.int _ _, .int _ _, .int _ _, .int _ _, .int _ _, .bool _]) (f' := false) rfl rfl rfl Try.sizeOf35 rfl rfl rfl rfl rfl) ?_
     refine ops_nil ?_
     refine ok_seq ?_
     refine ok_reg ?_
     first
      | refine s1 rfl (lop_fieldAddr_rf (fo := 1) rfl Try.underlying30 rfl rfl Try.sizeOf3 (by decide)) ?_
      | refine s1 rfl (lop_fieldAddr_fp (fo := 1) rfl Try.underlying30 rfl rfl Try.sizeOf3 (by decide) rfl) ?_
     first
      | refine s1 rfl (lop_load_rf rfl rfl Try.isAgg3 rfl) ?_
      | refine s1 rfl (lop_load_fp rfl Try.isAgg3 rfl) ?_
     refine s1 rfl (lop_gtr rfl rfl) ?_
     refine ops_nil ?_
     first
      | refine ok_if _ rfl rfl (fun h_t64 => ?_) (fun h_t64 => ?_)
      | refine ok_cond rfl rfl (fun h_t64 => ?_) (fun h_t64 => ?_)
     ·refine ok_reg ?_
      first
       | refine s1 rfl (lop_fieldAddr_rf (fo := 2) rfl Try.underlying26 rfl rfl Try.sizeOf24 (by decide)) ?_
       | refine s1 rfl (lop_fieldAddr_fp (fo := 2) rfl Try.underlying26 rfl rfl Try.sizeOf24 (by decide) rfl) ?_
      first
       | refine s1 rfl (lop_load_rf rfl rfl Try.isAgg24 rfl) ?_
       | refine s1 rfl (lop_load_fp rfl Try.isAgg24 rfl) ?_
      first
       | refine s1 rfl (lop_func (vs := [.rf _ _]) rfl) ?_
       | refine s1 rfl (lop_func (vs := [.fp _]) rfl) ?_
      refine ops_le (T := ⟨[(2, .rf 2 0), (3, .fp c.enc), (4, .rf 4 0), (5, .rf 5 0), (8, .rf 8 0), (67, rowOf SessD.enc (doesF x c).1.last), (68, .fn 26 [.fp c.enc])], [(2, some (true, (doesF x c).1.enc)), (4, some (true, [.z0, .z0, .z0])), (5, some (true, ReplyD.zero.enc)), (8, some (true, (doesF x c).2.enc))], 85⟩) (le_frz [3] ⟨.inl ⟨rfl, rfl⟩, .inr (fz_sound _ [3] _ rfl), .inl ⟨rfl, rfl⟩, .inl ⟨rfl, rfl⟩, .inl ⟨rfl, rfl⟩, .inl ⟨rfl, rfl⟩, .inr (fz_sound _ [3] _ rfl), trivial⟩ ⟨.inr ⟨rfl, rfl, trivial⟩, .inr ⟨rfl, rfl, trivial⟩, .inr ⟨rfl, rfl, trivial⟩, .inr ⟨rfl, rfl, trivial⟩, trivial⟩ (fun t ht => by simp at ht; subst ht; exact Option.some_ne_none _) rfl) ?_
      refine s1 rfl (lop_call rfl Try.call25 (FrzL.tf rfl) (.inl rfl) (find_Sess_ac (p := fun s => decide (s.client = c.client)) (l := (doesF x c).1.last) (by omega) Try.call26 rfl (fun y _ => do1_ac y c))) ?_
      refine s1 rfl (lop_move (v := .tup _) rfl) ?_
      refine s1 rfl (lop_extract rfl rfl) ?_
      refine s1 rfl (lop_extract rfl rfl) ?_
      refine s1w rfl (lop_new (t := 9) (cs := [.int _ _, .int _ _, .int _ _, .int _ _, .int _ _, .int _ _, .int _ _, .bool _]) Try.zeroValue39 rfl rfl rfl rfl) rfl ?_
      first
       | refine s0w rfl (lop_storeK (v := .agg [.int _ _, .int _ _, .int _ _, .int _ _, .int _ _, .int _ _, .int _ _, .bool _]) (cs' := [.int _ _, .int _ _, .int _ _, .int _ _, .int _ _, .int _ _, .int _ _, .bool _]) (f' := true) rfl rfl rfl Try.sizeOf39 rfl rfl rfl rfl rfl) ?_
       | refine s0w rfl (lop_storeK (v := .agg [.int _ _, .int _ _, .int _ _, .int _ _, .int _ _, .int _ _, .int _ _, .bool _]) (cs' := [.int _ _, .int _ _, .int _ _, .int _ _, .int _ _, .int _ _, .int _ _, .bool _]) (f' := false) rfl rfl rfl Try.sizeOf39 rfl rfl rfl rfl rfl) ?_
      refine s1 rfl (lop_assign (v := .int _ _) rfl) ?_
      refine ops_nil ?_
      refine ok_region ?_
      first
       | refine s1 rfl (lop_fieldAddr_rf (fo := 2) rfl Try.underlying26 rfl rfl Try.sizeOf24 (by decide)) ?_
       | refine s1 rfl (lop_fieldAddr_fp (fo := 2) rfl Try.underlying26 rfl rfl Try.sizeOf24 (by decide) rfl) ?_
      first
       | refine s1 rfl (lop_load_rf rfl rfl Try.isAgg24 rfl) ?_
       | refine s1 rfl (lop_load_fp rfl Try.isAgg24 rfl) ?_
      refine s1 rfl (lop_move (v := .int _ _) rfl) ?_
      first
       | refine s1 rfl (lop_fieldAddr_rf (fo := 1) rfl Try.underlying30 rfl rfl Try.sizeOf3 (by decide)) ?_
       | refine s1 rfl (lop_fieldAddr_fp (fo := 1) rfl Try.underlying30 rfl rfl Try.sizeOf3 (by decide) rfl) ?_
      first
       | refine s1 rfl (lop_load_rf rfl rfl Try.isAgg3 rfl) ?_
       | refine s1 rfl (lop_load_fp rfl Try.isAgg3 rfl) ?_
      first
       | refine s1 rfl (lop_fieldAddr_rf (fo := 2) rfl Try.underlying30 rfl rfl Try.sizeOf3 (by decide)) ?_
       | refine s1 rfl (lop_fieldAddr_fp (fo := 2) rfl Try.underlying30 rfl rfl Try.sizeOf3 (by decide) rfl) ?_
      first
       | refine s1 rfl (lop_load_rf rfl rfl Try.isAgg3 rfl) ?_
       | refine s1 rfl (lop_load_fp rfl Try.isAgg3 rfl) ?_
      first
       | refine s1 rfl (lop_load_rf_agg (ys := [.int _ _, .int _ _, .int _ _, .int _ _, .int _ _, .bool _]) rfl rfl Try.isAgg35 Try.sizeOf35 (Nat.le_of_ble_eq_true rfl) rfl) ?_
       | refine s1 rfl (lop_load_fp_agg (ys := [.int _ _, .int _ _, .int _ _, .int _ _, .int _ _, .bool _]) rfl Try.isAgg35 Try.sizeOf35 (Nat.le_of_ble_eq_true rfl) rfl) ?_
      refine s1 rfl (lop_buildK (cs := [.int _ _, .int _ _, .int _ _, .int _ _, .int _ _, .int _ _, .int _ _, .bool _]) Try.underlying39 Try.zeroValue39 rfl rfl places39 rfl) ?_
      refine s1 rfl (lop_call rfl Try.call27 (FrzL.tf rfl) (.inl rfl) (set_Sess_ac (l := (doesF x c).1.last) (by omega) (i := (lastF (doesF x c).1 c.client).2) (lastF_lt _ _) ⟨c.client, c.seq, (doesF x c).2⟩)) ?_
      first
       | refine s1 rfl (lop_fieldAddr_rf (fo := 2) rfl Try.underlying26 rfl rfl Try.sizeOf24 (by decide)) ?_
       | refine s1 rfl (lop_fieldAddr_fp (fo := 2) rfl Try.underlying26 rfl rfl Try.sizeOf24 (by decide) rfl) ?_
      first
       | refine s0w rfl (lop_storeK (v := .sl _ _) (cs' := [_, _, _]) (f' := true) rfl rfl rfl Try.sizeOf24 rfl rfl rfl rfl rfl) ?_
       | refine s0w rfl (lop_storeK (v := .os _ _ _ _) (cs' := [_, _, _]) (f' := true) rfl rfl rfl Try.sizeOf24 rfl rfl rfl rfl rfl) ?_
       | refine s0w rfl (lop_storeK (v := .z0) (cs' := [_, _, _]) (f' := true) rfl rfl rfl Try.sizeOf24 rfl rfl rfl rfl rfl) ?_
       | refine s0w rfl (lop_storeK (v := .sl _ _) (cs' := [_, _, _]) (f' := false) rfl rfl rfl Try.sizeOf24 rfl rfl rfl rfl rfl) ?_
       | refine s0w rfl (lop_storeK (v := .os _ _ _ _) (cs' := [_, _, _]) (f' := false) rfl rfl rfl Try.sizeOf24 rfl rfl rfl rfl rfl) ?_
       | refine s0w rfl (lop_storeK (v := .z0) (cs' := [_, _, _]) (f' := false) rfl rfl rfl Try.sizeOf24 rfl rfl rfl rfl rfl) ?_
      refine ops_nil ?_
      refine ok_drw Try.mixed ?_
      first
       | refine d1 rfl rfl (lop_load_rf_agg (ys := [_, _, _]) rfl rfl Try.isAgg26 Try.sizeOf26 (Nat.le_of_ble_eq_true rfl) rfl) ?_
       | refine d1 rfl rfl (lop_load_fp_agg (ys := [_, _, _]) rfl Try.isAgg26 Try.sizeOf26 (Nat.le_of_ble_eq_true rfl) rfl) ?_
      first
       | refine d1 rfl rfl (lop_load_rf_agg (ys := [.int _ _, .int _ _, .int _ _, .int _ _, .int _ _, .bool _]) rfl rfl Try.isAgg35 Try.sizeOf35 (Nat.le_of_ble_eq_true rfl) rfl) ?_
       | refine d1 rfl rfl (lop_load_fp_agg (ys := [.int _ _, .int _ _, .int _ _, .int _ _, .int _ _, .bool _]) rfl Try.isAgg35 Try.sizeOf35 (Nat.le_of_ble_eq_true rfl) rfl) ?_
      first
       | refine d0w rfl rfl (lop_storeK (v := .agg [_, _, _]) (cs' := [_, _, _]) (f' := true) rfl rfl rfl Try.sizeOf26 rfl rfl rfl rfl rfl) ?_
       | refine d0w rfl rfl (lop_storeK (v := .agg [_, _, _]) (cs' := [_, _, _]) (f' := false) rfl rfl rfl Try.sizeOf26 rfl rfl rfl rfl rfl) ?_
      first
       | refine d0w rfl rfl (lop_storeK (v := .agg [.int _ _, .int _ _, .int _ _, .int _ _, .int _ _, .bool _]) (cs' := [.int _ _, .int _ _, .int _ _, .int _ _, .int _ _, .bool _]) (f' := true) rfl rfl rfl Try.sizeOf35 rfl rfl rfl rfl rfl) ?_
       | refine d0w rfl rfl (lop_storeK (v := .agg [.int _ _, .int _ _, .int _ _, .int _ _, .int _ _, .bool _]) (cs' := [.int _ _, .int _ _, .int _ _, .int _ _, .int _ _, .bool _]) (f' := false) rfl rfl rfl Try.sizeOf35 rfl rfl rfl rfl rfl) ?_
      refine dr_nil (by kernel_rfl) ?_
      refine ok_ret ?_
      first
      | (rw [show doF x c = (x, noR 1) by unfold doF; rw [if_pos (by simpa using h_t13)]]; exact ret_gen (R := [4, 5]) ⟨_, _, rfl, ⟨rfl, 4, 0, _, _, rfl, rfl, .inl ⟨3, Try.isAgg26, Try.sizeOf26, Nat.le_of_ble_eq_true rfl, rfl⟩⟩, _, _, rfl, ⟨rfl, 5, 0, _, _, rfl, rfl, .inl ⟨6, Try.isAgg35, Try.sizeOf35, Nat.le_of_ble_eq_true rfl, rfl⟩⟩, rfl⟩ (.tup (.cons (.agg (FrzL.tf rfl)) (.cons (.agg (FrzL.tf rfl)) .nil))) (fun t ht => by simp at ht; rcases ht with rfl | rfl <;> exact Option.some_ne_none _))
      | (rw [show doF x c = (x, (lastF x c.client).1.reply) by unfold doF; rw [if_neg hml, if_pos (by omega)]]; exact ret_gen (R := [4, 5]) ⟨_, _, rfl, ⟨rfl, 4, 0, _, _, rfl, rfl, .inl ⟨3, Try.isAgg26, Try.sizeOf26, Nat.le_of_ble_eq_true rfl, rfl⟩⟩, _, _, rfl, ⟨rfl, 5, 0, _, _, rfl, rfl, .inl ⟨6, Try.isAgg35, Try.sizeOf35, Nat.le_of_ble_eq_true rfl, rfl⟩⟩, rfl⟩ (.tup (.cons (.agg (FrzL.tf rfl)) (.cons (.agg (FrzL.tf rfl)) .nil))) (fun t ht => by simp at ht; rcases ht with rfl | rfl <;> exact Option.some_ne_none _))
      | (rw [show doF x c = (x, noR 9) by unfold doF; rw [if_neg hml, if_neg (by omega), if_pos (by omega)]]; exact ret_gen (R := [4, 5]) ⟨_, _, rfl, ⟨rfl, 4, 0, _, _, rfl, rfl, .inl ⟨3, Try.isAgg26, Try.sizeOf26, Nat.le_of_ble_eq_true rfl, rfl⟩⟩, _, _, rfl, ⟨rfl, 5, 0, _, _, rfl, rfl, .inl ⟨6, Try.isAgg35, Try.sizeOf35, Nat.le_of_ble_eq_true rfl, rfl⟩⟩, rfl⟩ (.tup (.cons (.agg (FrzL.tf rfl)) (.cons (.agg (FrzL.tf rfl)) .nil))) (fun t ht => by simp at ht; rcases ht with rfl | rfl <;> exact Option.some_ne_none _))
      | (rw [show doF x c = (⟨(doesF x c).1.vols, (doesF x c).1.names, setL (doesF x c).1.last (lastF (doesF x c).1 c.client).2 ⟨c.client, c.seq, (doesF x c).2⟩⟩, (doesF x c).2) by unfold doF; rw [if_neg hml, if_neg (by omega), if_neg (by omega), if_pos (by omega)]]; exact ret_gen (R := [4, 5]) ⟨_, _, rfl, ⟨rfl, 4, 0, _, _, rfl, rfl, .inl ⟨3, Try.isAgg26, Try.sizeOf26, Nat.le_of_ble_eq_true rfl, rfl⟩⟩, _, _, rfl, ⟨rfl, 5, 0, _, _, rfl, rfl, .inl ⟨6, Try.isAgg35, Try.sizeOf35, Nat.le_of_ble_eq_true rfl, rfl⟩⟩, rfl⟩ (.tup (.cons (.agg (FrzL.tf rfl)) (.cons (.agg (FrzL.tf rfl)) .nil))) (fun t ht => by simp at ht; rcases ht with rfl | rfl <;> exact Option.some_ne_none _))
      | (rw [show doF x c = (doesF x c) by unfold doF; rw [if_neg hml, if_neg (by omega), if_neg (by omega), if_neg (by omega)]]; exact ret_gen (R := [4, 5]) ⟨_, _, rfl, ⟨rfl, 4, 0, _, _, rfl, rfl, .inl ⟨3, Try.isAgg26, Try.sizeOf26, Nat.le_of_ble_eq_true rfl, rfl⟩⟩, _, _, rfl, ⟨rfl, 5, 0, _, _, rfl, rfl, .inl ⟨6, Try.isAgg35, Try.sizeOf35, Nat.le_of_ble_eq_true rfl, rfl⟩⟩, rfl⟩ (.tup (.cons (.agg (FrzL.tf rfl)) (.cons (.agg (FrzL.tf rfl)) .nil))) (fun t ht => by simp at ht; rcases ht with rfl | rfl <;> exact Option.some_ne_none _))
     ·refine ok_skip ?_
      refine ok_drw Try.mixed ?_
      first
       | refine d1 rfl rfl (lop_load_rf_agg (ys := [_, _, _]) rfl rfl Try.isAgg26 Try.sizeOf26 (Nat.le_of_ble_eq_true rfl) rfl) ?_
       | refine d1 rfl rfl (lop_load_fp_agg (ys := [_, _, _]) rfl Try.isAgg26 Try.sizeOf26 (Nat.le_of_ble_eq_true rfl) rfl) ?_
      first
       | refine d1 rfl rfl (lop_load_rf_agg (ys := [.int _ _, .int _ _, .int _ _, .int _ _, .int _ _, .bool _]) rfl rfl Try.isAgg35 Try.sizeOf35 (Nat.le_of_ble_eq_true rfl) rfl) ?_
       | refine d1 rfl rfl (lop_load_fp_agg (ys := [.int _ _, .int _ _, .int _ _, .int _ _, .int _ _, .bool _]) rfl Try.isAgg35 Try.sizeOf35 (Nat.le_of_ble_eq_true rfl) rfl) ?_
      first
       | refine d0w rfl rfl (lop_storeK (v := .agg [_, _, _]) (cs' := [_, _, _]) (f' := true) rfl rfl rfl Try.sizeOf26 rfl rfl rfl rfl rfl) ?_
       | refine d0w rfl rfl (lop_storeK (v := .agg [_, _, _]) (cs' := [_, _, _]) (f' := false) rfl rfl rfl Try.sizeOf26 rfl rfl rfl rfl rfl) ?_
      first
       | refine d0w rfl rfl (lop_storeK (v := .agg [.int _ _, .int _ _, .int _ _, .int _ _, .int _ _, .bool _]) (cs' := [.int _ _, .int _ _, .int _ _, .int _ _, .int _ _, .bool _]) (f' := true) rfl rfl rfl Try.sizeOf35 rfl rfl rfl rfl rfl) ?_
       | refine d0w rfl rfl (lop_storeK (v := .agg [.int _ _, .int _ _, .int _ _, .int _ _, .int _ _, .bool _]) (cs' := [.int _ _, .int _ _, .int _ _, .int _ _, .int _ _, .bool _]) (f' := false) rfl rfl rfl Try.sizeOf35 rfl rfl rfl rfl rfl) ?_
      refine dr_nil (by kernel_rfl) ?_
      refine ok_ret ?_
      first
      | (rw [show doF x c = (x, noR 1) by unfold doF; rw [if_pos (by simpa using h_t13)]]; exact ret_gen (R := [4, 5]) ⟨_, _, rfl, ⟨rfl, 4, 0, _, _, rfl, rfl, .inl ⟨3, Try.isAgg26, Try.sizeOf26, Nat.le_of_ble_eq_true rfl, rfl⟩⟩, _, _, rfl, ⟨rfl, 5, 0, _, _, rfl, rfl, .inl ⟨6, Try.isAgg35, Try.sizeOf35, Nat.le_of_ble_eq_true rfl, rfl⟩⟩, rfl⟩ (.tup (.cons (.agg (FrzL.tf rfl)) (.cons (.agg (FrzL.tf rfl)) .nil))) (fun t ht => by simp at ht; rcases ht with rfl | rfl <;> exact Option.some_ne_none _))
      | (rw [show doF x c = (x, (lastF x c.client).1.reply) by unfold doF; rw [if_neg hml, if_pos (by omega)]]; exact ret_gen (R := [4, 5]) ⟨_, _, rfl, ⟨rfl, 4, 0, _, _, rfl, rfl, .inl ⟨3, Try.isAgg26, Try.sizeOf26, Nat.le_of_ble_eq_true rfl, rfl⟩⟩, _, _, rfl, ⟨rfl, 5, 0, _, _, rfl, rfl, .inl ⟨6, Try.isAgg35, Try.sizeOf35, Nat.le_of_ble_eq_true rfl, rfl⟩⟩, rfl⟩ (.tup (.cons (.agg (FrzL.tf rfl)) (.cons (.agg (FrzL.tf rfl)) .nil))) (fun t ht => by simp at ht; rcases ht with rfl | rfl <;> exact Option.some_ne_none _))
      | (rw [show doF x c = (x, noR 9) by unfold doF; rw [if_neg hml, if_neg (by omega), if_pos (by omega)]]; exact ret_gen (R := [4, 5]) ⟨_, _, rfl, ⟨rfl, 4, 0, _, _, rfl, rfl, .inl ⟨3, Try.isAgg26, Try.sizeOf26, Nat.le_of_ble_eq_true rfl, rfl⟩⟩, _, _, rfl, ⟨rfl, 5, 0, _, _, rfl, rfl, .inl ⟨6, Try.isAgg35, Try.sizeOf35, Nat.le_of_ble_eq_true rfl, rfl⟩⟩, rfl⟩ (.tup (.cons (.agg (FrzL.tf rfl)) (.cons (.agg (FrzL.tf rfl)) .nil))) (fun t ht => by simp at ht; rcases ht with rfl | rfl <;> exact Option.some_ne_none _))
      | (rw [show doF x c = (⟨(doesF x c).1.vols, (doesF x c).1.names, setL (doesF x c).1.last (lastF (doesF x c).1 c.client).2 ⟨c.client, c.seq, (doesF x c).2⟩⟩, (doesF x c).2) by unfold doF; rw [if_neg hml, if_neg (by omega), if_neg (by omega), if_pos (by omega)]]; exact ret_gen (R := [4, 5]) ⟨_, _, rfl, ⟨rfl, 4, 0, _, _, rfl, rfl, .inl ⟨3, Try.isAgg26, Try.sizeOf26, Nat.le_of_ble_eq_true rfl, rfl⟩⟩, _, _, rfl, ⟨rfl, 5, 0, _, _, rfl, rfl, .inl ⟨6, Try.isAgg35, Try.sizeOf35, Nat.le_of_ble_eq_true rfl, rfl⟩⟩, rfl⟩ (.tup (.cons (.agg (FrzL.tf rfl)) (.cons (.agg (FrzL.tf rfl)) .nil))) (fun t ht => by simp at ht; rcases ht with rfl | rfl <;> exact Option.some_ne_none _))
      | (rw [show doF x c = (doesF x c) by unfold doF; rw [if_neg hml, if_neg (by omega), if_neg (by omega), if_neg (by omega)]]; exact ret_gen (R := [4, 5]) ⟨_, _, rfl, ⟨rfl, 4, 0, _, _, rfl, rfl, .inl ⟨3, Try.isAgg26, Try.sizeOf26, Nat.le_of_ble_eq_true rfl, rfl⟩⟩, _, _, rfl, ⟨rfl, 5, 0, _, _, rfl, rfl, .inl ⟨6, Try.isAgg35, Try.sizeOf35, Nat.le_of_ble_eq_true rfl, rfl⟩⟩, rfl⟩ (.tup (.cons (.agg (FrzL.tf rfl)) (.cons (.agg (FrzL.tf rfl)) .nil))) (fun t ht => by simp at ht; rcases ht with rfl | rfl <;> exact Option.some_ne_none _))
   ·refine n1 rfl rfl g6_3 ?_
    first
     | refine s1 rfl (lop_pick_f (v := .bool _) rfl g6_3 rfl) ?_
     | refine s1 rfl (lop_pick_t (v := .bool _) rfl rfl rfl) ?_
     | refine s1 rfl (lop_pick_f (v := .bool _) rfl rfl rfl) ?_
     | refine s1 rfl (lop_pick rfl rfl rfl) ?_
    refine s1 rfl (lop_move (v := .bool _) rfl) ?_
    refine n1 rfl rfl rfl ?_
    refine n1 rfl rfl rfl ?_
    refine n1 rfl rfl rfl ?_
    refine n1 rfl rfl rfl ?_
    refine n1 rfl rfl rfl ?_
    first
     | refine s1 rfl (lop_pick_f (v := .bool _) rfl g6_3 rfl) ?_
     | refine s1 rfl (lop_pick_f (v := .bool _) rfl rfl rfl) ?_
     | refine s1 rfl (lop_pick_t (v := .bool _) rfl rfl rfl) ?_
     | refine s1 rfl (lop_pick_f (v := .bool _) rfl rfl rfl) ?_
     | refine s1 rfl (lop_pick rfl rfl rfl) ?_
    refine s1 rfl (lop_assign (v := .bool _) rfl) ?_
    refine ops_nil ?_
    refine ok_false rfl rfl ?_
    refine ok_skip ?_
    refine ok_reg ?_
    first
     | refine s1 rfl (lop_load_rf_agg (ys := [_, _, _]) rfl rfl Try.isAgg26 Try.sizeOf26 (Nat.le_of_ble_eq_true rfl) rfl) ?_
     | refine s1 rfl (lop_load_fp_agg (ys := [_, _, _]) rfl Try.isAgg26 Try.sizeOf26 (Nat.le_of_ble_eq_true rfl) rfl) ?_
    first
     | refine s1 rfl (lop_load_rf_agg (ys := [.int _ _, .int _ _, .int _ _, .str _, .int _ _, .int _ _, .int _ _, .int _ _, .int _ _, .int _ _, .int _ _, _]) rfl rfl Try.isAgg30 Try.sizeOf30 (Nat.le_of_ble_eq_true rfl) rfl) ?_
     | refine s1 rfl (lop_load_fp_agg (ys := [.int _ _, .int _ _, .int _ _, .str _, .int _ _, .int _ _, .int _ _, .int _ _, .int _ _, .int _ _, .int _ _, _]) rfl Try.isAgg30 Try.sizeOf30 (Nat.le_of_ble_eq_true rfl) rfl) ?_
    refine s1 rfl (lop_call rfl Try.call24 (FrzL.tf rfl) (.inl rfl) (does_ac hx hm)) ?_
    refine s1 rfl (lop_move (v := .tup _) rfl) ?_
    refine s1 rfl (lop_extract rfl rfl) ?_
    refine s1 rfl (lop_extract rfl rfl) ?_
    refine s1w rfl (lop_new (t := 8) (cs := [.int _ _, .int _ _, .int _ _, .int _ _, .int _ _, .bool _]) Try.zeroValue35 rfl rfl rfl rfl) rfl ?_
    first
     | refine s0w rfl (lop_storeK (v := .agg [_, _, _]) (cs' := [_, _, _]) (f' := true) rfl rfl rfl Try.sizeOf26 rfl rfl rfl rfl rfl) ?_
     | refine s0w rfl (lop_storeK (v := .agg [_, _, _]) (cs' := [_, _, _]) (f' := false) rfl rfl rfl Try.sizeOf26 rfl rfl rfl rfl rfl) ?_
    first
     | refine s0w rfl (lop_storeK (v := .agg [.int _ _, .int _ _, .int _ _, .int _ _, .int _ _, .bool _]) (cs' := [.int _ _, .int _ _, .int _ _, .int _ _, .int _ _, .bool _]) (f' := true) rfl rfl rfl Try.sizeOf35 rfl rfl rfl rfl rfl) ?_
     | refine s0w rfl (lop_storeK (v := .agg [.int _ _, .int _ _, .int _ _, .int _ _, .int _ _, .bool _]) (cs' := [.int _ _, .int _ _, .int _ _, .int _ _, .int _ _, .bool _]) (f' := false) rfl rfl rfl Try.sizeOf35 rfl rfl rfl rfl rfl) ?_
    refine ops_nil ?_
    refine ok_seq ?_
    refine ok_reg ?_
    first
     | refine s1 rfl (lop_fieldAddr_rf (fo := 1) rfl Try.underlying30 rfl rfl Try.sizeOf3 (by decide)) ?_
     | refine s1 rfl (lop_fieldAddr_fp (fo := 1) rfl Try.underlying30 rfl rfl Try.sizeOf3 (by decide) rfl) ?_
    first
     | refine s1 rfl (lop_load_rf rfl rfl Try.isAgg3 rfl) ?_
     | refine s1 rfl (lop_load_fp rfl Try.isAgg3 rfl) ?_
    refine s1 rfl (lop_gtr rfl rfl) ?_
    refine ops_nil ?_
    first
     | refine ok_if _ rfl rfl (fun h_t64 => ?_) (fun h_t64 => ?_)
     | refine ok_cond rfl rfl (fun h_t64 => ?_) (fun h_t64 => ?_)
    ·refine ok_reg ?_
     first
      | refine s1 rfl (lop_fieldAddr_rf (fo := 2) rfl Try.underlying26 rfl rfl Try.sizeOf24 (by decide)) ?_
      | refine s1 rfl (lop_fieldAddr_fp (fo := 2) rfl Try.underlying26 rfl rfl Try.sizeOf24 (by decide) rfl) ?_
     first
      | refine s1 rfl (lop_load_rf rfl rfl Try.isAgg24 rfl) ?_
      | refine s1 rfl (lop_load_fp rfl Try.isAgg24 rfl) ?_
     first
      | refine s1 rfl (lop_func (vs := [.rf _ _]) rfl) ?_
      | refine s1 rfl (lop_func (vs := [.fp _]) rfl) ?_
     refine ops_le (T := ⟨[(2, .rf 2 0), (3, .fp c.enc), (4, .rf 4 0), (5, .rf 5 0), (8, .rf 8 0), (67, rowOf SessD.enc (doesF x c).1.last), (68, .fn 26 [.fp c.enc])], [(2, some (true, (doesF x c).1.enc)), (4, some (true, [.z0, .z0, .z0])), (5, some (true, ReplyD.zero.enc)), (8, some (true, (doesF x c).2.enc))], 85⟩) (le_frz [3] ⟨.inl ⟨rfl, rfl⟩, .inr (fz_sound _ [3] _ rfl), .inl ⟨rfl, rfl⟩, .inl ⟨rfl, rfl⟩, .inl ⟨rfl, rfl⟩, .inl ⟨rfl, rfl⟩, .inr (fz_sound _ [3] _ rfl), trivial⟩ ⟨.inr ⟨rfl, rfl, trivial⟩, .inr ⟨rfl, rfl, trivial⟩, .inr ⟨rfl, rfl, trivial⟩, .inr ⟨rfl, rfl, trivial⟩, trivial⟩ (fun t ht => by simp at ht; subst ht; exact Option.some_ne_none _) rfl) ?_
     refine s1 rfl (lop_call rfl Try.call25 (FrzL.tf rfl) (.inl rfl) (find_Sess_ac (p := fun s => decide (s.client = c.client)) (l := (doesF x c).1.last) (by omega) Try.call26 rfl (fun y _ => do1_ac y c))) ?_
     refine s1 rfl (lop_move (v := .tup _) rfl) ?_
     refine s1 rfl (lop_extract rfl rfl) ?_
     refine s1 rfl (lop_extract rfl rfl) ?_
     refine s1w rfl (lop_new (t := 9) (cs := [.int _ _, .int _ _, .int _ _, .int _ _, .int _ _, .int _ _, .int _ _, .bool _]) Try.zeroValue39 rfl rfl rfl rfl) rfl ?_
     first
      | refine s0w rfl (lop_storeK (v := .agg [.int _ _, .int _ _, .int _ _, .int _ _, .int _ _, .int _ _, .int _ _, .bool _]) (cs' := [.int _ _, .int _ _, .int _ _, .int _ _, .int _ _, .int _ _, .int _ _, .bool _]) (f' := true) rfl rfl rfl Try.sizeOf39 rfl rfl rfl rfl rfl) ?_
      | refine s0w rfl (lop_storeK (v := .agg [.int _ _, .int _ _, .int _ _, .int _ _, .int _ _, .int _ _, .int _ _, .bool _]) (cs' := [.int _ _, .int _ _, .int _ _, .int _ _, .int _ _, .int _ _, .int _ _, .bool _]) (f' := false) rfl rfl rfl Try.sizeOf39 rfl rfl rfl rfl rfl) ?_
     refine s1 rfl (lop_assign (v := .int _ _) rfl) ?_
     refine ops_nil ?_
     refine ok_region ?_
     first
      | refine s1 rfl (lop_fieldAddr_rf (fo := 2) rfl Try.underlying26 rfl rfl Try.sizeOf24 (by decide)) ?_
      | refine s1 rfl (lop_fieldAddr_fp (fo := 2) rfl Try.underlying26 rfl rfl Try.sizeOf24 (by decide) rfl) ?_
     first
      | refine s1 rfl (lop_load_rf rfl rfl Try.isAgg24 rfl) ?_
      | refine s1 rfl (lop_load_fp rfl Try.isAgg24 rfl) ?_
     refine s1 rfl (lop_move (v := .int _ _) rfl) ?_
     first
      | refine s1 rfl (lop_fieldAddr_rf (fo := 1) rfl Try.underlying30 rfl rfl Try.sizeOf3 (by decide)) ?_
      | refine s1 rfl (lop_fieldAddr_fp (fo := 1) rfl Try.underlying30 rfl rfl Try.sizeOf3 (by decide) rfl) ?_
     first
      | refine s1 rfl (lop_load_rf rfl rfl Try.isAgg3 rfl) ?_
      | refine s1 rfl (lop_load_fp rfl Try.isAgg3 rfl) ?_
     first
      | refine s1 rfl (lop_fieldAddr_rf (fo := 2) rfl Try.underlying30 rfl rfl Try.sizeOf3 (by decide)) ?_
      | refine s1 rfl (lop_fieldAddr_fp (fo := 2) rfl Try.underlying30 rfl rfl Try.sizeOf3 (by decide) rfl) ?_
     first
      | refine s1 rfl (lop_load_rf rfl rfl Try.isAgg3 rfl) ?_
      | refine s1 rfl (lop_load_fp rfl Try.isAgg3 rfl) ?_
     first
      | refine s1 rfl (lop_load_rf_agg (ys := [.int _ _, .int _ _, .int _ _, .int _ _, .int _ _, .bool _]) rfl rfl Try.isAgg35 Try.sizeOf35 (Nat.le_of_ble_eq_true rfl) rfl) ?_
      | refine s1 rfl (lop_load_fp_agg (ys := [.int _ _, .int _ _, .int _ _, .int _ _, .int _ _, .bool _]) rfl Try.isAgg35 Try.sizeOf35 (Nat.le_of_ble_eq_true rfl) rfl) ?_
     refine s1 rfl (lop_buildK (cs := [.int _ _, .int _ _, .int _ _, .int _ _, .int _ _, .int _ _, .int _ _, .bool _]) Try.underlying39 Try.zeroValue39 rfl rfl places39 rfl) ?_
     refine s1 rfl (lop_call rfl Try.call27 (FrzL.tf rfl) (.inl rfl) (set_Sess_ac (l := (doesF x c).1.last) (by omega) (i := (lastF (doesF x c).1 c.client).2) (lastF_lt _ _) ⟨c.client, c.seq, (doesF x c).2⟩)) ?_
     first
      | refine s1 rfl (lop_fieldAddr_rf (fo := 2) rfl Try.underlying26 rfl rfl Try.sizeOf24 (by decide)) ?_
      | refine s1 rfl (lop_fieldAddr_fp (fo := 2) rfl Try.underlying26 rfl rfl Try.sizeOf24 (by decide) rfl) ?_
     first
      | refine s0w rfl (lop_storeK (v := .sl _ _) (cs' := [_, _, _]) (f' := true) rfl rfl rfl Try.sizeOf24 rfl rfl rfl rfl rfl) ?_
      | refine s0w rfl (lop_storeK (v := .os _ _ _ _) (cs' := [_, _, _]) (f' := true) rfl rfl rfl Try.sizeOf24 rfl rfl rfl rfl rfl) ?_
      | refine s0w rfl (lop_storeK (v := .z0) (cs' := [_, _, _]) (f' := true) rfl rfl rfl Try.sizeOf24 rfl rfl rfl rfl rfl) ?_
      | refine s0w rfl (lop_storeK (v := .sl _ _) (cs' := [_, _, _]) (f' := false) rfl rfl rfl Try.sizeOf24 rfl rfl rfl rfl rfl) ?_
      | refine s0w rfl (lop_storeK (v := .os _ _ _ _) (cs' := [_, _, _]) (f' := false) rfl rfl rfl Try.sizeOf24 rfl rfl rfl rfl rfl) ?_
      | refine s0w rfl (lop_storeK (v := .z0) (cs' := [_, _, _]) (f' := false) rfl rfl rfl Try.sizeOf24 rfl rfl rfl rfl rfl) ?_
     refine ops_nil ?_
     refine ok_drw Try.mixed ?_
     first
      | refine d1 rfl rfl (lop_load_rf_agg (ys := [_, _, _]) rfl rfl Try.isAgg26 Try.sizeOf26 (Nat.le_of_ble_eq_true rfl) rfl) ?_
      | refine d1 rfl rfl (lop_load_fp_agg (ys := [_, _, _]) rfl Try.isAgg26 Try.sizeOf26 (Nat.le_of_ble_eq_true rfl) rfl) ?_
     first
      | refine d1 rfl rfl (lop_load_rf_agg (ys := [.int _ _, .int _ _, .int _ _, .int _ _, .int _ _, .bool _]) rfl rfl Try.isAgg35 Try.sizeOf35 (Nat.le_of_ble_eq_true rfl) rfl) ?_
      | refine d1 rfl rfl (lop_load_fp_agg (ys := [.int _ _, .int _ _, .int _ _, .int _ _, .int _ _, .bool _]) rfl Try.isAgg35 Try.sizeOf35 (Nat.le_of_ble_eq_true rfl) rfl) ?_
     first
      | refine d0w rfl rfl (lop_storeK (v := .agg [_, _, _]) (cs' := [_, _, _]) (f' := true) rfl rfl rfl Try.sizeOf26 rfl rfl rfl rfl rfl) ?_
      | refine d0w rfl rfl (lop_storeK (v := .agg [_, _, _]) (cs' := [_, _, _]) (f' := false) rfl rfl rfl Try.sizeOf26 rfl rfl rfl rfl rfl) ?_
     first
      | refine d0w rfl rfl (lop_storeK (v := .agg [.int _ _, .int _ _, .int _ _, .int _ _, .int _ _, .bool _]) (cs' := [.int _ _, .int _ _, .int _ _, .int _ _, .int _ _, .bool _]) (f' := true) rfl rfl rfl Try.sizeOf35 rfl rfl rfl rfl rfl) ?_
      | refine d0w rfl rfl (lop_storeK (v := .agg [.int _ _, .int _ _, .int _ _, .int _ _, .int _ _, .bool _]) (cs' := [.int _ _, .int _ _, .int _ _, .int _ _, .int _ _, .bool _]) (f' := false) rfl rfl rfl Try.sizeOf35 rfl rfl rfl rfl rfl) ?_
     refine dr_nil (by kernel_rfl) ?_
     refine ok_ret ?_
     first
     | (rw [show doF x c = (x, noR 1) by unfold doF; rw [if_pos (by simpa using h_t13)]]; exact ret_gen (R := [4, 5]) ⟨_, _, rfl, ⟨rfl, 4, 0, _, _, rfl, rfl, .inl ⟨3, Try.isAgg26, Try.sizeOf26, Nat.le_of_ble_eq_true rfl, rfl⟩⟩, _, _, rfl, ⟨rfl, 5, 0, _, _, rfl, rfl, .inl ⟨6, Try.isAgg35, Try.sizeOf35, Nat.le_of_ble_eq_true rfl, rfl⟩⟩, rfl⟩ (.tup (.cons (.agg (FrzL.tf rfl)) (.cons (.agg (FrzL.tf rfl)) .nil))) (fun t ht => by simp at ht; rcases ht with rfl | rfl <;> exact Option.some_ne_none _))
     | (rw [show doF x c = (x, (lastF x c.client).1.reply) by unfold doF; rw [if_neg hml, if_pos (by omega)]]; exact ret_gen (R := [4, 5]) ⟨_, _, rfl, ⟨rfl, 4, 0, _, _, rfl, rfl, .inl ⟨3, Try.isAgg26, Try.sizeOf26, Nat.le_of_ble_eq_true rfl, rfl⟩⟩, _, _, rfl, ⟨rfl, 5, 0, _, _, rfl, rfl, .inl ⟨6, Try.isAgg35, Try.sizeOf35, Nat.le_of_ble_eq_true rfl, rfl⟩⟩, rfl⟩ (.tup (.cons (.agg (FrzL.tf rfl)) (.cons (.agg (FrzL.tf rfl)) .nil))) (fun t ht => by simp at ht; rcases ht with rfl | rfl <;> exact Option.some_ne_none _))
     | (rw [show doF x c = (x, noR 9) by unfold doF; rw [if_neg hml, if_neg (by omega), if_pos (by omega)]]; exact ret_gen (R := [4, 5]) ⟨_, _, rfl, ⟨rfl, 4, 0, _, _, rfl, rfl, .inl ⟨3, Try.isAgg26, Try.sizeOf26, Nat.le_of_ble_eq_true rfl, rfl⟩⟩, _, _, rfl, ⟨rfl, 5, 0, _, _, rfl, rfl, .inl ⟨6, Try.isAgg35, Try.sizeOf35, Nat.le_of_ble_eq_true rfl, rfl⟩⟩, rfl⟩ (.tup (.cons (.agg (FrzL.tf rfl)) (.cons (.agg (FrzL.tf rfl)) .nil))) (fun t ht => by simp at ht; rcases ht with rfl | rfl <;> exact Option.some_ne_none _))
     | (rw [show doF x c = (⟨(doesF x c).1.vols, (doesF x c).1.names, setL (doesF x c).1.last (lastF (doesF x c).1 c.client).2 ⟨c.client, c.seq, (doesF x c).2⟩⟩, (doesF x c).2) by unfold doF; rw [if_neg hml, if_neg (by omega), if_neg (by omega), if_pos (by omega)]]; exact ret_gen (R := [4, 5]) ⟨_, _, rfl, ⟨rfl, 4, 0, _, _, rfl, rfl, .inl ⟨3, Try.isAgg26, Try.sizeOf26, Nat.le_of_ble_eq_true rfl, rfl⟩⟩, _, _, rfl, ⟨rfl, 5, 0, _, _, rfl, rfl, .inl ⟨6, Try.isAgg35, Try.sizeOf35, Nat.le_of_ble_eq_true rfl, rfl⟩⟩, rfl⟩ (.tup (.cons (.agg (FrzL.tf rfl)) (.cons (.agg (FrzL.tf rfl)) .nil))) (fun t ht => by simp at ht; rcases ht with rfl | rfl <;> exact Option.some_ne_none _))
     | (rw [show doF x c = (doesF x c) by unfold doF; rw [if_neg hml, if_neg (by omega), if_neg (by omega), if_neg (by omega)]]; exact ret_gen (R := [4, 5]) ⟨_, _, rfl, ⟨rfl, 4, 0, _, _, rfl, rfl, .inl ⟨3, Try.isAgg26, Try.sizeOf26, Nat.le_of_ble_eq_true rfl, rfl⟩⟩, _, _, rfl, ⟨rfl, 5, 0, _, _, rfl, rfl, .inl ⟨6, Try.isAgg35, Try.sizeOf35, Nat.le_of_ble_eq_true rfl, rfl⟩⟩, rfl⟩ (.tup (.cons (.agg (FrzL.tf rfl)) (.cons (.agg (FrzL.tf rfl)) .nil))) (fun t ht => by simp at ht; rcases ht with rfl | rfl <;> exact Option.some_ne_none _))
    ·refine ok_skip ?_
     refine ok_drw Try.mixed ?_
     first
      | refine d1 rfl rfl (lop_load_rf_agg (ys := [_, _, _]) rfl rfl Try.isAgg26 Try.sizeOf26 (Nat.le_of_ble_eq_true rfl) rfl) ?_
      | refine d1 rfl rfl (lop_load_fp_agg (ys := [_, _, _]) rfl Try.isAgg26 Try.sizeOf26 (Nat.le_of_ble_eq_true rfl) rfl) ?_
     first
      | refine d1 rfl rfl (lop_load_rf_agg (ys := [.int _ _, .int _ _, .int _ _, .int _ _, .int _ _, .bool _]) rfl rfl Try.isAgg35 Try.sizeOf35 (Nat.le_of_ble_eq_true rfl) rfl) ?_
      | refine d1 rfl rfl (lop_load_fp_agg (ys := [.int _ _, .int _ _, .int _ _, .int _ _, .int _ _, .bool _]) rfl Try.isAgg35 Try.sizeOf35 (Nat.le_of_ble_eq_true rfl) rfl) ?_
     first
      | refine d0w rfl rfl (lop_storeK (v := .agg [_, _, _]) (cs' := [_, _, _]) (f' := true) rfl rfl rfl Try.sizeOf26 rfl rfl rfl rfl rfl) ?_
      | refine d0w rfl rfl (lop_storeK (v := .agg [_, _, _]) (cs' := [_, _, _]) (f' := false) rfl rfl rfl Try.sizeOf26 rfl rfl rfl rfl rfl) ?_
     first
      | refine d0w rfl rfl (lop_storeK (v := .agg [.int _ _, .int _ _, .int _ _, .int _ _, .int _ _, .bool _]) (cs' := [.int _ _, .int _ _, .int _ _, .int _ _, .int _ _, .bool _]) (f' := true) rfl rfl rfl Try.sizeOf35 rfl rfl rfl rfl rfl) ?_
      | refine d0w rfl rfl (lop_storeK (v := .agg [.int _ _, .int _ _, .int _ _, .int _ _, .int _ _, .bool _]) (cs' := [.int _ _, .int _ _, .int _ _, .int _ _, .int _ _, .bool _]) (f' := false) rfl rfl rfl Try.sizeOf35 rfl rfl rfl rfl rfl) ?_
     refine dr_nil (by kernel_rfl) ?_
     refine ok_ret ?_
     first
     | (rw [show doF x c = (x, noR 1) by unfold doF; rw [if_pos (by simpa using h_t13)]]; exact ret_gen (R := [4, 5]) ⟨_, _, rfl, ⟨rfl, 4, 0, _, _, rfl, rfl, .inl ⟨3, Try.isAgg26, Try.sizeOf26, Nat.le_of_ble_eq_true rfl, rfl⟩⟩, _, _, rfl, ⟨rfl, 5, 0, _, _, rfl, rfl, .inl ⟨6, Try.isAgg35, Try.sizeOf35, Nat.le_of_ble_eq_true rfl, rfl⟩⟩, rfl⟩ (.tup (.cons (.agg (FrzL.tf rfl)) (.cons (.agg (FrzL.tf rfl)) .nil))) (fun t ht => by simp at ht; rcases ht with rfl | rfl <;> exact Option.some_ne_none _))
     | (rw [show doF x c = (x, (lastF x c.client).1.reply) by unfold doF; rw [if_neg hml, if_pos (by omega)]]; exact ret_gen (R := [4, 5]) ⟨_, _, rfl, ⟨rfl, 4, 0, _, _, rfl, rfl, .inl ⟨3, Try.isAgg26, Try.sizeOf26, Nat.le_of_ble_eq_true rfl, rfl⟩⟩, _, _, rfl, ⟨rfl, 5, 0, _, _, rfl, rfl, .inl ⟨6, Try.isAgg35, Try.sizeOf35, Nat.le_of_ble_eq_true rfl, rfl⟩⟩, rfl⟩ (.tup (.cons (.agg (FrzL.tf rfl)) (.cons (.agg (FrzL.tf rfl)) .nil))) (fun t ht => by simp at ht; rcases ht with rfl | rfl <;> exact Option.some_ne_none _))
     | (rw [show doF x c = (x, noR 9) by unfold doF; rw [if_neg hml, if_neg (by omega), if_pos (by omega)]]; exact ret_gen (R := [4, 5]) ⟨_, _, rfl, ⟨rfl, 4, 0, _, _, rfl, rfl, .inl ⟨3, Try.isAgg26, Try.sizeOf26, Nat.le_of_ble_eq_true rfl, rfl⟩⟩, _, _, rfl, ⟨rfl, 5, 0, _, _, rfl, rfl, .inl ⟨6, Try.isAgg35, Try.sizeOf35, Nat.le_of_ble_eq_true rfl, rfl⟩⟩, rfl⟩ (.tup (.cons (.agg (FrzL.tf rfl)) (.cons (.agg (FrzL.tf rfl)) .nil))) (fun t ht => by simp at ht; rcases ht with rfl | rfl <;> exact Option.some_ne_none _))
     | (rw [show doF x c = (⟨(doesF x c).1.vols, (doesF x c).1.names, setL (doesF x c).1.last (lastF (doesF x c).1 c.client).2 ⟨c.client, c.seq, (doesF x c).2⟩⟩, (doesF x c).2) by unfold doF; rw [if_neg hml, if_neg (by omega), if_neg (by omega), if_pos (by omega)]]; exact ret_gen (R := [4, 5]) ⟨_, _, rfl, ⟨rfl, 4, 0, _, _, rfl, rfl, .inl ⟨3, Try.isAgg26, Try.sizeOf26, Nat.le_of_ble_eq_true rfl, rfl⟩⟩, _, _, rfl, ⟨rfl, 5, 0, _, _, rfl, rfl, .inl ⟨6, Try.isAgg35, Try.sizeOf35, Nat.le_of_ble_eq_true rfl, rfl⟩⟩, rfl⟩ (.tup (.cons (.agg (FrzL.tf rfl)) (.cons (.agg (FrzL.tf rfl)) .nil))) (fun t ht => by simp at ht; rcases ht with rfl | rfl <;> exact Option.some_ne_none _))
     | (rw [show doF x c = (doesF x c) by unfold doF; rw [if_neg hml, if_neg (by omega), if_neg (by omega), if_neg (by omega)]]; exact ret_gen (R := [4, 5]) ⟨_, _, rfl, ⟨rfl, 4, 0, _, _, rfl, rfl, .inl ⟨3, Try.isAgg26, Try.sizeOf26, Nat.le_of_ble_eq_true rfl, rfl⟩⟩, _, _, rfl, ⟨rfl, 5, 0, _, _, rfl, rfl, .inl ⟨6, Try.isAgg35, Try.sizeOf35, Nat.le_of_ble_eq_true rfl, rfl⟩⟩, rfl⟩ (.tup (.cons (.agg (FrzL.tf rfl)) (.cons (.agg (FrzL.tf rfl)) .nil))) (fun t ht => by simp at ht; rcases ht with rfl | rfl <;> exact Option.some_ne_none _))

end Go.Proofs
