/- Chapter 15: walks. Printed by gen.py. -/
import Derived.Test.YtajlkpogccbboaaT15l
import Derived.Test.YtajlkpogccbboaaQ15
set_option linter.unusedVariables false
set_option linter.unusedSimpArgs false
set_option maxRecDepth 100000
namespace Go.Proofs
open Go.Hg

def idx0 : IdxD := ⟨[], [], []⟩
def shC1 : CmdD := ⟨1, 0, 0, ⟨#[]⟩, 0, 0, 0, 0, 1, 2, 0, []⟩
def shC2 : CmdD := ⟨2, 0, 0, ⟨#[]⟩, 1, 0, 5, 0, 0, 0, 0, []⟩
def shC3 : CmdD := ⟨3, 0, 0, ⟨#[97]⟩, 1, 0, 5, 0, 0, 0, 0, []⟩
def shC4 : CmdD := ⟨5, 0, 0, ⟨#[97]⟩, 0, 0, 0, 0, 0, 0, 0, []⟩
def shX1 : IdxD := ⟨[⟨1, 1, 2, 0, 1, [], [], 0, 0⟩], [], []⟩
def shX2 : IdxD := ⟨[⟨1, 1, 2, 5, 1, [], [], 0, 0⟩], [], []⟩
def shX3 : IdxD := ⟨[⟨1, 1, 2, 5, 1, [⟨0, 5⟩], [], 0, 0⟩], [⟨⟨#[97]⟩, 1, 0, 5, 0⟩], []⟩
theorem fit0 : Fit 549755000000 idx0 := ⟨by simp [idx0], by simp [idx0], by simp [idx0], by simp [idx0], by simp [idx0], by simp [idx0]⟩
theorem fit1 : Fit 549755000000 shX1 := ⟨by simp [shX1], by simp [shX1], by simp [shX1], by simp [shX1], by simp [shX1], by simp [shX1, R64]⟩
theorem fit2 : Fit 549755000000 shX2 := ⟨by simp [shX2], by simp [shX2], by simp [shX2], by simp [shX2], by simp [shX2], by simp [shX2, R64]⟩
theorem fit3 : Fit 549755000000 shX3 := ⟨by simp [shX3], by simp [shX3], by simp [shX3], by simp [shX3], by simp [shX3], by simp [shX3, R64]⟩
theorem sh1_ac : AC Try.prog 11 [.agg idx0.enc, .agg shC1.enc] (.tup [.agg shX1.enc, .agg (⟨0, 1, 0, 0, 0, false⟩ : ReplyD).enc]) := by
  have h := index_Do_ac fit0 (c := shC1) (by simp [shC1])
  rwa [show doF idx0 shC1 = (shX1, ⟨0, 1, 0, 0, 0, false⟩) by kernel_rfl] at h
theorem sh2_ac : AC Try.prog 11 [.agg shX1.enc, .agg shC2.enc] (.tup [.agg shX2.enc, .agg (⟨0, 1, 0, 5, 0, false⟩ : ReplyD).enc]) := by
  have h := index_Do_ac fit1 (c := shC2) (by simp [shC2])
  rwa [show doF shX1 shC2 = (shX2, ⟨0, 1, 0, 5, 0, false⟩) by kernel_rfl] at h
theorem sh3_ac : AC Try.prog 11 [.agg shX2.enc, .agg shC3.enc] (.tup [.agg shX3.enc, .agg (⟨0, 0, 0, 0, 0, false⟩ : ReplyD).enc]) := by
  have h := index_Do_ac fit2 (c := shC3) (by simp [shC3])
  rwa [show doF shX2 shC3 = (shX3, ⟨0, 0, 0, 0, 0, false⟩) by kernel_rfl] at h
theorem sh4_ac : AC Try.prog 11 [.agg shX3.enc, .agg shC4.enc] (.tup [.agg shX3.enc, .agg (⟨0, 1, 0, 5, 0, true⟩ : ReplyD).enc]) := by
  have h := index_Do_ac fit3 (c := shC4) (by simp [shC4])
  rwa [show doF shX3 shC4 = (shX3, ⟨0, 1, 0, 5, 0, true⟩) by kernel_rfl] at h
theorem eqT35 (a : ReplyD) (w : World) : (binOp .eql 35 (.agg (a.enc.map valC).toArray) (.agg (a.enc.map valC).toArray)).run Try.prog w = .ok (.bool true) w := by rw [eq35, decide_eq_true rfl]
def runK (l : List CmdD) (i : Nat) : IdxD := (l.take i).foldl (fun x c => (doF x c).1) idx0
def runsF (l : List CmdD) : IdxD := runK l (min l.length 300)
theorem runK_succ {l : List CmdD} {i : Nat} (h : i < l.length) : runK l (i + 1) = (doF (runK l i) l[i]).1 := by
  unfold runK
  rw [List.take_add_one, List.getElem?_eq_getElem h, List.foldl_append]
  rfl
theorem Fit.le {n m : Nat} {x : IdxD} (h : Fit n x) (hm : n ≤ m) : Fit m x := ⟨Nat.le_trans h.vols hm, Nat.le_trans h.names hm, Nat.le_trans h.last hm, fun v hv => Nat.le_trans (h.parts v hv) hm, fun v hv => Nat.le_trans (h.places v hv) hm, h.used⟩
theorem runK_fit (l : List CmdD) : ∀ i, i ≤ l.length → Fit (14 + i) (runK l i)
  | 0, _ => ⟨by simp [runK, idx0], by simp [runK, idx0], by simp [runK, idx0], by simp [runK, idx0], by simp [runK, idx0], by simp [runK, idx0]⟩
  | i + 1, h => by
    rw [runK_succ h]
    exact do_fit (runK_fit l i (by omega)) (by omega)
def CmdsOk (l : List CmdD) : Prop := l.length ≤ 1048576 ∧ ∀ c ∈ l, c.places.length ≤ 1048576
theorem CmdD.len (c : CmdD) : c.enc.length = 12 := rfl

theorem shown_ac : AC Try.prog 9 [] (.bool true) := by
  refine AC.intro Try.func9 rfl (Nat.le_of_ble_eq_true rfl) ?_
  refine ok_reg ?_
  refine s1 rfl (lop_assign (v := .bool _) rfl) ?_
  refine ops_nil ?_
  refine ok_reg ?_
  refine s1 rfl (lop_buildK (cs := [.z0, .z0, .z0]) Try.underlying26 Try.zeroValue26 rfl rfl places26 rfl) ?_
  refine s1 rfl (lop_buildK (cs := [.int _ _, .int _ _, .int _ _, .str _, .int _ _, .int _ _, .int _ _, .int _ _, .int _ _, .int _ _, .int _ _, .z0]) Try.underlying30 Try.zeroValue30 rfl rfl places30 rfl) ?_
  refine s1 rfl (lop_call rfl Try.call11 (fzL_sound _ [] _ rfl) (.inl rfl) sh1_ac) ?_
  refine s1 rfl (lop_move (v := .tup _) rfl) ?_
  refine s1 rfl (lop_extract rfl rfl) ?_
  refine s1 rfl (lop_extract rfl rfl) ?_
  refine s1w rfl (lop_new (t := 1) (cs := [.z0, .z0, .z0]) Try.zeroValue26 rfl rfl rfl rfl) rfl ?_
  refine s1w rfl (lop_new (t := 2) (cs := [.int _ _, .int _ _, .int _ _, .int _ _, .int _ _, .bool _]) Try.zeroValue35 rfl rfl rfl rfl) rfl ?_
  first
    | refine s0w rfl (lop_storeK (v := .agg [_, _, _]) (cs' := [_, _, _]) (f' := true) rfl rfl rfl Try.sizeOf26 rfl rfl rfl rfl rfl) ?_
    | refine s0w rfl (lop_storeK (v := .agg [_, _, _]) (cs' := [_, _, _]) (f' := false) rfl rfl rfl Try.sizeOf26 rfl rfl rfl rfl rfl) ?_
  first
    | refine s0w rfl (lop_storeK (v := .agg [.int _ _, .int _ _, .int _ _, .int _ _, .int _ _, .bool _]) (cs' := [.int _ _, .int _ _, .int _ _, .int _ _, .int _ _, .bool _]) (f' := true) rfl rfl rfl Try.sizeOf35 rfl rfl rfl rfl rfl) ?_
    | refine s0w rfl (lop_storeK (v := .agg [.int _ _, .int _ _, .int _ _, .int _ _, .int _ _, .bool _]) (cs' := [.int _ _, .int _ _, .int _ _, .int _ _, .int _ _, .bool _]) (f' := false) rfl rfl rfl Try.sizeOf35 rfl rfl rfl rfl rfl) ?_
  refine ops_nil ?_
  refine ok_reg ?_
  first
    | refine s1 rfl (lop_load_rf_agg (ys := [_, _, _]) rfl rfl Try.isAgg26 Try.sizeOf26 (Nat.le_of_ble_eq_true rfl) rfl) ?_
    | refine s1 rfl (lop_load_fp_agg (ys := [_, _, _]) rfl Try.isAgg26 Try.sizeOf26 (Nat.le_of_ble_eq_true rfl) rfl) ?_
  refine s1 rfl (lop_buildK (cs := [.int _ _, .int _ _, .int _ _, .str _, .int _ _, .int _ _, .int _ _, .int _ _, .int _ _, .int _ _, .int _ _, .z0]) Try.underlying30 Try.zeroValue30 rfl rfl places30 rfl) ?_
  refine s1 rfl (lop_call rfl Try.call11 (fzL_sound _ [] _ rfl) (.inl rfl) sh2_ac) ?_
  refine s1 rfl (lop_move (v := .tup _) rfl) ?_
  refine s1 rfl (lop_extract rfl rfl) ?_
  refine s1 rfl (lop_extract rfl rfl) ?_
  refine s1w rfl (lop_new (t := 3) (cs := [.int _ _, .int _ _, .int _ _, .int _ _, .int _ _, .bool _]) Try.zeroValue35 rfl rfl rfl rfl) rfl ?_
  first
    | refine s0w rfl (lop_storeK (v := .agg [_, _, _]) (cs' := [_, _, _]) (f' := true) rfl rfl rfl Try.sizeOf26 rfl rfl rfl rfl rfl) ?_
    | refine s0w rfl (lop_storeK (v := .agg [_, _, _]) (cs' := [_, _, _]) (f' := false) rfl rfl rfl Try.sizeOf26 rfl rfl rfl rfl rfl) ?_
  first
    | refine s0w rfl (lop_storeK (v := .agg [.int _ _, .int _ _, .int _ _, .int _ _, .int _ _, .bool _]) (cs' := [.int _ _, .int _ _, .int _ _, .int _ _, .int _ _, .bool _]) (f' := true) rfl rfl rfl Try.sizeOf35 rfl rfl rfl rfl rfl) ?_
    | refine s0w rfl (lop_storeK (v := .agg [.int _ _, .int _ _, .int _ _, .int _ _, .int _ _, .bool _]) (cs' := [.int _ _, .int _ _, .int _ _, .int _ _, .int _ _, .bool _]) (f' := false) rfl rfl rfl Try.sizeOf35 rfl rfl rfl rfl rfl) ?_
  refine ops_nil ?_
  refine ok_reg ?_
  first
    | refine s1 rfl (lop_load_rf_agg (ys := [_, _, _]) rfl rfl Try.isAgg26 Try.sizeOf26 (Nat.le_of_ble_eq_true rfl) rfl) ?_
    | refine s1 rfl (lop_load_fp_agg (ys := [_, _, _]) rfl Try.isAgg26 Try.sizeOf26 (Nat.le_of_ble_eq_true rfl) rfl) ?_
  refine s1 rfl (lop_buildK (cs := [.int _ _, .int _ _, .int _ _, .str _, .int _ _, .int _ _, .int _ _, .int _ _, .int _ _, .int _ _, .int _ _, .z0]) Try.underlying30 Try.zeroValue30 rfl rfl places30 rfl) ?_
  refine s1 rfl (lop_call rfl Try.call11 (fzL_sound _ [] _ rfl) (.inl rfl) sh3_ac) ?_
  refine s1 rfl (lop_move (v := .tup _) rfl) ?_
  refine s1 rfl (lop_extract rfl rfl) ?_
  refine s1 rfl (lop_extract rfl rfl) ?_
  refine s1w rfl (lop_new (t := 4) (cs := [.int _ _, .int _ _, .int _ _, .int _ _, .int _ _, .bool _]) Try.zeroValue35 rfl rfl rfl rfl) rfl ?_
  first
    | refine s0w rfl (lop_storeK (v := .agg [_, _, _]) (cs' := [_, _, _]) (f' := true) rfl rfl rfl Try.sizeOf26 rfl rfl rfl rfl rfl) ?_
    | refine s0w rfl (lop_storeK (v := .agg [_, _, _]) (cs' := [_, _, _]) (f' := false) rfl rfl rfl Try.sizeOf26 rfl rfl rfl rfl rfl) ?_
  first
    | refine s0w rfl (lop_storeK (v := .agg [.int _ _, .int _ _, .int _ _, .int _ _, .int _ _, .bool _]) (cs' := [.int _ _, .int _ _, .int _ _, .int _ _, .int _ _, .bool _]) (f' := true) rfl rfl rfl Try.sizeOf35 rfl rfl rfl rfl rfl) ?_
    | refine s0w rfl (lop_storeK (v := .agg [.int _ _, .int _ _, .int _ _, .int _ _, .int _ _, .bool _]) (cs' := [.int _ _, .int _ _, .int _ _, .int _ _, .int _ _, .bool _]) (f' := false) rfl rfl rfl Try.sizeOf35 rfl rfl rfl rfl rfl) ?_
  refine ops_nil ?_
  refine ok_reg ?_
  first
    | refine s1 rfl (lop_load_rf_agg (ys := [_, _, _]) rfl rfl Try.isAgg26 Try.sizeOf26 (Nat.le_of_ble_eq_true rfl) rfl) ?_
    | refine s1 rfl (lop_load_fp_agg (ys := [_, _, _]) rfl Try.isAgg26 Try.sizeOf26 (Nat.le_of_ble_eq_true rfl) rfl) ?_
  refine s1 rfl (lop_buildK (cs := [.int _ _, .int _ _, .int _ _, .str _, .int _ _, .int _ _, .int _ _, .int _ _, .int _ _, .int _ _, .int _ _, .z0]) Try.underlying30 Try.zeroValue30 rfl rfl places30 rfl) ?_
  refine s1 rfl (lop_call rfl Try.call11 (fzL_sound _ [] _ rfl) (.inl rfl) sh4_ac) ?_
  refine s1 rfl (lop_move (v := .tup _) rfl) ?_
  refine s1 rfl (lop_extract rfl rfl) ?_
  refine s1 rfl (lop_extract rfl rfl) ?_
  refine s1w rfl (lop_new (t := 5) (cs := [.z0, .z0, .z0]) Try.zeroValue26 rfl rfl rfl rfl) rfl ?_
  refine s1w rfl (lop_new (t := 6) (cs := [.int _ _, .int _ _, .int _ _, .int _ _, .int _ _, .bool _]) Try.zeroValue35 rfl rfl rfl rfl) rfl ?_
  first
    | refine s0w rfl (lop_storeK (v := .agg [_, _, _]) (cs' := [_, _, _]) (f' := true) rfl rfl rfl Try.sizeOf26 rfl rfl rfl rfl rfl) ?_
    | refine s0w rfl (lop_storeK (v := .agg [_, _, _]) (cs' := [_, _, _]) (f' := false) rfl rfl rfl Try.sizeOf26 rfl rfl rfl rfl rfl) ?_
  first
    | refine s0w rfl (lop_storeK (v := .agg [.int _ _, .int _ _, .int _ _, .int _ _, .int _ _, .bool _]) (cs' := [.int _ _, .int _ _, .int _ _, .int _ _, .int _ _, .bool _]) (f' := true) rfl rfl rfl Try.sizeOf35 rfl rfl rfl rfl rfl) ?_
    | refine s0w rfl (lop_storeK (v := .agg [.int _ _, .int _ _, .int _ _, .int _ _, .int _ _, .bool _]) (cs' := [.int _ _, .int _ _, .int _ _, .int _ _, .int _ _, .bool _]) (f' := false) rfl rfl rfl Try.sizeOf35 rfl rfl rfl rfl rfl) ?_
  refine ops_nil ?_
  refine ok_reg ?_
  first
    | refine s1 rfl (lop_load_rf_agg (ys := [.int _ _, .int _ _, .int _ _, .int _ _, .int _ _, .bool _]) rfl rfl Try.isAgg35 Try.sizeOf35 (Nat.le_of_ble_eq_true rfl) rfl) ?_
    | refine s1 rfl (lop_load_fp_agg (ys := [.int _ _, .int _ _, .int _ _, .int _ _, .int _ _, .bool _]) rfl Try.isAgg35 Try.sizeOf35 (Nat.le_of_ble_eq_true rfl) rfl) ?_
  refine s1 rfl (lop_buildK (cs := [.int _ _, .int _ _, .int _ _, .int _ _, .int _ _, .bool _]) Try.underlying35 Try.zeroValue35 rfl rfl places35 rfl) ?_
  refine s1 rfl (lop_aeql (b := true) rfl rfl rfl rfl eqg35 (eqT35 ⟨0, 1, 0, 0, 0, false⟩)) ?_
  refine s1 rfl (lop_move (v := .bool _) rfl) ?_
  first
    | refine y1 rfl rfl rfl rfl (lop_load_rf_agg (ys := [.int _ _, .int _ _, .int _ _, .int _ _, .int _ _, .bool _]) rfl rfl Try.isAgg35 Try.sizeOf35 (Nat.le_of_ble_eq_true rfl) rfl) ?_
    | refine y1 rfl rfl rfl rfl (lop_load_fp_agg (ys := [.int _ _, .int _ _, .int _ _, .int _ _, .int _ _, .bool _]) rfl Try.isAgg35 Try.sizeOf35 (Nat.le_of_ble_eq_true rfl) rfl) ?_
  refine y1 rfl rfl rfl rfl (lop_buildK (cs := [.int _ _, .int _ _, .int _ _, .int _ _, .int _ _, .bool _]) Try.underlying35 Try.zeroValue35 rfl rfl places35 rfl) ?_
  refine y1 rfl rfl rfl rfl (lop_aeql (b := true) rfl rfl rfl rfl eqg35 (eqT35 ⟨0, 1, 0, 5, 0, false⟩)) ?_
  first
    | refine s1 rfl (lop_pick_t (v := .bool _) rfl rfl rfl) ?_
    | refine s1 rfl (lop_pick_t (v := .bool _) rfl rfl rfl) ?_
    | refine s1 rfl (lop_pick_f (v := .bool _) rfl rfl rfl) ?_
    | refine s1 rfl (lop_pick rfl rfl rfl) ?_
  refine s1 rfl (lop_move (v := .bool _) rfl) ?_
  first
    | refine y1 rfl rfl rfl rfl (lop_load_rf_agg (ys := [.int _ _, .int _ _, .int _ _, .int _ _, .int _ _, .bool _]) rfl rfl Try.isAgg35 Try.sizeOf35 (Nat.le_of_ble_eq_true rfl) rfl) ?_
    | refine y1 rfl rfl rfl rfl (lop_load_fp_agg (ys := [.int _ _, .int _ _, .int _ _, .int _ _, .int _ _, .bool _]) rfl Try.isAgg35 Try.sizeOf35 (Nat.le_of_ble_eq_true rfl) rfl) ?_
  refine y1 rfl rfl rfl rfl (lop_buildK (cs := [.int _ _, .int _ _, .int _ _, .int _ _, .int _ _, .bool _]) Try.underlying35 Try.zeroValue35 rfl rfl places35 rfl) ?_
  refine y1 rfl rfl rfl rfl (lop_aeql (b := true) rfl rfl rfl rfl eqg35 (eqT35 ⟨0, 0, 0, 0, 0, false⟩)) ?_
  first
    | refine s1 rfl (lop_pick_t (v := .bool _) rfl rfl rfl) ?_
    | refine s1 rfl (lop_pick_t (v := .bool _) rfl rfl rfl) ?_
    | refine s1 rfl (lop_pick_t (v := .bool _) rfl rfl rfl) ?_
    | refine s1 rfl (lop_pick_f (v := .bool _) rfl rfl rfl) ?_
    | refine s1 rfl (lop_pick rfl rfl rfl) ?_
  refine s1 rfl (lop_move (v := .bool _) rfl) ?_
  first
    | refine y1 rfl rfl rfl rfl (lop_load_rf_agg (ys := [.int _ _, .int _ _, .int _ _, .int _ _, .int _ _, .bool _]) rfl rfl Try.isAgg35 Try.sizeOf35 (Nat.le_of_ble_eq_true rfl) rfl) ?_
    | refine y1 rfl rfl rfl rfl (lop_load_fp_agg (ys := [.int _ _, .int _ _, .int _ _, .int _ _, .int _ _, .bool _]) rfl Try.isAgg35 Try.sizeOf35 (Nat.le_of_ble_eq_true rfl) rfl) ?_
  refine y1 rfl rfl rfl rfl (lop_buildK (cs := [.int _ _, .int _ _, .int _ _, .int _ _, .int _ _, .bool _]) Try.underlying35 Try.zeroValue35 rfl rfl places35 rfl) ?_
  refine y1 rfl rfl rfl rfl (lop_aeql (b := true) rfl rfl rfl rfl eqg35 (eqT35 ⟨0, 1, 0, 5, 0, true⟩)) ?_
  first
    | refine s1 rfl (lop_pick_t (v := .bool _) rfl rfl rfl) ?_
    | refine s1 rfl (lop_pick_t (v := .bool _) rfl rfl rfl) ?_
    | refine s1 rfl (lop_pick_t (v := .bool _) rfl rfl rfl) ?_
    | refine s1 rfl (lop_pick_t (v := .bool _) rfl rfl rfl) ?_
    | refine s1 rfl (lop_pick_f (v := .bool _) rfl rfl rfl) ?_
    | refine s1 rfl (lop_pick rfl rfl rfl) ?_
  refine s1 rfl (lop_assign (v := .bool _) rfl) ?_
  refine ops_nil ?_
  refine ok_ret ?_
  exact ret_one rfl rfl rfl rfl rfl

theorem runs_ac {l : List CmdD} (hl : CmdsOk l) : AC Try.prog 14 [rowOf CmdD.enc l] (.agg (runsF l).enc) := by
  have hll := hl.1
  refine AC.intro Try.func14 rfl (Nat.le_of_ble_eq_true rfl) ?_
  refine ok_reg ?_
  refine s1w rfl (lop_new (t := 2) (cs := [.z0, .z0, .z0]) Try.zeroValue26 rfl rfl rfl rfl) rfl ?_
  refine ops_nil ?_
  refine ok_reg ?_
  refine s1 rfl (lop_buildK (cs := [.z0, .z0, .z0]) Try.underlying26 Try.zeroValue26 rfl rfl places26 rfl) ?_
  refine s1w rfl (lop_new (t := 3) (cs := [.z0, .z0, .z0]) Try.zeroValue26 rfl rfl rfl rfl) rfl ?_
  first
    | refine s0w rfl (lop_storeK (v := .agg [_, _, _]) (cs' := [_, _, _]) (f' := true) rfl rfl rfl Try.sizeOf26 rfl rfl rfl rfl rfl) ?_
    | refine s0w rfl (lop_storeK (v := .agg [_, _, _]) (cs' := [_, _, _]) (f' := false) rfl rfl rfl Try.sizeOf26 rfl rfl rfl rfl rfl) ?_
  refine ops_nil ?_
  refine ok_seq ?_
  refine ok_reg ?_
  refine ops_le (le_zs (t := 3) rfl rfl) ?_
  refine s1 rfl (lop_assign (v := .int _ _) rfl) ?_
  refine ops_nil ?_
  refine ok_block ?_
  refine ok_loop (ι := {i : Nat // i ≤ l.length ∧ i ≤ 300}) (fun i => ⟨[(0, rowOf CmdD.enc l), (2, .rf 2 0), (3, .rf 3 0), (4, i64 i.1)], [(2, some (true, [.z0, .z0, .z0])), (3, some (true, (runK l i.1).enc))], 26⟩) (fun i => l.length - i.1) (⟨0, Nat.zero_le _, Nat.zero_le _⟩) ?_ ?_
  · exact le_mk ⟨rfl, rfl, rfl, rfl, trivial⟩ ⟨.inr rfl, .inr rfl, trivial⟩ rfl
  rintro ⟨i, hi, hi3⟩
  dsimp only
  have hfit := (runK_fit l i hi).le (show 14 + i ≤ 549755000000 by omega)
  refine ok_seq ?_
  refine ok_reg ?_
  refine s1 rfl (lop_move (v := .int _ _) rfl) ?_
  first
    | refine s1 rfl (lop_move (v := .sl _ _) rfl) ?_
    | refine s1 rfl (lop_move (v := .os _ _ _ _) rfl) ?_
    | refine s1 rfl (lop_move (v := .z0) rfl) ?_
  refine s1 rfl (lop_len rfl Try.underlying44 ⟨⟨_, rfl⟩, rfl⟩) ?_
  refine s1 rfl (lop_lss rfl rfl) ?_
  refine s1 rfl (lop_move (v := .bool _) rfl) ?_
  first
    | refine gsplitP 4 rfl rfl (fun g3_4 p3_4 => ?_) (fun g3_4 p3_4 => ?_)
    | refine gsplitB 4 rfl rfl (fun g3_4 p3_4 => ?_) (fun g3_4 p3_4 => ?_)
  · have hri : i < l.length := by omega
    have hpl := hl.2 l[i] (List.getElem_mem hri)
    refine y1 rfl rfl g3_4 rfl (lop_move (v := .int _ _) rfl) ?_
    refine y1 rfl rfl g3_4 rfl (lop_lss rfl rfl) ?_
    first
      | refine s1 rfl (lop_pick_t (v := .bool _) rfl g3_4 rfl) ?_
      | refine s1 rfl (lop_pick_t (v := .bool _) rfl rfl rfl) ?_
      | refine s1 rfl (lop_pick_f (v := .bool _) rfl rfl rfl) ?_
      | refine s1 rfl (lop_pick rfl rfl rfl) ?_
    refine ops_nil ?_
    first
      | refine ok_if _ rfl rfl (fun h_t13 => ?_) (fun h_t13 => ?_)
      | refine ok_cond rfl rfl (fun h_t13 => ?_) (fun h_t13 => ?_)
    · refine ok_skip ?_
      refine ok_seq ?_
      refine ok_block ?_
      refine ok_draw Try.mixed ?_
      first
        | refine d1 rfl rfl (lop_load_rf_agg (ys := [_, _, _]) rfl rfl Try.isAgg26 Try.sizeOf26 (Nat.le_of_ble_eq_true rfl) rfl) ?_
        | refine d1 rfl rfl (lop_load_fp_agg (ys := [_, _, _]) rfl Try.isAgg26 Try.sizeOf26 (Nat.le_of_ble_eq_true rfl) rfl) ?_
      first
        | refine d1 rfl rfl (lop_move (v := .sl _ _) rfl) ?_
        | refine d1 rfl rfl (lop_move (v := .os _ _ _ _) rfl) ?_
        | refine d1 rfl rfl (lop_move (v := .z0) rfl) ?_
      refine d1 rfl rfl (lop_move (v := .int _ _) rfl) ?_
      first
        | refine d1 rfl rfl (lop_indexAddr_os rfl rfl Try.underlying44 Try.sizeOf30 rfl hri) ?_
        | refine d1 rfl rfl (lop_indexAddr_sl rfl rfl Try.underlying44 Try.sizeOf30 rfl hri (flat_at CmdD.len hri) (flat_ne CmdD.len (by decide) hri)) ?_
      first
        | refine d1 rfl rfl (lop_load_rf_agg rfl rfl Try.isAgg30 Try.sizeOf30 (by rw [List.length_append, CmdD.len]; omega) (by rw [List.take_append_of_le_length (by rw [CmdD.len]; omega), List.take_of_length_le (by rw [CmdD.len]; omega)])) ?_
        | refine d1 rfl rfl (lop_load_fp_agg rfl Try.isAgg30 Try.sizeOf30 (by rw [List.length_append, CmdD.len]; omega) (by rw [List.take_append_of_le_length (by rw [CmdD.len]; omega), List.take_of_length_le (by rw [CmdD.len]; omega)])) ?_
      refine d1 rfl rfl (lop_call rfl Try.call11 (FrzL.tf rfl) (.inl rfl) (index_Do_ac hfit (c := l[i]) (by omega))) ?_
      refine d1 rfl rfl (lop_move (v := .tup _) rfl) ?_
      refine d1 rfl rfl (lop_extract rfl rfl) ?_
      refine d1 rfl rfl (lop_extract rfl rfl) ?_
      first
        | refine d0w rfl rfl (lop_storeK (v := .agg [_, _, _]) (cs' := [_, _, _]) (f' := true) rfl rfl rfl Try.sizeOf26 rfl rfl rfl rfl rfl) ?_
        | refine d0w rfl rfl (lop_storeK (v := .agg [_, _, _]) (cs' := [_, _, _]) (f' := false) rfl rfl rfl Try.sizeOf26 rfl rfl rfl rfl rfl) ?_
      refine dr_nil (by kernel_rfl) ?_
      refine ok_region ?_
      refine s1 rfl (lop_move (v := .int _ _) rfl) ?_
      refine s1 rfl (lop_bop rfl rfl rfl (bop_add (by omega) (by omega))) ?_
      refine s1 rfl (lop_assign (v := .int _ _) rfl) ?_
      refine ops_nil ?_
      exact ⟨⟨i + 1, by omega, by omega⟩, by simp only; omega, le_mk ⟨rfl, rfl, rfl, rfl, trivial⟩ ⟨.inr rfl, .inr (by rw [runK_succ hri]; rfl), trivial⟩ rfl⟩
    · refine ok_exit ?_
      refine ok_reg ?_
      first
        | refine s1 rfl (lop_load_rf_agg (ys := [_, _, _]) rfl rfl Try.isAgg26 Try.sizeOf26 (Nat.le_of_ble_eq_true rfl) rfl) ?_
        | refine s1 rfl (lop_load_fp_agg (ys := [_, _, _]) rfl Try.isAgg26 Try.sizeOf26 (Nat.le_of_ble_eq_true rfl) rfl) ?_
      first
        | refine s0w rfl (lop_storeK (v := .agg [_, _, _]) (cs' := [_, _, _]) (f' := true) rfl rfl rfl Try.sizeOf26 rfl rfl rfl rfl rfl) ?_
        | refine s0w rfl (lop_storeK (v := .agg [_, _, _]) (cs' := [_, _, _]) (f' := false) rfl rfl rfl Try.sizeOf26 rfl rfl rfl rfl rfl) ?_
      refine ops_nil ?_
      refine ok_ret ?_
      have e9 : i = min l.length 300 := by omega
      rw [show runsF l = runK l i by unfold runsF; rw [e9]]
      exact ret_gen (R := [2]) ⟨_, _, rfl, ⟨rfl, 2, 0, _, _, rfl, rfl, .inl ⟨3, Try.isAgg26, Try.sizeOf26, Nat.le_of_ble_eq_true rfl, rfl⟩⟩, rfl⟩ (.agg (FrzL.tf rfl)) (fun t ht => by simp at ht; subst ht; exact Option.some_ne_none _)
  · refine n1 rfl rfl g3_4 ?_
    refine n1 rfl rfl g3_4 ?_
    first
      | refine s1 rfl (lop_pick_f (v := .bool _) rfl g3_4 rfl) ?_
      | refine s1 rfl (lop_pick_t (v := .bool _) rfl rfl rfl) ?_
      | refine s1 rfl (lop_pick_f (v := .bool _) rfl rfl rfl) ?_
      | refine s1 rfl (lop_pick rfl rfl rfl) ?_
    refine ops_nil ?_
    refine ok_false rfl rfl ?_
    refine ok_exit ?_
    refine ok_reg ?_
    first
      | refine s1 rfl (lop_load_rf_agg (ys := [_, _, _]) rfl rfl Try.isAgg26 Try.sizeOf26 (Nat.le_of_ble_eq_true rfl) rfl) ?_
      | refine s1 rfl (lop_load_fp_agg (ys := [_, _, _]) rfl Try.isAgg26 Try.sizeOf26 (Nat.le_of_ble_eq_true rfl) rfl) ?_
    first
      | refine s0w rfl (lop_storeK (v := .agg [_, _, _]) (cs' := [_, _, _]) (f' := true) rfl rfl rfl Try.sizeOf26 rfl rfl rfl rfl rfl) ?_
      | refine s0w rfl (lop_storeK (v := .agg [_, _, _]) (cs' := [_, _, _]) (f' := false) rfl rfl rfl Try.sizeOf26 rfl rfl rfl rfl rfl) ?_
    refine ops_nil ?_
    refine ok_ret ?_
    have e9 : i = min l.length 300 := by omega
    rw [show runsF l = runK l i by unfold runsF; rw [e9]]
    exact ret_gen (R := [2]) ⟨_, _, rfl, ⟨rfl, 2, 0, _, _, rfl, rfl, .inl ⟨3, Try.isAgg26, Try.sizeOf26, Nat.le_of_ble_eq_true rfl, rfl⟩⟩, rfl⟩ (.agg (FrzL.tf rfl)) (fun t ht => by simp at ht; subst ht; exact Option.some_ne_none _)

end Go.Proofs
