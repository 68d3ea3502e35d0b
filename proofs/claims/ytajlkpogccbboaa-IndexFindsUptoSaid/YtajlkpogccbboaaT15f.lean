/- Chapter 15: walks. Printed by gen.py. -/
import Derived.Test.YtajlkpogccbboaaT15e
set_option linter.unusedVariables false
set_option linter.unusedSimpArgs false
set_option maxRecDepth 100000
namespace Go.Proofs
open Go.Hg

structure Fit (n : Nat) (x : IdxD) : Prop where
  vols : x.vols.length ≤ n
  names : x.names.length ≤ n
  last : x.last.length ≤ n
  parts : ∀ v ∈ x.vols, v.parts.length ≤ n
  places : ∀ v ∈ x.vols, v.places.length ≤ n
  used : ∀ v ∈ x.vols, R64 v.used
structure May (c : CmdD) : Prop where
  kind : 1 ≤ c.kind ∧ c.kind ≤ 9
  client : 0 ≤ c.client ∧ c.client ≤ 16
  seq : 0 ≤ c.seq ∧ c.seq ≤ 1073741824
  places : c.places.length ≤ 14
  odd : ∀ p ∈ c.places, oddP p = false
  vol : 0 ≤ c.vol ∧ c.vol ≤ 1048576
  off : 0 ≤ c.off ∧ c.off ≤ 1048576
  n : 0 ≤ c.n ∧ c.n ≤ 1048576
  region : 0 ≤ c.region ∧ c.region ≤ 1048576
  mate : 0 ≤ c.mate ∧ c.mate ≤ 1048576
  idx : 0 ≤ c.idx ∧ c.idx ≤ 1048576
theorem may_of {c : CmdD} (h : mayF c = true) : May c := by
  unfold mayF at h
  simp only [Bool.and_eq_true, Bool.not_eq_true', List.any_eq_false, decide_eq_true_eq] at h
  obtain ⟨⟨h1, h2⟩, h3⟩ := h
  have k : ∀ n ∈ [c.vol, c.off, c.n, c.region, c.mate, c.idx], 0 ≤ n ∧ n ≤ 1048576 := fun n hn => by
    have := h3 n hn
    simpa [small] using this
  exact ⟨⟨h1.1, h1.2.1⟩, ⟨h1.2.2.1, h1.2.2.2.1⟩, ⟨h1.2.2.2.2.1, h1.2.2.2.2.2.1⟩, h1.2.2.2.2.2.2.2, fun p hp => by simpa using h2 p hp, k _ (by simp), k _ (by simp), k _ (by simp), k _ (by simp), k _ (by simp), k _ (by simp)⟩
theorem volF_mem {x : IdxD} {id : Int} (h : ¬ (volF x id).2 < 0) : (volF x id).1 ∈ x.vols ∧ (volF x id).2 < x.vols.length ∧ 0 ≤ (volF x id).2 ∧ (volF x id).1.id = id ∧ x.vols[(volF x id).2.toNat]? = some (volF x id).1 := by
  unfold volF at h ⊢
  rw [findG_idx] at h
  obtain ⟨i, hi, h1, h2, h3⟩ := findG_at (z := VolD.zero) h
  rw [h2]
  exact ⟨List.getElem_mem hi, by simp only; omega, by simp only; omega, by simpa using h3, by simp only [Int.toNat_natCast]; exact List.getElem?_eq_getElem hi⟩
theorem nameF_mem {x : IdxD} {s : ByteArray} (h : ¬ (nameF x s).2 < 0) : (nameF x s).1 ∈ x.names ∧ (nameF x s).2 < x.names.length ∧ 0 ≤ (nameF x s).2 ∧ (nameF x s).1.name = s ∧ x.names[(nameF x s).2.toNat]? = some (nameF x s).1 := by
  unfold nameF at h ⊢
  rw [findG_idx] at h
  obtain ⟨i, hi, h1, h2, h3⟩ := findG_at (z := NameD.zero) h
  rw [h2]
  exact ⟨List.getElem_mem hi, by simp only; omega, by simp only; omega, by simpa using h3, by simp only [Int.toNat_natCast]; exact List.getElem?_eq_getElem hi⟩
theorem setL_neg {α : Type} (l : List α) (x : α) : setL l (-1) x = l ++ [x] := rfl
theorem whole_step {l : List PlD} {r : Int} {i : Nat} (hn : ∀ j, j < i → wholeP l r j = true) (h : wholeP l r i = true) : ∀ j, j < i + 1 → wholeP l r j = true := by
  intro j hj
  rcases Nat.lt_or_ge j i with h1 | h1
  · exact hn j h1
  · have : j = i := by omega
    subst this; exact h
theorem whole_no {l : List PlD} {r : Int} {i : Nat} (h : i < l.length) (hf : wholeP l r i = false) : false = wholeF l r := by
  unfold wholeF
  have : (List.range l.length).all (wholeP l r) = false := by
    rw [List.all_eq_false]
    exact ⟨i, List.mem_range.2 h, by rw [hf]; simp⟩
  rw [this, Bool.false_and]
theorem whole_yes {l : List PlD} {r : Int} (h : ∀ j, j < l.length → wholeP l r j = true) : decide ((l.length : Int) = 14) = wholeF l r := by
  unfold wholeF
  have : (List.range l.length).all (wholeP l r) = true := by
    rw [List.all_eq_true]
    intro j hj
    exact h j (List.mem_range.1 hj)
  rw [this, Bool.true_and]
  exact decide_eq_decide.2 (by omega)
theorem getD_at {α : Type} (l : List α) {i : Nat} {d : α} (h : i < l.length) : l.getD i d = l[i] := by
  rw [List.getD_eq_getElem?_getD, List.getElem?_eq_getElem h]; rfl

theorem whole_ac {l : List PlD} (hl : l.length ≤ 549755813888) (r : Int) : AC Try.prog 69 [rowOf PlD.enc l, i64 r] (.bool (wholeF l r)) := by
  refine AC.intro Try.func69 rfl (Nat.le_of_ble_eq_true rfl) ?_
  refine ok_reg ?_
  refine s1 rfl (lop_assign (v := .bool _) rfl) ?_
  refine ops_nil ?_
  refine ok_seq ?_
  refine ok_reg ?_
  first
    | refine s1 rfl (lop_move (v := .sl _ _) rfl) ?_
    | refine s1 rfl (lop_move (v := .os _ _ _ _) rfl) ?_
    | refine s1 rfl (lop_move (v := .z0) rfl) ?_
  refine s1 rfl (lop_len rfl Try.underlying28 ⟨⟨_, rfl⟩, rfl⟩) ?_
  refine s1 rfl (lop_move (v := .int _ _) rfl) ?_
  refine ops_nil ?_
  refine ok_block ?_
  refine ok_loop (ι := {i : Nat // i ≤ l.length ∧ ∀ j, j < i → wholeP l r j = true}) (fun i => ⟨[(0, rowOf PlD.enc l), (1, i64 r), (7, rowOf PlD.enc l), (8, i64 l.length), (9, i64 i.1)], [], 29⟩) (fun i => l.length - i.1) (⟨0, Nat.zero_le _, fun _ h => absurd h (Nat.not_lt_zero _)⟩) ?_ ?_
  · exact le_mk ⟨rfl, rfl, rfl, rfl, rfl, trivial⟩ trivial rfl
  rintro ⟨i, hi, hn⟩
  dsimp only
  refine ok_reg ?_
  refine s1 rfl (lop_lss rfl rfl) ?_
  refine ops_nil ?_
  refine ok_seq ?_
  first
    | refine ok_if _ rfl rfl (fun h_t10 => ?_) (fun h_t10 => ?_)
    | refine ok_cond rfl rfl (fun h_t10 => ?_) (fun h_t10 => ?_)
  · have hri : i < l.length := by omega
    refine ok_skip ?_
    refine ok_seq ?_
    refine ok_block ?_
    refine ok_reg ?_
    refine s1 rfl (lop_move (v := .int _ _) rfl) ?_
    first
      | refine s1 rfl (lop_indexAddr_os rfl rfl Try.underlying28 Try.sizeOf57 rfl hri) ?_
      | refine s1 rfl (lop_indexAddr_sl rfl rfl Try.underlying28 Try.sizeOf57 rfl hri (flat_at PlD.len hri) (flat_ne PlD.len (by decide) hri)) ?_
    first
      | refine s1 rfl (lop_load_rf_agg rfl rfl Try.isAgg57 Try.sizeOf57 (by rw [List.length_append, PlD.len]; omega) (by rw [List.take_append_of_le_length (by rw [PlD.len]; omega), List.take_of_length_le (by rw [PlD.len]; omega)])) ?_
      | refine s1 rfl (lop_load_fp_agg rfl Try.isAgg57 Try.sizeOf57 (by rw [List.length_append, PlD.len]; omega) (by rw [List.take_append_of_le_length (by rw [PlD.len]; omega), List.take_of_length_le (by rw [PlD.len]; omega)])) ?_
    refine s1w rfl (lop_new (t := 6) (cs := [.int _ _, .int _ _]) Try.zeroValue57 rfl rfl rfl rfl) rfl ?_
    refine s1 rfl (lop_assign (v := .int _ _) rfl) ?_
    first
      | refine s0w rfl (lop_storeK (v := .agg [.int _ _, .int _ _]) (cs' := [.int _ _, .int _ _]) (f' := true) rfl rfl rfl Try.sizeOf57 rfl rfl rfl rfl rfl) ?_
      | refine s0w rfl (lop_storeK (v := .agg [.int _ _, .int _ _]) (cs' := [.int _ _, .int _ _]) (f' := false) rfl rfl rfl Try.sizeOf57 rfl rfl rfl rfl rfl) ?_
    refine ops_nil ?_
    refine ok_drw Try.mixed ?_
    first
      | refine d1 rfl rfl (lop_fieldAddr_rf (fo := 0) rfl Try.underlying57 rfl rfl Try.sizeOf3 (by decide)) ?_
      | refine d1 rfl rfl (lop_fieldAddr_fp (fo := 0) rfl Try.underlying57 rfl rfl Try.sizeOf3 (by decide) rfl) ?_
    first
      | refine d1 rfl rfl (lop_load_rf rfl rfl Try.isAgg3 rfl) ?_
      | refine d1 rfl rfl (lop_load_fp rfl Try.isAgg3 rfl) ?_
    refine d1 rfl rfl (lop_move (v := .int _ _) rfl) ?_
    refine d1 rfl rfl (lop_neq rfl rfl) ?_
    refine d1 rfl rfl (lop_move (v := .bool _) rfl) ?_
    first
      | refine dsplitP 4 rfl rfl (fun g4_4 p4_4 => ?_) (fun g4_4 p4_4 => ?_)
      | refine dsplitB 4 rfl rfl (fun g4_4 p4_4 => ?_) (fun g4_4 p4_4 => ?_)
    · refine dn1 rfl rfl g4_4 rfl ?_
      refine dn1 rfl rfl g4_4 rfl ?_
      refine dn1 rfl rfl g4_4 rfl ?_
      refine dn1 rfl rfl g4_4 rfl ?_
      refine dn1 rfl rfl g4_4 rfl ?_
      first
        | refine d1 rfl rfl (lop_pick_t (v := .bool _) rfl g4_4 rfl) ?_
        | refine d1 rfl rfl (lop_pick_t (v := .bool _) rfl rfl rfl) ?_
        | refine d1 rfl rfl (lop_pick_f (v := .bool _) rfl rfl rfl) ?_
        | refine d1 rfl rfl (lop_pick rfl rfl rfl) ?_
      refine dr_nil (by kernel_rfl) ?_
      refine ok_true rfl rfl ?_
      refine ok_reg ?_
      refine s1 rfl (lop_assign (v := .bool _) rfl) ?_
      refine ops_nil ?_
      refine ok_ret ?_
      exact ret_one rfl rfl rfl rfl (congrArg V.bool (whole_no hri (by unfold wholeP; rw [getD_at l hri, decide_eq_false p4_4, Bool.false_and])))
    · first
        | refine dy1 rfl rfl g4_4 rfl rfl (lop_move (v := .sl _ _) rfl) ?_
        | refine dy1 rfl rfl g4_4 rfl rfl (lop_move (v := .os _ _ _ _) rfl) ?_
        | refine dy1 rfl rfl g4_4 rfl rfl (lop_move (v := .z0) rfl) ?_
      refine dy1 rfl rfl g4_4 rfl rfl (lop_move (v := .int _ _) rfl) ?_
      refine dy1 rfl rfl g4_4 rfl rfl (lop_slice_sl (l := 0) (h := i) (ys := (l.take i).flatMap PlD.enc) rfl Try.underlying28 Try.sizeOf57 (flat_length PlD.len _) rfl ⟨_, _, rfl, rfl⟩ (Nat.zero_le _) (by omega) (by rw [Nat.zero_mul, List.drop_zero, Nat.sub_zero, flat_take PlD.len])) ?_
      
      first
        | refine dy1 rfl rfl g4_4 rfl rfl (lop_load_rf_agg (ys := [.int _ _, .int _ _]) rfl rfl Try.isAgg57 Try.sizeOf57 (Nat.le_of_ble_eq_true rfl) rfl) ?_
        | refine dy1 rfl rfl g4_4 rfl rfl (lop_load_fp_agg (ys := [.int _ _, .int _ _]) rfl Try.isAgg57 Try.sizeOf57 (Nat.le_of_ble_eq_true rfl) rfl) ?_
      refine dy1 rfl rfl g4_4 rfl rfl (lop_call rfl Try.call70 (FrzL.tf rfl) (.inl rfl) (show AC Try.prog 70 [.sl (i - 0) _, _] _ by rw [show i - 0 = (l.take i).length by rw [List.length_take]; omega]; exact contains_Place_ac (l := l.take i) (by rw [List.length_take]; omega) l[i])) ?_
      first
        | refine d1 rfl rfl (lop_pick_f (v := .bool _) rfl g4_4 rfl) ?_
        | refine d1 rfl rfl (lop_pick_t (v := .bool _) rfl rfl rfl) ?_
        | refine d1 rfl rfl (lop_pick_f (v := .bool _) rfl rfl rfl) ?_
        | refine d1 rfl rfl (lop_pick rfl rfl rfl) ?_
      refine dr_nil (by kernel_rfl) ?_
      first
        | refine ok_if _ rfl rfl (fun h_t24 => ?_) (fun h_t24 => ?_)
        | refine ok_cond rfl rfl (fun h_t24 => ?_) (fun h_t24 => ?_)
      · refine ok_reg ?_
        refine s1 rfl (lop_assign (v := .bool _) rfl) ?_
        refine ops_nil ?_
        refine ok_ret ?_
        exact ret_one rfl rfl rfl rfl (congrArg V.bool (whole_no hri (by unfold wholeP; rw [getD_at l hri]; simp only [Bool.and_eq_false_iff, Bool.not_eq_false']; exact .inr (by simpa using h_t24))))
      · refine ok_skip ?_
        refine ok_region ?_
        refine s1 rfl (lop_bop rfl rfl rfl (bop_add (by omega) (by omega))) ?_
        refine s1 rfl (lop_move (v := .int _ _) rfl) ?_
        refine ops_nil ?_
        exact ⟨⟨i + 1, by omega, whole_step hn (by unfold wholeP; rw [getD_at l hri]; simp only [Bool.and_eq_true, decide_eq_true_eq, Bool.not_eq_true']; exact ⟨Decidable.byContradiction p4_4, by simpa using h_t24⟩)⟩, by simp only; omega, le_mk ⟨rfl, rfl, rfl, rfl, rfl, trivial⟩ trivial rfl⟩
  · refine ok_exit ?_
    refine ok_reg ?_
    first
      | refine s1 rfl (lop_move (v := .sl _ _) rfl) ?_
      | refine s1 rfl (lop_move (v := .os _ _ _ _) rfl) ?_
      | refine s1 rfl (lop_move (v := .z0) rfl) ?_
    refine s1 rfl (lop_len rfl Try.underlying28 ⟨⟨_, rfl⟩, rfl⟩) ?_
    refine s1 rfl (lop_eql rfl rfl) ?_
    refine s1 rfl (lop_assign (v := .bool _) rfl) ?_
    refine ops_nil ?_
    refine ok_ret ?_
    exact ret_one rfl rfl rfl rfl (congrArg V.bool (whole_yes (fun j h => hn j (by omega))))

theorem may_no {c : CmdD} (h : ¬ (1 ≤ c.kind ∧ c.kind ≤ 9 ∧ 0 ≤ c.client ∧ c.client ≤ 16 ∧ 0 ≤ c.seq ∧ c.seq ≤ 1073741824 ∧ c.name.size ≤ 16 ∧ c.places.length ≤ 14)) : mayF c = false := by
  unfold mayF
  rw [decide_eq_false h, Bool.false_and, Bool.false_and]

theorem may_ac {c : CmdD} (hc : c.places.length ≤ 549755813888) : AC Try.prog 22 [.agg c.enc] (.bool (mayF c)) := by
  refine AC.intro Try.func22 rfl (Nat.le_of_ble_eq_true rfl) ?_
  refine ok_reg ?_
  first
    | refine s1w rfl (lop_box (t := 1) (v := .agg [.int _ _, .int _ _, .int _ _, .str _, .int _ _, .int _ _, .int _ _, .int _ _, .int _ _, .int _ _, .int _ _, _]) (f := true) (cs := [.int _ _, .int _ _, .int _ _, .str _, .int _ _, .int _ _, .int _ _, .int _ _, .int _ _, .int _ _, .int _ _, _]) rfl rfl rfl rfl (fun h => by cases h)) rfl ?_
    | refine s1w rfl (lop_box (t := 1) (v := .agg [.int _ _, .int _ _, .int _ _, .str _, .int _ _, .int _ _, .int _ _, .int _ _, .int _ _, .int _ _, .int _ _, _]) (f := false) (cs := [.int _ _, .int _ _, .int _ _, .str _, .int _ _, .int _ _, .int _ _, .int _ _, .int _ _, .int _ _, .int _ _, _]) rfl rfl rfl rfl (fun _ => rfl)) rfl ?_
  refine s1 rfl (lop_assign (v := .bool _) rfl) ?_
  refine ops_nil ?_
  refine ok_reg ?_
  first
    | refine s1 rfl (lop_assign (v := .fn _ _) rfl) ?_
    | refine s1 rfl (lop_assign (v := _) rfl) ?_
  refine ops_nil ?_
  refine ok_reg ?_
  first
    | refine s1 rfl (lop_assign (v := .fn _ _) rfl) ?_
    | refine s1 rfl (lop_assign (v := _) rfl) ?_
  refine ops_nil ?_
  refine ok_reg ?_
  first
    | refine s1 rfl (lop_fieldAddr_rf (fo := 0) rfl Try.underlying30 rfl rfl Try.sizeOf3 (by decide)) ?_
    | refine s1 rfl (lop_fieldAddr_fp (fo := 0) rfl Try.underlying30 rfl rfl Try.sizeOf3 (by decide) rfl) ?_
  first
    | refine s1 rfl (lop_load_rf rfl rfl Try.isAgg3 rfl) ?_
    | refine s1 rfl (lop_load_fp rfl Try.isAgg3 rfl) ?_
  refine s1 rfl (lop_geq rfl rfl) ?_
  refine s1 rfl (lop_move (v := .bool _) rfl) ?_
  first
    | refine gsplitP 3 rfl rfl (fun g3_3 p3_3 => ?_) (fun g3_3 p3_3 => ?_)
    | refine gsplitB 3 rfl rfl (fun g3_3 p3_3 => ?_) (fun g3_3 p3_3 => ?_)
  · first
      | refine y1 rfl rfl g3_3 rfl (lop_fieldAddr_rf (fo := 0) rfl Try.underlying30 rfl rfl Try.sizeOf3 (by decide)) ?_
      | refine y1 rfl rfl g3_3 rfl (lop_fieldAddr_fp (fo := 0) rfl Try.underlying30 rfl rfl Try.sizeOf3 (by decide) rfl) ?_
    first
      | refine y1 rfl rfl g3_3 rfl (lop_load_rf rfl rfl Try.isAgg3 rfl) ?_
      | refine y1 rfl rfl g3_3 rfl (lop_load_fp rfl Try.isAgg3 rfl) ?_
    refine y1 rfl rfl g3_3 rfl (lop_leq rfl rfl) ?_
    first
      | refine s1 rfl (lop_pick_t (v := .bool _) rfl g3_3 rfl) ?_
      | refine s1 rfl (lop_pick_t (v := .bool _) rfl rfl rfl) ?_
      | refine s1 rfl (lop_pick_f (v := .bool _) rfl rfl rfl) ?_
      | refine s1 rfl (lop_pick rfl rfl rfl) ?_
    refine s1 rfl (lop_move (v := .bool _) rfl) ?_
    first
      | refine gsplitP 8 rfl rfl (fun g3_8 p3_8 => ?_) (fun g3_8 p3_8 => ?_)
      | refine gsplitB 8 rfl rfl (fun g3_8 p3_8 => ?_) (fun g3_8 p3_8 => ?_)
    · first
        | refine y1 rfl rfl g3_8 rfl (lop_fieldAddr_rf (fo := 1) rfl Try.underlying30 rfl rfl Try.sizeOf3 (by decide)) ?_
        | refine y1 rfl rfl g3_8 rfl (lop_fieldAddr_fp (fo := 1) rfl Try.underlying30 rfl rfl Try.sizeOf3 (by decide) rfl) ?_
      first
        | refine y1 rfl rfl g3_8 rfl (lop_load_rf rfl rfl Try.isAgg3 rfl) ?_
        | refine y1 rfl rfl g3_8 rfl (lop_load_fp rfl Try.isAgg3 rfl) ?_
      refine y1 rfl rfl g3_8 rfl (lop_geq rfl rfl) ?_
      first
        | refine s1 rfl (lop_pick_t (v := .bool _) rfl g3_3 rfl) ?_
        | refine s1 rfl (lop_pick_t (v := .bool _) rfl g3_8 rfl) ?_
        | refine s1 rfl (lop_pick_t (v := .bool _) rfl rfl rfl) ?_
        | refine s1 rfl (lop_pick_f (v := .bool _) rfl rfl rfl) ?_
        | refine s1 rfl (lop_pick rfl rfl rfl) ?_
      refine s1 rfl (lop_move (v := .bool _) rfl) ?_
      first
        | refine gsplitP 13 rfl rfl (fun g3_13 p3_13 => ?_) (fun g3_13 p3_13 => ?_)
        | refine gsplitB 13 rfl rfl (fun g3_13 p3_13 => ?_) (fun g3_13 p3_13 => ?_)
      · first
          | refine y1 rfl rfl g3_13 rfl (lop_fieldAddr_rf (fo := 1) rfl Try.underlying30 rfl rfl Try.sizeOf3 (by decide)) ?_
          | refine y1 rfl rfl g3_13 rfl (lop_fieldAddr_fp (fo := 1) rfl Try.underlying30 rfl rfl Try.sizeOf3 (by decide) rfl) ?_
        first
          | refine y1 rfl rfl g3_13 rfl (lop_load_rf rfl rfl Try.isAgg3 rfl) ?_
          | refine y1 rfl rfl g3_13 rfl (lop_load_fp rfl Try.isAgg3 rfl) ?_
        refine y1 rfl rfl g3_13 rfl (lop_leq rfl rfl) ?_
        first
          | refine s1 rfl (lop_pick_t (v := .bool _) rfl g3_3 rfl) ?_
          | refine s1 rfl (lop_pick_t (v := .bool _) rfl g3_8 rfl) ?_
          | refine s1 rfl (lop_pick_t (v := .bool _) rfl g3_13 rfl) ?_
          | refine s1 rfl (lop_pick_t (v := .bool _) rfl rfl rfl) ?_
          | refine s1 rfl (lop_pick_f (v := .bool _) rfl rfl rfl) ?_
          | refine s1 rfl (lop_pick rfl rfl rfl) ?_
        refine s1 rfl (lop_move (v := .bool _) rfl) ?_
        first
          | refine gsplitP 18 rfl rfl (fun g3_18 p3_18 => ?_) (fun g3_18 p3_18 => ?_)
          | refine gsplitB 18 rfl rfl (fun g3_18 p3_18 => ?_) (fun g3_18 p3_18 => ?_)
        · first
            | refine y1 rfl rfl g3_18 rfl (lop_fieldAddr_rf (fo := 2) rfl Try.underlying30 rfl rfl Try.sizeOf3 (by decide)) ?_
            | refine y1 rfl rfl g3_18 rfl (lop_fieldAddr_fp (fo := 2) rfl Try.underlying30 rfl rfl Try.sizeOf3 (by decide) rfl) ?_
          first
            | refine y1 rfl rfl g3_18 rfl (lop_load_rf rfl rfl Try.isAgg3 rfl) ?_
            | refine y1 rfl rfl g3_18 rfl (lop_load_fp rfl Try.isAgg3 rfl) ?_
          refine y1 rfl rfl g3_18 rfl (lop_geq rfl rfl) ?_
          first
            | refine s1 rfl (lop_pick_t (v := .bool _) rfl g3_3 rfl) ?_
            | refine s1 rfl (lop_pick_t (v := .bool _) rfl g3_8 rfl) ?_
            | refine s1 rfl (lop_pick_t (v := .bool _) rfl g3_13 rfl) ?_
            | refine s1 rfl (lop_pick_t (v := .bool _) rfl g3_18 rfl) ?_
            | refine s1 rfl (lop_pick_t (v := .bool _) rfl rfl rfl) ?_
            | refine s1 rfl (lop_pick_f (v := .bool _) rfl rfl rfl) ?_
            | refine s1 rfl (lop_pick rfl rfl rfl) ?_
          refine s1 rfl (lop_move (v := .bool _) rfl) ?_
          first
            | refine gsplitP 23 rfl rfl (fun g3_23 p3_23 => ?_) (fun g3_23 p3_23 => ?_)
            | refine gsplitB 23 rfl rfl (fun g3_23 p3_23 => ?_) (fun g3_23 p3_23 => ?_)
          · first
              | refine y1 rfl rfl g3_23 rfl (lop_fieldAddr_rf (fo := 2) rfl Try.underlying30 rfl rfl Try.sizeOf3 (by decide)) ?_
              | refine y1 rfl rfl g3_23 rfl (lop_fieldAddr_fp (fo := 2) rfl Try.underlying30 rfl rfl Try.sizeOf3 (by decide) rfl) ?_
            first
              | refine y1 rfl rfl g3_23 rfl (lop_load_rf rfl rfl Try.isAgg3 rfl) ?_
              | refine y1 rfl rfl g3_23 rfl (lop_load_fp rfl Try.isAgg3 rfl) ?_
            refine y1 rfl rfl g3_23 rfl (lop_leq rfl rfl) ?_
            first
              | refine s1 rfl (lop_pick_t (v := .bool _) rfl g3_3 rfl) ?_
              | refine s1 rfl (lop_pick_t (v := .bool _) rfl g3_8 rfl) ?_
              | refine s1 rfl (lop_pick_t (v := .bool _) rfl g3_13 rfl) ?_
              | refine s1 rfl (lop_pick_t (v := .bool _) rfl g3_18 rfl) ?_
              | refine s1 rfl (lop_pick_t (v := .bool _) rfl g3_23 rfl) ?_
              | refine s1 rfl (lop_pick_t (v := .bool _) rfl rfl rfl) ?_
              | refine s1 rfl (lop_pick_f (v := .bool _) rfl rfl rfl) ?_
              | refine s1 rfl (lop_pick rfl rfl rfl) ?_
            refine s1 rfl (lop_move (v := .bool _) rfl) ?_
            first
              | refine gsplitP 28 rfl rfl (fun g3_28 p3_28 => ?_) (fun g3_28 p3_28 => ?_)
              | refine gsplitB 28 rfl rfl (fun g3_28 p3_28 => ?_) (fun g3_28 p3_28 => ?_)
            · first
                | refine y1 rfl rfl g3_28 rfl (lop_fieldAddr_rf (fo := 3) rfl Try.underlying30 rfl rfl Try.sizeOf9 (by decide)) ?_
                | refine y1 rfl rfl g3_28 rfl (lop_fieldAddr_fp (fo := 3) rfl Try.underlying30 rfl rfl Try.sizeOf9 (by decide) rfl) ?_
              first
                | refine y1 rfl rfl g3_28 rfl (lop_load_rf rfl rfl Try.isAgg9 rfl) ?_
                | refine y1 rfl rfl g3_28 rfl (lop_load_fp rfl Try.isAgg9 rfl) ?_
              refine y1 rfl rfl g3_28 rfl (lop_len rfl Try.underlying9 ⟨rfl, rfl⟩) ?_
              refine y1 rfl rfl g3_28 rfl (lop_leq rfl rfl) ?_
              first
                | refine s1 rfl (lop_pick_t (v := .bool _) rfl g3_3 rfl) ?_
                | refine s1 rfl (lop_pick_t (v := .bool _) rfl g3_8 rfl) ?_
                | refine s1 rfl (lop_pick_t (v := .bool _) rfl g3_13 rfl) ?_
                | refine s1 rfl (lop_pick_t (v := .bool _) rfl g3_18 rfl) ?_
                | refine s1 rfl (lop_pick_t (v := .bool _) rfl g3_23 rfl) ?_
                | refine s1 rfl (lop_pick_t (v := .bool _) rfl g3_28 rfl) ?_
                | refine s1 rfl (lop_pick_t (v := .bool _) rfl rfl rfl) ?_
                | refine s1 rfl (lop_pick_f (v := .bool _) rfl rfl rfl) ?_
                | refine s1 rfl (lop_pick rfl rfl rfl) ?_
              refine s1 rfl (lop_move (v := .bool _) rfl) ?_
              first
                | refine gsplitP 34 rfl rfl (fun g3_34 p3_34 => ?_) (fun g3_34 p3_34 => ?_)
                | refine gsplitB 34 rfl rfl (fun g3_34 p3_34 => ?_) (fun g3_34 p3_34 => ?_)
              · first
                  | refine y1 rfl rfl g3_34 rfl (lop_fieldAddr_rf (fo := 11) rfl Try.underlying30 rfl rfl Try.sizeOf28 (by decide)) ?_
                  | refine y1 rfl rfl g3_34 rfl (lop_fieldAddr_fp (fo := 11) rfl Try.underlying30 rfl rfl Try.sizeOf28 (by decide) rfl) ?_
                first
                  | refine y1 rfl rfl g3_34 rfl (lop_load_rf rfl rfl Try.isAgg28 rfl) ?_
                  | refine y1 rfl rfl g3_34 rfl (lop_load_fp rfl Try.isAgg28 rfl) ?_
                refine y1 rfl rfl g3_34 rfl (lop_len rfl Try.underlying28 ⟨⟨_, rfl⟩, rfl⟩) ?_
                refine y1 rfl rfl g3_34 rfl (lop_leq rfl rfl) ?_
                first
                  | refine s1 rfl (lop_pick_t (v := .bool _) rfl g3_3 rfl) ?_
                  | refine s1 rfl (lop_pick_t (v := .bool _) rfl g3_8 rfl) ?_
                  | refine s1 rfl (lop_pick_t (v := .bool _) rfl g3_13 rfl) ?_
                  | refine s1 rfl (lop_pick_t (v := .bool _) rfl g3_18 rfl) ?_
                  | refine s1 rfl (lop_pick_t (v := .bool _) rfl g3_23 rfl) ?_
                  | refine s1 rfl (lop_pick_t (v := .bool _) rfl g3_28 rfl) ?_
                  | refine s1 rfl (lop_pick_t (v := .bool _) rfl g3_34 rfl) ?_
                  | refine s1 rfl (lop_pick_t (v := .bool _) rfl rfl rfl) ?_
                  | refine s1 rfl (lop_pick_f (v := .bool _) rfl rfl rfl) ?_
                  | refine s1 rfl (lop_pick rfl rfl rfl) ?_
                refine s1 rfl (lop_move (v := .bool _) rfl) ?_
                first
                  | refine gsplitP 40 rfl rfl (fun g3_40 p3_40 => ?_) (fun g3_40 p3_40 => ?_)
                  | refine gsplitB 40 rfl rfl (fun g3_40 p3_40 => ?_) (fun g3_40 p3_40 => ?_)
                · first
                    | refine y1 rfl rfl g3_40 rfl (lop_fieldAddr_rf (fo := 11) rfl Try.underlying30 rfl rfl Try.sizeOf28 (by decide)) ?_
                    | refine y1 rfl rfl g3_40 rfl (lop_fieldAddr_fp (fo := 11) rfl Try.underlying30 rfl rfl Try.sizeOf28 (by decide) rfl) ?_
                  first
                    | refine y1 rfl rfl g3_40 rfl (lop_load_rf rfl rfl Try.isAgg28 rfl) ?_
                    | refine y1 rfl rfl g3_40 rfl (lop_load_fp rfl Try.isAgg28 rfl) ?_
                  first
                    | refine y1 rfl rfl g3_40 rfl (lop_move (v := .fn _ _) rfl) ?_
                    | refine y1 rfl rfl g3_40 rfl (lop_move (v := _) rfl) ?_
                  refine y1 rfl rfl g3_40 rfl (lop_call rfl Try.call39 (FrzL.tf rfl) (.inl rfl) (containsFunc_Place_ac hc Try.call36 rfl (fun p _ => odd_ac p))) ?_
                  refine y1 rfl rfl g3_40 rfl (lop_not rfl) ?_
                  first
                    | refine s1 rfl (lop_pick_t (v := .bool _) rfl g3_3 rfl) ?_
                    | refine s1 rfl (lop_pick_t (v := .bool _) rfl g3_8 rfl) ?_
                    | refine s1 rfl (lop_pick_t (v := .bool _) rfl g3_13 rfl) ?_
                    | refine s1 rfl (lop_pick_t (v := .bool _) rfl g3_18 rfl) ?_
                    | refine s1 rfl (lop_pick_t (v := .bool _) rfl g3_23 rfl) ?_
                    | refine s1 rfl (lop_pick_t (v := .bool _) rfl g3_28 rfl) ?_
                    | refine s1 rfl (lop_pick_t (v := .bool _) rfl g3_34 rfl) ?_
                    | refine s1 rfl (lop_pick_t (v := .bool _) rfl g3_40 rfl) ?_
                    | refine s1 rfl (lop_pick_t (v := .bool _) rfl rfl rfl) ?_
                    | refine s1 rfl (lop_pick_f (v := .bool _) rfl rfl rfl) ?_
                    | refine s1 rfl (lop_pick rfl rfl rfl) ?_
                  refine s1 rfl (lop_move (v := .bool _) rfl) ?_
                  first
                    | refine gsplitP 47 rfl rfl (fun g3_47 p3_47 => ?_) (fun g3_47 p3_47 => ?_)
                    | refine gsplitB 47 rfl rfl (fun g3_47 p3_47 => ?_) (fun g3_47 p3_47 => ?_)
                  · first
                      | refine y1 rfl rfl g3_47 rfl (lop_fieldAddr_rf (fo := 4) rfl Try.underlying30 rfl rfl Try.sizeOf3 (by decide)) ?_
                      | refine y1 rfl rfl g3_47 rfl (lop_fieldAddr_fp (fo := 4) rfl Try.underlying30 rfl rfl Try.sizeOf3 (by decide) rfl) ?_
                    first
                      | refine y1 rfl rfl g3_47 rfl (lop_load_rf rfl rfl Try.isAgg3 rfl) ?_
                      | refine y1 rfl rfl g3_47 rfl (lop_load_fp rfl Try.isAgg3 rfl) ?_
                    first
                      | refine y1 rfl rfl g3_47 rfl (lop_fieldAddr_rf (fo := 5) rfl Try.underlying30 rfl rfl Try.sizeOf3 (by decide)) ?_
                      | refine y1 rfl rfl g3_47 rfl (lop_fieldAddr_fp (fo := 5) rfl Try.underlying30 rfl rfl Try.sizeOf3 (by decide) rfl) ?_
                    first
                      | refine y1 rfl rfl g3_47 rfl (lop_load_rf rfl rfl Try.isAgg3 rfl) ?_
                      | refine y1 rfl rfl g3_47 rfl (lop_load_fp rfl Try.isAgg3 rfl) ?_
                    first
                      | refine y1 rfl rfl g3_47 rfl (lop_fieldAddr_rf (fo := 6) rfl Try.underlying30 rfl rfl Try.sizeOf3 (by decide)) ?_
                      | refine y1 rfl rfl g3_47 rfl (lop_fieldAddr_fp (fo := 6) rfl Try.underlying30 rfl rfl Try.sizeOf3 (by decide) rfl) ?_
                    first
                      | refine y1 rfl rfl g3_47 rfl (lop_load_rf rfl rfl Try.isAgg3 rfl) ?_
                      | refine y1 rfl rfl g3_47 rfl (lop_load_fp rfl Try.isAgg3 rfl) ?_
                    first
                      | refine y1 rfl rfl g3_47 rfl (lop_fieldAddr_rf (fo := 8) rfl Try.underlying30 rfl rfl Try.sizeOf3 (by decide)) ?_
                      | refine y1 rfl rfl g3_47 rfl (lop_fieldAddr_fp (fo := 8) rfl Try.underlying30 rfl rfl Try.sizeOf3 (by decide) rfl) ?_
                    first
                      | refine y1 rfl rfl g3_47 rfl (lop_load_rf rfl rfl Try.isAgg3 rfl) ?_
                      | refine y1 rfl rfl g3_47 rfl (lop_load_fp rfl Try.isAgg3 rfl) ?_
                    first
                      | refine y1 rfl rfl g3_47 rfl (lop_fieldAddr_rf (fo := 9) rfl Try.underlying30 rfl rfl Try.sizeOf3 (by decide)) ?_
                      | refine y1 rfl rfl g3_47 rfl (lop_fieldAddr_fp (fo := 9) rfl Try.underlying30 rfl rfl Try.sizeOf3 (by decide) rfl) ?_
                    first
                      | refine y1 rfl rfl g3_47 rfl (lop_load_rf rfl rfl Try.isAgg3 rfl) ?_
                      | refine y1 rfl rfl g3_47 rfl (lop_load_fp rfl Try.isAgg3 rfl) ?_
                    first
                      | refine y1 rfl rfl g3_47 rfl (lop_fieldAddr_rf (fo := 10) rfl Try.underlying30 rfl rfl Try.sizeOf3 (by decide)) ?_
                      | refine y1 rfl rfl g3_47 rfl (lop_fieldAddr_fp (fo := 10) rfl Try.underlying30 rfl rfl Try.sizeOf3 (by decide) rfl) ?_
                    first
                      | refine y1 rfl rfl g3_47 rfl (lop_load_rf rfl rfl Try.isAgg3 rfl) ?_
                      | refine y1 rfl rfl g3_47 rfl (lop_load_fp rfl Try.isAgg3 rfl) ?_
                    first
                      | refine y1w rfl rfl g3_47 rfl (lop_buildSlice (t := 65) (cs := [.int _ _, .int _ _, .int _ _, .int _ _, .int _ _, .int _ _]) (f := true) Try.underlying86 Try.sizeOf3 (by decide) Try.zeroValue3 rfl rfl rfl (by decide) rfl (.inr (by decide)) rfl (fun h => by cases h)) rfl ?_
                      | refine y1w rfl rfl g3_47 rfl (lop_buildSlice (t := 65) (cs := [.int _ _, .int _ _, .int _ _, .int _ _, .int _ _, .int _ _]) (f := false) Try.underlying86 Try.sizeOf3 (by decide) Try.zeroValue3 rfl rfl rfl (by decide) rfl (.inr (by decide)) rfl (fun _ => rfl)) rfl ?_
                    first
                      | refine y1 rfl rfl g3_47 rfl (lop_move (v := .fn _ _) rfl) ?_
                      | refine y1 rfl rfl g3_47 rfl (lop_move (v := _) rfl) ?_
                    refine y1 rfl rfl g3_47 rfl (lop_call (R := [65]) rfl Try.call40 (fzL_sound _ _ _ rfl) (.inr rfl) (containsFunc_int_ac (l := [c.vol, c.off, c.n, c.region, c.mate, c.idx]) (Nat.le_of_ble_eq_true rfl) Try.call37 rfl (fun n _ => big_ac n))) ?_
                    refine y1 rfl rfl g3_47 rfl (lop_not rfl) ?_
                    first
                      | refine s1 rfl (lop_pick_t (v := .bool _) rfl g3_3 rfl) ?_
                      | refine s1 rfl (lop_pick_t (v := .bool _) rfl g3_8 rfl) ?_
                      | refine s1 rfl (lop_pick_t (v := .bool _) rfl g3_13 rfl) ?_
                      | refine s1 rfl (lop_pick_t (v := .bool _) rfl g3_18 rfl) ?_
                      | refine s1 rfl (lop_pick_t (v := .bool _) rfl g3_23 rfl) ?_
                      | refine s1 rfl (lop_pick_t (v := .bool _) rfl g3_28 rfl) ?_
                      | refine s1 rfl (lop_pick_t (v := .bool _) rfl g3_34 rfl) ?_
                      | refine s1 rfl (lop_pick_t (v := .bool _) rfl g3_40 rfl) ?_
                      | refine s1 rfl (lop_pick_t (v := .bool _) rfl g3_47 rfl) ?_
                      | refine s1 rfl (lop_pick_t (v := .bool _) rfl rfl rfl) ?_
                      | refine s1 rfl (lop_pick_f (v := .bool _) rfl rfl rfl) ?_
                      | refine s1 rfl (lop_pick rfl rfl rfl) ?_
                    refine s1 rfl (lop_assign (v := .bool _) rfl) ?_
                    refine ops_nil ?_
                    refine ok_ret ?_
                    first
                    | exact ret_one rfl rfl rfl rfl (congrArg V.bool (may_no (by omega)).symm)
                    | exact ret_one rfl rfl rfl rfl (congrArg V.bool (by unfold mayF; rw [may_t g3_47, Bool.and_false, Bool.false_and]))
                    | exact ret_one rfl rfl rfl rfl (congrArg V.bool ((decide_eq_false (by omega)).trans (may_no (by omega)).symm))
                    | exact ret_one rfl rfl rfl rfl (congrArg V.bool (by unfold mayF; rw [g3_47, Bool.and_false, Bool.false_and]))
                    | exact ret_one rfl rfl rfl rfl (congrArg V.bool (by unfold mayF; rw [decide_eq_true (by omega), g3_47]; rfl))
                  · refine n1 rfl rfl g3_47 ?_
                    refine n1 rfl rfl g3_47 ?_
                    refine n1 rfl rfl g3_47 ?_
                    refine n1 rfl rfl g3_47 ?_
                    refine n1 rfl rfl g3_47 ?_
                    refine n1 rfl rfl g3_47 ?_
                    refine n1 rfl rfl g3_47 ?_
                    refine n1 rfl rfl g3_47 ?_
                    refine n1 rfl rfl g3_47 ?_
                    refine n1 rfl rfl g3_47 ?_
                    refine n1 rfl rfl g3_47 ?_
                    refine n1 rfl rfl g3_47 ?_
                    refine n1 rfl rfl g3_47 ?_
                    refine n1 rfl rfl g3_47 ?_
                    refine n1 rfl rfl g3_47 ?_
                    refine n1 rfl rfl g3_47 ?_
                    first
                      | refine s1 rfl (lop_pick_t (v := .bool _) rfl g3_3 rfl) ?_
                      | refine s1 rfl (lop_pick_t (v := .bool _) rfl g3_8 rfl) ?_
                      | refine s1 rfl (lop_pick_t (v := .bool _) rfl g3_13 rfl) ?_
                      | refine s1 rfl (lop_pick_t (v := .bool _) rfl g3_18 rfl) ?_
                      | refine s1 rfl (lop_pick_t (v := .bool _) rfl g3_23 rfl) ?_
                      | refine s1 rfl (lop_pick_t (v := .bool _) rfl g3_28 rfl) ?_
                      | refine s1 rfl (lop_pick_t (v := .bool _) rfl g3_34 rfl) ?_
                      | refine s1 rfl (lop_pick_t (v := .bool _) rfl g3_40 rfl) ?_
                      | refine s1 rfl (lop_pick_f (v := .bool _) rfl g3_47 rfl) ?_
                      | refine s1 rfl (lop_pick_t (v := .bool _) rfl rfl rfl) ?_
                      | refine s1 rfl (lop_pick_f (v := .bool _) rfl rfl rfl) ?_
                      | refine s1 rfl (lop_pick rfl rfl rfl) ?_
                    refine s1 rfl (lop_assign (v := .bool _) rfl) ?_
                    refine ops_nil ?_
                    refine ok_ret ?_
                    first
                    | exact ret_one rfl rfl rfl rfl (congrArg V.bool (may_no (by omega)).symm)
                    | exact ret_one rfl rfl rfl rfl (congrArg V.bool (by unfold mayF; rw [may_t g3_47, Bool.and_false, Bool.false_and]))
                    | exact ret_one rfl rfl rfl rfl (congrArg V.bool ((decide_eq_false (by omega)).trans (may_no (by omega)).symm))
                    | exact ret_one rfl rfl rfl rfl (congrArg V.bool (by unfold mayF; rw [g3_47, Bool.and_false, Bool.false_and]))
                    | exact ret_one rfl rfl rfl rfl (congrArg V.bool (by unfold mayF; rw [decide_eq_true (by omega), g3_47]; rfl))
                · refine n1 rfl rfl g3_40 ?_
                  refine n1 rfl rfl g3_40 ?_
                  refine n1 rfl rfl g3_40 ?_
                  refine n1 rfl rfl g3_40 ?_
                  refine n1 rfl rfl g3_40 ?_
                  first
                    | refine s1 rfl (lop_pick_t (v := .bool _) rfl g3_3 rfl) ?_
                    | refine s1 rfl (lop_pick_t (v := .bool _) rfl g3_8 rfl) ?_
                    | refine s1 rfl (lop_pick_t (v := .bool _) rfl g3_13 rfl) ?_
                    | refine s1 rfl (lop_pick_t (v := .bool _) rfl g3_18 rfl) ?_
                    | refine s1 rfl (lop_pick_t (v := .bool _) rfl g3_23 rfl) ?_
                    | refine s1 rfl (lop_pick_t (v := .bool _) rfl g3_28 rfl) ?_
                    | refine s1 rfl (lop_pick_t (v := .bool _) rfl g3_34 rfl) ?_
                    | refine s1 rfl (lop_pick_f (v := .bool _) rfl g3_40 rfl) ?_
                    | refine s1 rfl (lop_pick_t (v := .bool _) rfl rfl rfl) ?_
                    | refine s1 rfl (lop_pick_f (v := .bool _) rfl rfl rfl) ?_
                    | refine s1 rfl (lop_pick rfl rfl rfl) ?_
                  refine s1 rfl (lop_move (v := .bool _) rfl) ?_
                  refine n1 rfl rfl rfl ?_
                  refine n1 rfl rfl rfl ?_
                  refine n1 rfl rfl rfl ?_
                  refine n1 rfl rfl rfl ?_
                  refine n1 rfl rfl rfl ?_
                  refine n1 rfl rfl rfl ?_
                  refine n1 rfl rfl rfl ?_
                  refine n1 rfl rfl rfl ?_
                  refine n1 rfl rfl rfl ?_
                  refine n1 rfl rfl rfl ?_
                  refine n1 rfl rfl rfl ?_
                  refine n1 rfl rfl rfl ?_
                  refine n1 rfl rfl rfl ?_
                  refine n1 rfl rfl rfl ?_
                  refine n1 rfl rfl rfl ?_
                  refine n1 rfl rfl rfl ?_
                  first
                    | refine s1 rfl (lop_pick_t (v := .bool _) rfl g3_3 rfl) ?_
                    | refine s1 rfl (lop_pick_t (v := .bool _) rfl g3_8 rfl) ?_
                    | refine s1 rfl (lop_pick_t (v := .bool _) rfl g3_13 rfl) ?_
                    | refine s1 rfl (lop_pick_t (v := .bool _) rfl g3_18 rfl) ?_
                    | refine s1 rfl (lop_pick_t (v := .bool _) rfl g3_23 rfl) ?_
                    | refine s1 rfl (lop_pick_t (v := .bool _) rfl g3_28 rfl) ?_
                    | refine s1 rfl (lop_pick_t (v := .bool _) rfl g3_34 rfl) ?_
                    | refine s1 rfl (lop_pick_f (v := .bool _) rfl g3_40 rfl) ?_
                    | refine s1 rfl (lop_pick_f (v := .bool _) rfl rfl rfl) ?_
                    | refine s1 rfl (lop_pick_t (v := .bool _) rfl rfl rfl) ?_
                    | refine s1 rfl (lop_pick_f (v := .bool _) rfl rfl rfl) ?_
                    | refine s1 rfl (lop_pick rfl rfl rfl) ?_
                  refine s1 rfl (lop_assign (v := .bool _) rfl) ?_
                  refine ops_nil ?_
                  refine ok_ret ?_
                  first
                  | exact ret_one rfl rfl rfl rfl (congrArg V.bool (may_no (by omega)).symm)
                  | exact ret_one rfl rfl rfl rfl (congrArg V.bool (by unfold mayF; rw [may_t g3_47, Bool.and_false, Bool.false_and]))
                  | exact ret_one rfl rfl rfl rfl (congrArg V.bool ((decide_eq_false (by omega)).trans (may_no (by omega)).symm))
                  | exact ret_one rfl rfl rfl rfl (congrArg V.bool (by unfold mayF; rw [g3_47, Bool.and_false, Bool.false_and]))
                  | exact ret_one rfl rfl rfl rfl (congrArg V.bool (by unfold mayF; rw [decide_eq_true (by omega), g3_47]; rfl))
              · refine n1 rfl rfl g3_34 ?_
                refine n1 rfl rfl g3_34 ?_
                refine n1 rfl rfl g3_34 ?_
                refine n1 rfl rfl g3_34 ?_
                first
                  | refine s1 rfl (lop_pick_t (v := .bool _) rfl g3_3 rfl) ?_
                  | refine s1 rfl (lop_pick_t (v := .bool _) rfl g3_8 rfl) ?_
                  | refine s1 rfl (lop_pick_t (v := .bool _) rfl g3_13 rfl) ?_
                  | refine s1 rfl (lop_pick_t (v := .bool _) rfl g3_18 rfl) ?_
                  | refine s1 rfl (lop_pick_t (v := .bool _) rfl g3_23 rfl) ?_
                  | refine s1 rfl (lop_pick_t (v := .bool _) rfl g3_28 rfl) ?_
                  | refine s1 rfl (lop_pick_f (v := .bool _) rfl g3_34 rfl) ?_
                  | refine s1 rfl (lop_pick_t (v := .bool _) rfl rfl rfl) ?_
                  | refine s1 rfl (lop_pick_f (v := .bool _) rfl rfl rfl) ?_
                  | refine s1 rfl (lop_pick rfl rfl rfl) ?_
                refine s1 rfl (lop_move (v := .bool _) rfl) ?_
                refine n1 rfl rfl rfl ?_
                refine n1 rfl rfl rfl ?_
                refine n1 rfl rfl rfl ?_
                refine n1 rfl rfl rfl ?_
                refine n1 rfl rfl rfl ?_
                first
                  | refine s1 rfl (lop_pick_t (v := .bool _) rfl g3_3 rfl) ?_
                  | refine s1 rfl (lop_pick_t (v := .bool _) rfl g3_8 rfl) ?_
                  | refine s1 rfl (lop_pick_t (v := .bool _) rfl g3_13 rfl) ?_
                  | refine s1 rfl (lop_pick_t (v := .bool _) rfl g3_18 rfl) ?_
                  | refine s1 rfl (lop_pick_t (v := .bool _) rfl g3_23 rfl) ?_
                  | refine s1 rfl (lop_pick_t (v := .bool _) rfl g3_28 rfl) ?_
                  | refine s1 rfl (lop_pick_f (v := .bool _) rfl g3_34 rfl) ?_
                  | refine s1 rfl (lop_pick_f (v := .bool _) rfl rfl rfl) ?_
                  | refine s1 rfl (lop_pick_t (v := .bool _) rfl rfl rfl) ?_
                  | refine s1 rfl (lop_pick_f (v := .bool _) rfl rfl rfl) ?_
                  | refine s1 rfl (lop_pick rfl rfl rfl) ?_
                refine s1 rfl (lop_move (v := .bool _) rfl) ?_
                refine n1 rfl rfl rfl ?_
                refine n1 rfl rfl rfl ?_
                refine n1 rfl rfl rfl ?_
                refine n1 rfl rfl rfl ?_
                refine n1 rfl rfl rfl ?_
                refine n1 rfl rfl rfl ?_
                refine n1 rfl rfl rfl ?_
                refine n1 rfl rfl rfl ?_
                refine n1 rfl rfl rfl ?_
                refine n1 rfl rfl rfl ?_
                refine n1 rfl rfl rfl ?_
                refine n1 rfl rfl rfl ?_
                refine n1 rfl rfl rfl ?_
                refine n1 rfl rfl rfl ?_
                refine n1 rfl rfl rfl ?_
                refine n1 rfl rfl rfl ?_
                first
                  | refine s1 rfl (lop_pick_t (v := .bool _) rfl g3_3 rfl) ?_
                  | refine s1 rfl (lop_pick_t (v := .bool _) rfl g3_8 rfl) ?_
                  | refine s1 rfl (lop_pick_t (v := .bool _) rfl g3_13 rfl) ?_
                  | refine s1 rfl (lop_pick_t (v := .bool _) rfl g3_18 rfl) ?_
                  | refine s1 rfl (lop_pick_t (v := .bool _) rfl g3_23 rfl) ?_
                  | refine s1 rfl (lop_pick_t (v := .bool _) rfl g3_28 rfl) ?_
                  | refine s1 rfl (lop_pick_f (v := .bool _) rfl g3_34 rfl) ?_
                  | refine s1 rfl (lop_pick_f (v := .bool _) rfl rfl rfl) ?_
                  | refine s1 rfl (lop_pick_f (v := .bool _) rfl rfl rfl) ?_
                  | refine s1 rfl (lop_pick_t (v := .bool _) rfl rfl rfl) ?_
                  | refine s1 rfl (lop_pick_f (v := .bool _) rfl rfl rfl) ?_
                  | refine s1 rfl (lop_pick rfl rfl rfl) ?_
                refine s1 rfl (lop_assign (v := .bool _) rfl) ?_
                refine ops_nil ?_
                refine ok_ret ?_
                first
                | exact ret_one rfl rfl rfl rfl (congrArg V.bool (may_no (by omega)).symm)
                | exact ret_one rfl rfl rfl rfl (congrArg V.bool (by unfold mayF; rw [may_t g3_47, Bool.and_false, Bool.false_and]))
                | exact ret_one rfl rfl rfl rfl (congrArg V.bool ((decide_eq_false (by omega)).trans (may_no (by omega)).symm))
                | exact ret_one rfl rfl rfl rfl (congrArg V.bool (by unfold mayF; rw [g3_47, Bool.and_false, Bool.false_and]))
                | exact ret_one rfl rfl rfl rfl (congrArg V.bool (by unfold mayF; rw [decide_eq_true (by omega), g3_47]; rfl))
            · refine n1 rfl rfl g3_28 ?_
              refine n1 rfl rfl g3_28 ?_
              refine n1 rfl rfl g3_28 ?_
              refine n1 rfl rfl g3_28 ?_
              first
                | refine s1 rfl (lop_pick_t (v := .bool _) rfl g3_3 rfl) ?_
                | refine s1 rfl (lop_pick_t (v := .bool _) rfl g3_8 rfl) ?_
                | refine s1 rfl (lop_pick_t (v := .bool _) rfl g3_13 rfl) ?_
                | refine s1 rfl (lop_pick_t (v := .bool _) rfl g3_18 rfl) ?_
                | refine s1 rfl (lop_pick_t (v := .bool _) rfl g3_23 rfl) ?_
                | refine s1 rfl (lop_pick_f (v := .bool _) rfl g3_28 rfl) ?_
                | refine s1 rfl (lop_pick_t (v := .bool _) rfl rfl rfl) ?_
                | refine s1 rfl (lop_pick_f (v := .bool _) rfl rfl rfl) ?_
                | refine s1 rfl (lop_pick rfl rfl rfl) ?_
              refine s1 rfl (lop_move (v := .bool _) rfl) ?_
              refine n1 rfl rfl rfl ?_
              refine n1 rfl rfl rfl ?_
              refine n1 rfl rfl rfl ?_
              refine n1 rfl rfl rfl ?_
              first
                | refine s1 rfl (lop_pick_t (v := .bool _) rfl g3_3 rfl) ?_
                | refine s1 rfl (lop_pick_t (v := .bool _) rfl g3_8 rfl) ?_
                | refine s1 rfl (lop_pick_t (v := .bool _) rfl g3_13 rfl) ?_
                | refine s1 rfl (lop_pick_t (v := .bool _) rfl g3_18 rfl) ?_
                | refine s1 rfl (lop_pick_t (v := .bool _) rfl g3_23 rfl) ?_
                | refine s1 rfl (lop_pick_f (v := .bool _) rfl g3_28 rfl) ?_
                | refine s1 rfl (lop_pick_f (v := .bool _) rfl rfl rfl) ?_
                | refine s1 rfl (lop_pick_t (v := .bool _) rfl rfl rfl) ?_
                | refine s1 rfl (lop_pick_f (v := .bool _) rfl rfl rfl) ?_
                | refine s1 rfl (lop_pick rfl rfl rfl) ?_
              refine s1 rfl (lop_move (v := .bool _) rfl) ?_
              refine n1 rfl rfl rfl ?_
              refine n1 rfl rfl rfl ?_
              refine n1 rfl rfl rfl ?_
              refine n1 rfl rfl rfl ?_
              refine n1 rfl rfl rfl ?_
              first
                | refine s1 rfl (lop_pick_t (v := .bool _) rfl g3_3 rfl) ?_
                | refine s1 rfl (lop_pick_t (v := .bool _) rfl g3_8 rfl) ?_
                | refine s1 rfl (lop_pick_t (v := .bool _) rfl g3_13 rfl) ?_
                | refine s1 rfl (lop_pick_t (v := .bool _) rfl g3_18 rfl) ?_
                | refine s1 rfl (lop_pick_t (v := .bool _) rfl g3_23 rfl) ?_
                | refine s1 rfl (lop_pick_f (v := .bool _) rfl g3_28 rfl) ?_
                | refine s1 rfl (lop_pick_f (v := .bool _) rfl rfl rfl) ?_
                | refine s1 rfl (lop_pick_f (v := .bool _) rfl rfl rfl) ?_
                | refine s1 rfl (lop_pick_t (v := .bool _) rfl rfl rfl) ?_
                | refine s1 rfl (lop_pick_f (v := .bool _) rfl rfl rfl) ?_
                | refine s1 rfl (lop_pick rfl rfl rfl) ?_
              refine s1 rfl (lop_move (v := .bool _) rfl) ?_
              refine n1 rfl rfl rfl ?_
              refine n1 rfl rfl rfl ?_
              refine n1 rfl rfl rfl ?_
              refine n1 rfl rfl rfl ?_
              refine n1 rfl rfl rfl ?_
              refine n1 rfl rfl rfl ?_
              refine n1 rfl rfl rfl ?_
              refine n1 rfl rfl rfl ?_
              refine n1 rfl rfl rfl ?_
              refine n1 rfl rfl rfl ?_
              refine n1 rfl rfl rfl ?_
              refine n1 rfl rfl rfl ?_
              refine n1 rfl rfl rfl ?_
              refine n1 rfl rfl rfl ?_
              refine n1 rfl rfl rfl ?_
              refine n1 rfl rfl rfl ?_
              first
                | refine s1 rfl (lop_pick_t (v := .bool _) rfl g3_3 rfl) ?_
                | refine s1 rfl (lop_pick_t (v := .bool _) rfl g3_8 rfl) ?_
                | refine s1 rfl (lop_pick_t (v := .bool _) rfl g3_13 rfl) ?_
                | refine s1 rfl (lop_pick_t (v := .bool _) rfl g3_18 rfl) ?_
                | refine s1 rfl (lop_pick_t (v := .bool _) rfl g3_23 rfl) ?_
                | refine s1 rfl (lop_pick_f (v := .bool _) rfl g3_28 rfl) ?_
                | refine s1 rfl (lop_pick_f (v := .bool _) rfl rfl rfl) ?_
                | refine s1 rfl (lop_pick_f (v := .bool _) rfl rfl rfl) ?_
                | refine s1 rfl (lop_pick_f (v := .bool _) rfl rfl rfl) ?_
                | refine s1 rfl (lop_pick_t (v := .bool _) rfl rfl rfl) ?_
                | refine s1 rfl (lop_pick_f (v := .bool _) rfl rfl rfl) ?_
                | refine s1 rfl (lop_pick rfl rfl rfl) ?_
              refine s1 rfl (lop_assign (v := .bool _) rfl) ?_
              refine ops_nil ?_
              refine ok_ret ?_
              first
              | exact ret_one rfl rfl rfl rfl (congrArg V.bool (may_no (by omega)).symm)
              | exact ret_one rfl rfl rfl rfl (congrArg V.bool (by unfold mayF; rw [may_t g3_47, Bool.and_false, Bool.false_and]))
              | exact ret_one rfl rfl rfl rfl (congrArg V.bool ((decide_eq_false (by omega)).trans (may_no (by omega)).symm))
              | exact ret_one rfl rfl rfl rfl (congrArg V.bool (by unfold mayF; rw [g3_47, Bool.and_false, Bool.false_and]))
              | exact ret_one rfl rfl rfl rfl (congrArg V.bool (by unfold mayF; rw [decide_eq_true (by omega), g3_47]; rfl))
          · refine n1 rfl rfl g3_23 ?_
            refine n1 rfl rfl g3_23 ?_
            refine n1 rfl rfl g3_23 ?_
            first
              | refine s1 rfl (lop_pick_t (v := .bool _) rfl g3_3 rfl) ?_
              | refine s1 rfl (lop_pick_t (v := .bool _) rfl g3_8 rfl) ?_
              | refine s1 rfl (lop_pick_t (v := .bool _) rfl g3_13 rfl) ?_
              | refine s1 rfl (lop_pick_t (v := .bool _) rfl g3_18 rfl) ?_
              | refine s1 rfl (lop_pick_f (v := .bool _) rfl g3_23 rfl) ?_
              | refine s1 rfl (lop_pick_t (v := .bool _) rfl rfl rfl) ?_
              | refine s1 rfl (lop_pick_f (v := .bool _) rfl rfl rfl) ?_
              | refine s1 rfl (lop_pick rfl rfl rfl) ?_
            refine s1 rfl (lop_move (v := .bool _) rfl) ?_
            refine n1 rfl rfl rfl ?_
            refine n1 rfl rfl rfl ?_
            refine n1 rfl rfl rfl ?_
            refine n1 rfl rfl rfl ?_
            first
              | refine s1 rfl (lop_pick_t (v := .bool _) rfl g3_3 rfl) ?_
              | refine s1 rfl (lop_pick_t (v := .bool _) rfl g3_8 rfl) ?_
              | refine s1 rfl (lop_pick_t (v := .bool _) rfl g3_13 rfl) ?_
              | refine s1 rfl (lop_pick_t (v := .bool _) rfl g3_18 rfl) ?_
              | refine s1 rfl (lop_pick_f (v := .bool _) rfl g3_23 rfl) ?_
              | refine s1 rfl (lop_pick_f (v := .bool _) rfl rfl rfl) ?_
              | refine s1 rfl (lop_pick_t (v := .bool _) rfl rfl rfl) ?_
              | refine s1 rfl (lop_pick_f (v := .bool _) rfl rfl rfl) ?_
              | refine s1 rfl (lop_pick rfl rfl rfl) ?_
            refine s1 rfl (lop_move (v := .bool _) rfl) ?_
            refine n1 rfl rfl rfl ?_
            refine n1 rfl rfl rfl ?_
            refine n1 rfl rfl rfl ?_
            refine n1 rfl rfl rfl ?_
            first
              | refine s1 rfl (lop_pick_t (v := .bool _) rfl g3_3 rfl) ?_
              | refine s1 rfl (lop_pick_t (v := .bool _) rfl g3_8 rfl) ?_
              | refine s1 rfl (lop_pick_t (v := .bool _) rfl g3_13 rfl) ?_
              | refine s1 rfl (lop_pick_t (v := .bool _) rfl g3_18 rfl) ?_
              | refine s1 rfl (lop_pick_f (v := .bool _) rfl g3_23 rfl) ?_
              | refine s1 rfl (lop_pick_f (v := .bool _) rfl rfl rfl) ?_
              | refine s1 rfl (lop_pick_f (v := .bool _) rfl rfl rfl) ?_
              | refine s1 rfl (lop_pick_t (v := .bool _) rfl rfl rfl) ?_
              | refine s1 rfl (lop_pick_f (v := .bool _) rfl rfl rfl) ?_
              | refine s1 rfl (lop_pick rfl rfl rfl) ?_
            refine s1 rfl (lop_move (v := .bool _) rfl) ?_
            refine n1 rfl rfl rfl ?_
            refine n1 rfl rfl rfl ?_
            refine n1 rfl rfl rfl ?_
            refine n1 rfl rfl rfl ?_
            refine n1 rfl rfl rfl ?_
            first
              | refine s1 rfl (lop_pick_t (v := .bool _) rfl g3_3 rfl) ?_
              | refine s1 rfl (lop_pick_t (v := .bool _) rfl g3_8 rfl) ?_
              | refine s1 rfl (lop_pick_t (v := .bool _) rfl g3_13 rfl) ?_
              | refine s1 rfl (lop_pick_t (v := .bool _) rfl g3_18 rfl) ?_
              | refine s1 rfl (lop_pick_f (v := .bool _) rfl g3_23 rfl) ?_
              | refine s1 rfl (lop_pick_f (v := .bool _) rfl rfl rfl) ?_
              | refine s1 rfl (lop_pick_f (v := .bool _) rfl rfl rfl) ?_
              | refine s1 rfl (lop_pick_f (v := .bool _) rfl rfl rfl) ?_
              | refine s1 rfl (lop_pick_t (v := .bool _) rfl rfl rfl) ?_
              | refine s1 rfl (lop_pick_f (v := .bool _) rfl rfl rfl) ?_
              | refine s1 rfl (lop_pick rfl rfl rfl) ?_
            refine s1 rfl (lop_move (v := .bool _) rfl) ?_
            refine n1 rfl rfl rfl ?_
            refine n1 rfl rfl rfl ?_
            refine n1 rfl rfl rfl ?_
            refine n1 rfl rfl rfl ?_
            refine n1 rfl rfl rfl ?_
            refine n1 rfl rfl rfl ?_
            refine n1 rfl rfl rfl ?_
            refine n1 rfl rfl rfl ?_
            refine n1 rfl rfl rfl ?_
            refine n1 rfl rfl rfl ?_
            refine n1 rfl rfl rfl ?_
            refine n1 rfl rfl rfl ?_
            refine n1 rfl rfl rfl ?_
            refine n1 rfl rfl rfl ?_
            refine n1 rfl rfl rfl ?_
            refine n1 rfl rfl rfl ?_
            first
              | refine s1 rfl (lop_pick_t (v := .bool _) rfl g3_3 rfl) ?_
              | refine s1 rfl (lop_pick_t (v := .bool _) rfl g3_8 rfl) ?_
              | refine s1 rfl (lop_pick_t (v := .bool _) rfl g3_13 rfl) ?_
              | refine s1 rfl (lop_pick_t (v := .bool _) rfl g3_18 rfl) ?_
              | refine s1 rfl (lop_pick_f (v := .bool _) rfl g3_23 rfl) ?_
              | refine s1 rfl (lop_pick_f (v := .bool _) rfl rfl rfl) ?_
              | refine s1 rfl (lop_pick_f (v := .bool _) rfl rfl rfl) ?_
              | refine s1 rfl (lop_pick_f (v := .bool _) rfl rfl rfl) ?_
              | refine s1 rfl (lop_pick_f (v := .bool _) rfl rfl rfl) ?_
              | refine s1 rfl (lop_pick_t (v := .bool _) rfl rfl rfl) ?_
              | refine s1 rfl (lop_pick_f (v := .bool _) rfl rfl rfl) ?_
              | refine s1 rfl (lop_pick rfl rfl rfl) ?_
            refine s1 rfl (lop_assign (v := .bool _) rfl) ?_
            refine ops_nil ?_
            refine ok_ret ?_
            first
            | exact ret_one rfl rfl rfl rfl (congrArg V.bool (may_no (by omega)).symm)
            | exact ret_one rfl rfl rfl rfl (congrArg V.bool (by unfold mayF; rw [may_t g3_47, Bool.and_false, Bool.false_and]))
            | exact ret_one rfl rfl rfl rfl (congrArg V.bool ((decide_eq_false (by omega)).trans (may_no (by omega)).symm))
            | exact ret_one rfl rfl rfl rfl (congrArg V.bool (by unfold mayF; rw [g3_47, Bool.and_false, Bool.false_and]))
            | exact ret_one rfl rfl rfl rfl (congrArg V.bool (by unfold mayF; rw [decide_eq_true (by omega), g3_47]; rfl))
        · refine n1 rfl rfl g3_18 ?_
          refine n1 rfl rfl g3_18 ?_
          refine n1 rfl rfl g3_18 ?_
          first
            | refine s1 rfl (lop_pick_t (v := .bool _) rfl g3_3 rfl) ?_
            | refine s1 rfl (lop_pick_t (v := .bool _) rfl g3_8 rfl) ?_
            | refine s1 rfl (lop_pick_t (v := .bool _) rfl g3_13 rfl) ?_
            | refine s1 rfl (lop_pick_f (v := .bool _) rfl g3_18 rfl) ?_
            | refine s1 rfl (lop_pick_t (v := .bool _) rfl rfl rfl) ?_
            | refine s1 rfl (lop_pick_f (v := .bool _) rfl rfl rfl) ?_
            | refine s1 rfl (lop_pick rfl rfl rfl) ?_
          refine s1 rfl (lop_move (v := .bool _) rfl) ?_
          refine n1 rfl rfl rfl ?_
          refine n1 rfl rfl rfl ?_
          refine n1 rfl rfl rfl ?_
          first
            | refine s1 rfl (lop_pick_t (v := .bool _) rfl g3_3 rfl) ?_
            | refine s1 rfl (lop_pick_t (v := .bool _) rfl g3_8 rfl) ?_
            | refine s1 rfl (lop_pick_t (v := .bool _) rfl g3_13 rfl) ?_
            | refine s1 rfl (lop_pick_f (v := .bool _) rfl g3_18 rfl) ?_
            | refine s1 rfl (lop_pick_f (v := .bool _) rfl rfl rfl) ?_
            | refine s1 rfl (lop_pick_t (v := .bool _) rfl rfl rfl) ?_
            | refine s1 rfl (lop_pick_f (v := .bool _) rfl rfl rfl) ?_
            | refine s1 rfl (lop_pick rfl rfl rfl) ?_
          refine s1 rfl (lop_move (v := .bool _) rfl) ?_
          refine n1 rfl rfl rfl ?_
          refine n1 rfl rfl rfl ?_
          refine n1 rfl rfl rfl ?_
          refine n1 rfl rfl rfl ?_
          first
            | refine s1 rfl (lop_pick_t (v := .bool _) rfl g3_3 rfl) ?_
            | refine s1 rfl (lop_pick_t (v := .bool _) rfl g3_8 rfl) ?_
            | refine s1 rfl (lop_pick_t (v := .bool _) rfl g3_13 rfl) ?_
            | refine s1 rfl (lop_pick_f (v := .bool _) rfl g3_18 rfl) ?_
            | refine s1 rfl (lop_pick_f (v := .bool _) rfl rfl rfl) ?_
            | refine s1 rfl (lop_pick_f (v := .bool _) rfl rfl rfl) ?_
            | refine s1 rfl (lop_pick_t (v := .bool _) rfl rfl rfl) ?_
            | refine s1 rfl (lop_pick_f (v := .bool _) rfl rfl rfl) ?_
            | refine s1 rfl (lop_pick rfl rfl rfl) ?_
          refine s1 rfl (lop_move (v := .bool _) rfl) ?_
          refine n1 rfl rfl rfl ?_
          refine n1 rfl rfl rfl ?_
          refine n1 rfl rfl rfl ?_
          refine n1 rfl rfl rfl ?_
          first
            | refine s1 rfl (lop_pick_t (v := .bool _) rfl g3_3 rfl) ?_
            | refine s1 rfl (lop_pick_t (v := .bool _) rfl g3_8 rfl) ?_
            | refine s1 rfl (lop_pick_t (v := .bool _) rfl g3_13 rfl) ?_
            | refine s1 rfl (lop_pick_f (v := .bool _) rfl g3_18 rfl) ?_
            | refine s1 rfl (lop_pick_f (v := .bool _) rfl rfl rfl) ?_
            | refine s1 rfl (lop_pick_f (v := .bool _) rfl rfl rfl) ?_
            | refine s1 rfl (lop_pick_f (v := .bool _) rfl rfl rfl) ?_
            | refine s1 rfl (lop_pick_t (v := .bool _) rfl rfl rfl) ?_
            | refine s1 rfl (lop_pick_f (v := .bool _) rfl rfl rfl) ?_
            | refine s1 rfl (lop_pick rfl rfl rfl) ?_
          refine s1 rfl (lop_move (v := .bool _) rfl) ?_
          refine n1 rfl rfl rfl ?_
          refine n1 rfl rfl rfl ?_
          refine n1 rfl rfl rfl ?_
          refine n1 rfl rfl rfl ?_
          refine n1 rfl rfl rfl ?_
          first
            | refine s1 rfl (lop_pick_t (v := .bool _) rfl g3_3 rfl) ?_
            | refine s1 rfl (lop_pick_t (v := .bool _) rfl g3_8 rfl) ?_
            | refine s1 rfl (lop_pick_t (v := .bool _) rfl g3_13 rfl) ?_
            | refine s1 rfl (lop_pick_f (v := .bool _) rfl g3_18 rfl) ?_
            | refine s1 rfl (lop_pick_f (v := .bool _) rfl rfl rfl) ?_
            | refine s1 rfl (lop_pick_f (v := .bool _) rfl rfl rfl) ?_
            | refine s1 rfl (lop_pick_f (v := .bool _) rfl rfl rfl) ?_
            | refine s1 rfl (lop_pick_f (v := .bool _) rfl rfl rfl) ?_
            | refine s1 rfl (lop_pick_t (v := .bool _) rfl rfl rfl) ?_
            | refine s1 rfl (lop_pick_f (v := .bool _) rfl rfl rfl) ?_
            | refine s1 rfl (lop_pick rfl rfl rfl) ?_
          refine s1 rfl (lop_move (v := .bool _) rfl) ?_
          refine n1 rfl rfl rfl ?_
          refine n1 rfl rfl rfl ?_
          refine n1 rfl rfl rfl ?_
          refine n1 rfl rfl rfl ?_
          refine n1 rfl rfl rfl ?_
          refine n1 rfl rfl rfl ?_
          refine n1 rfl rfl rfl ?_
          refine n1 rfl rfl rfl ?_
          refine n1 rfl rfl rfl ?_
          refine n1 rfl rfl rfl ?_
          refine n1 rfl rfl rfl ?_
          refine n1 rfl rfl rfl ?_
          refine n1 rfl rfl rfl ?_
          refine n1 rfl rfl rfl ?_
          refine n1 rfl rfl rfl ?_
          refine n1 rfl rfl rfl ?_
          first
            | refine s1 rfl (lop_pick_t (v := .bool _) rfl g3_3 rfl) ?_
            | refine s1 rfl (lop_pick_t (v := .bool _) rfl g3_8 rfl) ?_
            | refine s1 rfl (lop_pick_t (v := .bool _) rfl g3_13 rfl) ?_
            | refine s1 rfl (lop_pick_f (v := .bool _) rfl g3_18 rfl) ?_
            | refine s1 rfl (lop_pick_f (v := .bool _) rfl rfl rfl) ?_
            | refine s1 rfl (lop_pick_f (v := .bool _) rfl rfl rfl) ?_
            | refine s1 rfl (lop_pick_f (v := .bool _) rfl rfl rfl) ?_
            | refine s1 rfl (lop_pick_f (v := .bool _) rfl rfl rfl) ?_
            | refine s1 rfl (lop_pick_f (v := .bool _) rfl rfl rfl) ?_
            | refine s1 rfl (lop_pick_t (v := .bool _) rfl rfl rfl) ?_
            | refine s1 rfl (lop_pick_f (v := .bool _) rfl rfl rfl) ?_
            | refine s1 rfl (lop_pick rfl rfl rfl) ?_
          refine s1 rfl (lop_assign (v := .bool _) rfl) ?_
          refine ops_nil ?_
          refine ok_ret ?_
          first
          | exact ret_one rfl rfl rfl rfl (congrArg V.bool (may_no (by omega)).symm)
          | exact ret_one rfl rfl rfl rfl (congrArg V.bool (by unfold mayF; rw [may_t g3_47, Bool.and_false, Bool.false_and]))
          | exact ret_one rfl rfl rfl rfl (congrArg V.bool ((decide_eq_false (by omega)).trans (may_no (by omega)).symm))
          | exact ret_one rfl rfl rfl rfl (congrArg V.bool (by unfold mayF; rw [g3_47, Bool.and_false, Bool.false_and]))
          | exact ret_one rfl rfl rfl rfl (congrArg V.bool (by unfold mayF; rw [decide_eq_true (by omega), g3_47]; rfl))
      · refine n1 rfl rfl g3_13 ?_
        refine n1 rfl rfl g3_13 ?_
        refine n1 rfl rfl g3_13 ?_
        first
          | refine s1 rfl (lop_pick_t (v := .bool _) rfl g3_3 rfl) ?_
          | refine s1 rfl (lop_pick_t (v := .bool _) rfl g3_8 rfl) ?_
          | refine s1 rfl (lop_pick_f (v := .bool _) rfl g3_13 rfl) ?_
          | refine s1 rfl (lop_pick_t (v := .bool _) rfl rfl rfl) ?_
          | refine s1 rfl (lop_pick_f (v := .bool _) rfl rfl rfl) ?_
          | refine s1 rfl (lop_pick rfl rfl rfl) ?_
        refine s1 rfl (lop_move (v := .bool _) rfl) ?_
        refine n1 rfl rfl rfl ?_
        refine n1 rfl rfl rfl ?_
        refine n1 rfl rfl rfl ?_
        first
          | refine s1 rfl (lop_pick_t (v := .bool _) rfl g3_3 rfl) ?_
          | refine s1 rfl (lop_pick_t (v := .bool _) rfl g3_8 rfl) ?_
          | refine s1 rfl (lop_pick_f (v := .bool _) rfl g3_13 rfl) ?_
          | refine s1 rfl (lop_pick_f (v := .bool _) rfl rfl rfl) ?_
          | refine s1 rfl (lop_pick_t (v := .bool _) rfl rfl rfl) ?_
          | refine s1 rfl (lop_pick_f (v := .bool _) rfl rfl rfl) ?_
          | refine s1 rfl (lop_pick rfl rfl rfl) ?_
        refine s1 rfl (lop_move (v := .bool _) rfl) ?_
        refine n1 rfl rfl rfl ?_
        refine n1 rfl rfl rfl ?_
        refine n1 rfl rfl rfl ?_
        first
          | refine s1 rfl (lop_pick_t (v := .bool _) rfl g3_3 rfl) ?_
          | refine s1 rfl (lop_pick_t (v := .bool _) rfl g3_8 rfl) ?_
          | refine s1 rfl (lop_pick_f (v := .bool _) rfl g3_13 rfl) ?_
          | refine s1 rfl (lop_pick_f (v := .bool _) rfl rfl rfl) ?_
          | refine s1 rfl (lop_pick_f (v := .bool _) rfl rfl rfl) ?_
          | refine s1 rfl (lop_pick_t (v := .bool _) rfl rfl rfl) ?_
          | refine s1 rfl (lop_pick_f (v := .bool _) rfl rfl rfl) ?_
          | refine s1 rfl (lop_pick rfl rfl rfl) ?_
        refine s1 rfl (lop_move (v := .bool _) rfl) ?_
        refine n1 rfl rfl rfl ?_
        refine n1 rfl rfl rfl ?_
        refine n1 rfl rfl rfl ?_
        refine n1 rfl rfl rfl ?_
        first
          | refine s1 rfl (lop_pick_t (v := .bool _) rfl g3_3 rfl) ?_
          | refine s1 rfl (lop_pick_t (v := .bool _) rfl g3_8 rfl) ?_
          | refine s1 rfl (lop_pick_f (v := .bool _) rfl g3_13 rfl) ?_
          | refine s1 rfl (lop_pick_f (v := .bool _) rfl rfl rfl) ?_
          | refine s1 rfl (lop_pick_f (v := .bool _) rfl rfl rfl) ?_
          | refine s1 rfl (lop_pick_f (v := .bool _) rfl rfl rfl) ?_
          | refine s1 rfl (lop_pick_t (v := .bool _) rfl rfl rfl) ?_
          | refine s1 rfl (lop_pick_f (v := .bool _) rfl rfl rfl) ?_
          | refine s1 rfl (lop_pick rfl rfl rfl) ?_
        refine s1 rfl (lop_move (v := .bool _) rfl) ?_
        refine n1 rfl rfl rfl ?_
        refine n1 rfl rfl rfl ?_
        refine n1 rfl rfl rfl ?_
        refine n1 rfl rfl rfl ?_
        first
          | refine s1 rfl (lop_pick_t (v := .bool _) rfl g3_3 rfl) ?_
          | refine s1 rfl (lop_pick_t (v := .bool _) rfl g3_8 rfl) ?_
          | refine s1 rfl (lop_pick_f (v := .bool _) rfl g3_13 rfl) ?_
          | refine s1 rfl (lop_pick_f (v := .bool _) rfl rfl rfl) ?_
          | refine s1 rfl (lop_pick_f (v := .bool _) rfl rfl rfl) ?_
          | refine s1 rfl (lop_pick_f (v := .bool _) rfl rfl rfl) ?_
          | refine s1 rfl (lop_pick_f (v := .bool _) rfl rfl rfl) ?_
          | refine s1 rfl (lop_pick_t (v := .bool _) rfl rfl rfl) ?_
          | refine s1 rfl (lop_pick_f (v := .bool _) rfl rfl rfl) ?_
          | refine s1 rfl (lop_pick rfl rfl rfl) ?_
        refine s1 rfl (lop_move (v := .bool _) rfl) ?_
        refine n1 rfl rfl rfl ?_
        refine n1 rfl rfl rfl ?_
        refine n1 rfl rfl rfl ?_
        refine n1 rfl rfl rfl ?_
        refine n1 rfl rfl rfl ?_
        first
          | refine s1 rfl (lop_pick_t (v := .bool _) rfl g3_3 rfl) ?_
          | refine s1 rfl (lop_pick_t (v := .bool _) rfl g3_8 rfl) ?_
          | refine s1 rfl (lop_pick_f (v := .bool _) rfl g3_13 rfl) ?_
          | refine s1 rfl (lop_pick_f (v := .bool _) rfl rfl rfl) ?_
          | refine s1 rfl (lop_pick_f (v := .bool _) rfl rfl rfl) ?_
          | refine s1 rfl (lop_pick_f (v := .bool _) rfl rfl rfl) ?_
          | refine s1 rfl (lop_pick_f (v := .bool _) rfl rfl rfl) ?_
          | refine s1 rfl (lop_pick_f (v := .bool _) rfl rfl rfl) ?_
          | refine s1 rfl (lop_pick_t (v := .bool _) rfl rfl rfl) ?_
          | refine s1 rfl (lop_pick_f (v := .bool _) rfl rfl rfl) ?_
          | refine s1 rfl (lop_pick rfl rfl rfl) ?_
        refine s1 rfl (lop_move (v := .bool _) rfl) ?_
        refine n1 rfl rfl rfl ?_
        refine n1 rfl rfl rfl ?_
        refine n1 rfl rfl rfl ?_
        refine n1 rfl rfl rfl ?_
        refine n1 rfl rfl rfl ?_
        refine n1 rfl rfl rfl ?_
        refine n1 rfl rfl rfl ?_
        refine n1 rfl rfl rfl ?_
        refine n1 rfl rfl rfl ?_
        refine n1 rfl rfl rfl ?_
        refine n1 rfl rfl rfl ?_
        refine n1 rfl rfl rfl ?_
        refine n1 rfl rfl rfl ?_
        refine n1 rfl rfl rfl ?_
        refine n1 rfl rfl rfl ?_
        refine n1 rfl rfl rfl ?_
        first
          | refine s1 rfl (lop_pick_t (v := .bool _) rfl g3_3 rfl) ?_
          | refine s1 rfl (lop_pick_t (v := .bool _) rfl g3_8 rfl) ?_
          | refine s1 rfl (lop_pick_f (v := .bool _) rfl g3_13 rfl) ?_
          | refine s1 rfl (lop_pick_f (v := .bool _) rfl rfl rfl) ?_
          | refine s1 rfl (lop_pick_f (v := .bool _) rfl rfl rfl) ?_
          | refine s1 rfl (lop_pick_f (v := .bool _) rfl rfl rfl) ?_
          | refine s1 rfl (lop_pick_f (v := .bool _) rfl rfl rfl) ?_
          | refine s1 rfl (lop_pick_f (v := .bool _) rfl rfl rfl) ?_
          | refine s1 rfl (lop_pick_f (v := .bool _) rfl rfl rfl) ?_
          | refine s1 rfl (lop_pick_t (v := .bool _) rfl rfl rfl) ?_
          | refine s1 rfl (lop_pick_f (v := .bool _) rfl rfl rfl) ?_
          | refine s1 rfl (lop_pick rfl rfl rfl) ?_
        refine s1 rfl (lop_assign (v := .bool _) rfl) ?_
        refine ops_nil ?_
        refine ok_ret ?_
        first
        | exact ret_one rfl rfl rfl rfl (congrArg V.bool (may_no (by omega)).symm)
        | exact ret_one rfl rfl rfl rfl (congrArg V.bool (by unfold mayF; rw [may_t g3_47, Bool.and_false, Bool.false_and]))
        | exact ret_one rfl rfl rfl rfl (congrArg V.bool ((decide_eq_false (by omega)).trans (may_no (by omega)).symm))
        | exact ret_one rfl rfl rfl rfl (congrArg V.bool (by unfold mayF; rw [g3_47, Bool.and_false, Bool.false_and]))
        | exact ret_one rfl rfl rfl rfl (congrArg V.bool (by unfold mayF; rw [decide_eq_true (by omega), g3_47]; rfl))
    · refine n1 rfl rfl g3_8 ?_
      refine n1 rfl rfl g3_8 ?_
      refine n1 rfl rfl g3_8 ?_
      first
        | refine s1 rfl (lop_pick_t (v := .bool _) rfl g3_3 rfl) ?_
        | refine s1 rfl (lop_pick_f (v := .bool _) rfl g3_8 rfl) ?_
        | refine s1 rfl (lop_pick_t (v := .bool _) rfl rfl rfl) ?_
        | refine s1 rfl (lop_pick_f (v := .bool _) rfl rfl rfl) ?_
        | refine s1 rfl (lop_pick rfl rfl rfl) ?_
      refine s1 rfl (lop_move (v := .bool _) rfl) ?_
      refine n1 rfl rfl rfl ?_
      refine n1 rfl rfl rfl ?_
      refine n1 rfl rfl rfl ?_
      first
        | refine s1 rfl (lop_pick_t (v := .bool _) rfl g3_3 rfl) ?_
        | refine s1 rfl (lop_pick_f (v := .bool _) rfl g3_8 rfl) ?_
        | refine s1 rfl (lop_pick_f (v := .bool _) rfl rfl rfl) ?_
        | refine s1 rfl (lop_pick_t (v := .bool _) rfl rfl rfl) ?_
        | refine s1 rfl (lop_pick_f (v := .bool _) rfl rfl rfl) ?_
        | refine s1 rfl (lop_pick rfl rfl rfl) ?_
      refine s1 rfl (lop_move (v := .bool _) rfl) ?_
      refine n1 rfl rfl rfl ?_
      refine n1 rfl rfl rfl ?_
      refine n1 rfl rfl rfl ?_
      first
        | refine s1 rfl (lop_pick_t (v := .bool _) rfl g3_3 rfl) ?_
        | refine s1 rfl (lop_pick_f (v := .bool _) rfl g3_8 rfl) ?_
        | refine s1 rfl (lop_pick_f (v := .bool _) rfl rfl rfl) ?_
        | refine s1 rfl (lop_pick_f (v := .bool _) rfl rfl rfl) ?_
        | refine s1 rfl (lop_pick_t (v := .bool _) rfl rfl rfl) ?_
        | refine s1 rfl (lop_pick_f (v := .bool _) rfl rfl rfl) ?_
        | refine s1 rfl (lop_pick rfl rfl rfl) ?_
      refine s1 rfl (lop_move (v := .bool _) rfl) ?_
      refine n1 rfl rfl rfl ?_
      refine n1 rfl rfl rfl ?_
      refine n1 rfl rfl rfl ?_
      first
        | refine s1 rfl (lop_pick_t (v := .bool _) rfl g3_3 rfl) ?_
        | refine s1 rfl (lop_pick_f (v := .bool _) rfl g3_8 rfl) ?_
        | refine s1 rfl (lop_pick_f (v := .bool _) rfl rfl rfl) ?_
        | refine s1 rfl (lop_pick_f (v := .bool _) rfl rfl rfl) ?_
        | refine s1 rfl (lop_pick_f (v := .bool _) rfl rfl rfl) ?_
        | refine s1 rfl (lop_pick_t (v := .bool _) rfl rfl rfl) ?_
        | refine s1 rfl (lop_pick_f (v := .bool _) rfl rfl rfl) ?_
        | refine s1 rfl (lop_pick rfl rfl rfl) ?_
      refine s1 rfl (lop_move (v := .bool _) rfl) ?_
      refine n1 rfl rfl rfl ?_
      refine n1 rfl rfl rfl ?_
      refine n1 rfl rfl rfl ?_
      refine n1 rfl rfl rfl ?_
      first
        | refine s1 rfl (lop_pick_t (v := .bool _) rfl g3_3 rfl) ?_
        | refine s1 rfl (lop_pick_f (v := .bool _) rfl g3_8 rfl) ?_
        | refine s1 rfl (lop_pick_f (v := .bool _) rfl rfl rfl) ?_
        | refine s1 rfl (lop_pick_f (v := .bool _) rfl rfl rfl) ?_
        | refine s1 rfl (lop_pick_f (v := .bool _) rfl rfl rfl) ?_
        | refine s1 rfl (lop_pick_f (v := .bool _) rfl rfl rfl) ?_
        | refine s1 rfl (lop_pick_t (v := .bool _) rfl rfl rfl) ?_
        | refine s1 rfl (lop_pick_f (v := .bool _) rfl rfl rfl) ?_
        | refine s1 rfl (lop_pick rfl rfl rfl) ?_
      refine s1 rfl (lop_move (v := .bool _) rfl) ?_
      refine n1 rfl rfl rfl ?_
      refine n1 rfl rfl rfl ?_
      refine n1 rfl rfl rfl ?_
      refine n1 rfl rfl rfl ?_
      first
        | refine s1 rfl (lop_pick_t (v := .bool _) rfl g3_3 rfl) ?_
        | refine s1 rfl (lop_pick_f (v := .bool _) rfl g3_8 rfl) ?_
        | refine s1 rfl (lop_pick_f (v := .bool _) rfl rfl rfl) ?_
        | refine s1 rfl (lop_pick_f (v := .bool _) rfl rfl rfl) ?_
        | refine s1 rfl (lop_pick_f (v := .bool _) rfl rfl rfl) ?_
        | refine s1 rfl (lop_pick_f (v := .bool _) rfl rfl rfl) ?_
        | refine s1 rfl (lop_pick_f (v := .bool _) rfl rfl rfl) ?_
        | refine s1 rfl (lop_pick_t (v := .bool _) rfl rfl rfl) ?_
        | refine s1 rfl (lop_pick_f (v := .bool _) rfl rfl rfl) ?_
        | refine s1 rfl (lop_pick rfl rfl rfl) ?_
      refine s1 rfl (lop_move (v := .bool _) rfl) ?_
      refine n1 rfl rfl rfl ?_
      refine n1 rfl rfl rfl ?_
      refine n1 rfl rfl rfl ?_
      refine n1 rfl rfl rfl ?_
      refine n1 rfl rfl rfl ?_
      first
        | refine s1 rfl (lop_pick_t (v := .bool _) rfl g3_3 rfl) ?_
        | refine s1 rfl (lop_pick_f (v := .bool _) rfl g3_8 rfl) ?_
        | refine s1 rfl (lop_pick_f (v := .bool _) rfl rfl rfl) ?_
        | refine s1 rfl (lop_pick_f (v := .bool _) rfl rfl rfl) ?_
        | refine s1 rfl (lop_pick_f (v := .bool _) rfl rfl rfl) ?_
        | refine s1 rfl (lop_pick_f (v := .bool _) rfl rfl rfl) ?_
        | refine s1 rfl (lop_pick_f (v := .bool _) rfl rfl rfl) ?_
        | refine s1 rfl (lop_pick_f (v := .bool _) rfl rfl rfl) ?_
        | refine s1 rfl (lop_pick_t (v := .bool _) rfl rfl rfl) ?_
        | refine s1 rfl (lop_pick_f (v := .bool _) rfl rfl rfl) ?_
        | refine s1 rfl (lop_pick rfl rfl rfl) ?_
      refine s1 rfl (lop_move (v := .bool _) rfl) ?_
      refine n1 rfl rfl rfl ?_
      refine n1 rfl rfl rfl ?_
      refine n1 rfl rfl rfl ?_
      refine n1 rfl rfl rfl ?_
      refine n1 rfl rfl rfl ?_
      refine n1 rfl rfl rfl ?_
      refine n1 rfl rfl rfl ?_
      refine n1 rfl rfl rfl ?_
      refine n1 rfl rfl rfl ?_
      refine n1 rfl rfl rfl ?_
      refine n1 rfl rfl rfl ?_
      refine n1 rfl rfl rfl ?_
      refine n1 rfl rfl rfl ?_
      refine n1 rfl rfl rfl ?_
      refine n1 rfl rfl rfl ?_
      refine n1 rfl rfl rfl ?_
      first
        | refine s1 rfl (lop_pick_t (v := .bool _) rfl g3_3 rfl) ?_
        | refine s1 rfl (lop_pick_f (v := .bool _) rfl g3_8 rfl) ?_
        | refine s1 rfl (lop_pick_f (v := .bool _) rfl rfl rfl) ?_
        | refine s1 rfl (lop_pick_f (v := .bool _) rfl rfl rfl) ?_
        | refine s1 rfl (lop_pick_f (v := .bool _) rfl rfl rfl) ?_
        | refine s1 rfl (lop_pick_f (v := .bool _) rfl rfl rfl) ?_
        | refine s1 rfl (lop_pick_f (v := .bool _) rfl rfl rfl) ?_
        | refine s1 rfl (lop_pick_f (v := .bool _) rfl rfl rfl) ?_
        | refine s1 rfl (lop_pick_f (v := .bool _) rfl rfl rfl) ?_
        | refine s1 rfl (lop_pick_t (v := .bool _) rfl rfl rfl) ?_
        | refine s1 rfl (lop_pick_f (v := .bool _) rfl rfl rfl) ?_
        | refine s1 rfl (lop_pick rfl rfl rfl) ?_
      refine s1 rfl (lop_assign (v := .bool _) rfl) ?_
      refine ops_nil ?_
      refine ok_ret ?_
      first
      | exact ret_one rfl rfl rfl rfl (congrArg V.bool (may_no (by omega)).symm)
      | exact ret_one rfl rfl rfl rfl (congrArg V.bool (by unfold mayF; rw [may_t g3_47, Bool.and_false, Bool.false_and]))
      | exact ret_one rfl rfl rfl rfl (congrArg V.bool ((decide_eq_false (by omega)).trans (may_no (by omega)).symm))
      | exact ret_one rfl rfl rfl rfl (congrArg V.bool (by unfold mayF; rw [g3_47, Bool.and_false, Bool.false_and]))
      | exact ret_one rfl rfl rfl rfl (congrArg V.bool (by unfold mayF; rw [decide_eq_true (by omega), g3_47]; rfl))
  · refine n1 rfl rfl g3_3 ?_
    refine n1 rfl rfl g3_3 ?_
    refine n1 rfl rfl g3_3 ?_
    first
      | refine s1 rfl (lop_pick_f (v := .bool _) rfl g3_3 rfl) ?_
      | refine s1 rfl (lop_pick_t (v := .bool _) rfl rfl rfl) ?_
      | refine s1 rfl (lop_pick_f (v := .bool _) rfl rfl rfl) ?_
      | refine s1 rfl (lop_pick rfl rfl rfl) ?_
    refine s1 rfl (lop_move (v := .bool _) rfl) ?_
    refine n1 rfl rfl rfl ?_
    refine n1 rfl rfl rfl ?_
    refine n1 rfl rfl rfl ?_
    first
      | refine s1 rfl (lop_pick_f (v := .bool _) rfl g3_3 rfl) ?_
      | refine s1 rfl (lop_pick_f (v := .bool _) rfl rfl rfl) ?_
      | refine s1 rfl (lop_pick_t (v := .bool _) rfl rfl rfl) ?_
      | refine s1 rfl (lop_pick_f (v := .bool _) rfl rfl rfl) ?_
      | refine s1 rfl (lop_pick rfl rfl rfl) ?_
    refine s1 rfl (lop_move (v := .bool _) rfl) ?_
    refine n1 rfl rfl rfl ?_
    refine n1 rfl rfl rfl ?_
    refine n1 rfl rfl rfl ?_
    first
      | refine s1 rfl (lop_pick_f (v := .bool _) rfl g3_3 rfl) ?_
      | refine s1 rfl (lop_pick_f (v := .bool _) rfl rfl rfl) ?_
      | refine s1 rfl (lop_pick_f (v := .bool _) rfl rfl rfl) ?_
      | refine s1 rfl (lop_pick_t (v := .bool _) rfl rfl rfl) ?_
      | refine s1 rfl (lop_pick_f (v := .bool _) rfl rfl rfl) ?_
      | refine s1 rfl (lop_pick rfl rfl rfl) ?_
    refine s1 rfl (lop_move (v := .bool _) rfl) ?_
    refine n1 rfl rfl rfl ?_
    refine n1 rfl rfl rfl ?_
    refine n1 rfl rfl rfl ?_
    first
      | refine s1 rfl (lop_pick_f (v := .bool _) rfl g3_3 rfl) ?_
      | refine s1 rfl (lop_pick_f (v := .bool _) rfl rfl rfl) ?_
      | refine s1 rfl (lop_pick_f (v := .bool _) rfl rfl rfl) ?_
      | refine s1 rfl (lop_pick_f (v := .bool _) rfl rfl rfl) ?_
      | refine s1 rfl (lop_pick_t (v := .bool _) rfl rfl rfl) ?_
      | refine s1 rfl (lop_pick_f (v := .bool _) rfl rfl rfl) ?_
      | refine s1 rfl (lop_pick rfl rfl rfl) ?_
    refine s1 rfl (lop_move (v := .bool _) rfl) ?_
    refine n1 rfl rfl rfl ?_
    refine n1 rfl rfl rfl ?_
    refine n1 rfl rfl rfl ?_
    first
      | refine s1 rfl (lop_pick_f (v := .bool _) rfl g3_3 rfl) ?_
      | refine s1 rfl (lop_pick_f (v := .bool _) rfl rfl rfl) ?_
      | refine s1 rfl (lop_pick_f (v := .bool _) rfl rfl rfl) ?_
      | refine s1 rfl (lop_pick_f (v := .bool _) rfl rfl rfl) ?_
      | refine s1 rfl (lop_pick_f (v := .bool _) rfl rfl rfl) ?_
      | refine s1 rfl (lop_pick_t (v := .bool _) rfl rfl rfl) ?_
      | refine s1 rfl (lop_pick_f (v := .bool _) rfl rfl rfl) ?_
      | refine s1 rfl (lop_pick rfl rfl rfl) ?_
    refine s1 rfl (lop_move (v := .bool _) rfl) ?_
    refine n1 rfl rfl rfl ?_
    refine n1 rfl rfl rfl ?_
    refine n1 rfl rfl rfl ?_
    refine n1 rfl rfl rfl ?_
    first
      | refine s1 rfl (lop_pick_f (v := .bool _) rfl g3_3 rfl) ?_
      | refine s1 rfl (lop_pick_f (v := .bool _) rfl rfl rfl) ?_
      | refine s1 rfl (lop_pick_f (v := .bool _) rfl rfl rfl) ?_
      | refine s1 rfl (lop_pick_f (v := .bool _) rfl rfl rfl) ?_
      | refine s1 rfl (lop_pick_f (v := .bool _) rfl rfl rfl) ?_
      | refine s1 rfl (lop_pick_f (v := .bool _) rfl rfl rfl) ?_
      | refine s1 rfl (lop_pick_t (v := .bool _) rfl rfl rfl) ?_
      | refine s1 rfl (lop_pick_f (v := .bool _) rfl rfl rfl) ?_
      | refine s1 rfl (lop_pick rfl rfl rfl) ?_
    refine s1 rfl (lop_move (v := .bool _) rfl) ?_
    refine n1 rfl rfl rfl ?_
    refine n1 rfl rfl rfl ?_
    refine n1 rfl rfl rfl ?_
    refine n1 rfl rfl rfl ?_
    first
      | refine s1 rfl (lop_pick_f (v := .bool _) rfl g3_3 rfl) ?_
      | refine s1 rfl (lop_pick_f (v := .bool _) rfl rfl rfl) ?_
      | refine s1 rfl (lop_pick_f (v := .bool _) rfl rfl rfl) ?_
      | refine s1 rfl (lop_pick_f (v := .bool _) rfl rfl rfl) ?_
      | refine s1 rfl (lop_pick_f (v := .bool _) rfl rfl rfl) ?_
      | refine s1 rfl (lop_pick_f (v := .bool _) rfl rfl rfl) ?_
      | refine s1 rfl (lop_pick_f (v := .bool _) rfl rfl rfl) ?_
      | refine s1 rfl (lop_pick_t (v := .bool _) rfl rfl rfl) ?_
      | refine s1 rfl (lop_pick_f (v := .bool _) rfl rfl rfl) ?_
      | refine s1 rfl (lop_pick rfl rfl rfl) ?_
    refine s1 rfl (lop_move (v := .bool _) rfl) ?_
    refine n1 rfl rfl rfl ?_
    refine n1 rfl rfl rfl ?_
    refine n1 rfl rfl rfl ?_
    refine n1 rfl rfl rfl ?_
    refine n1 rfl rfl rfl ?_
    first
      | refine s1 rfl (lop_pick_f (v := .bool _) rfl g3_3 rfl) ?_
      | refine s1 rfl (lop_pick_f (v := .bool _) rfl rfl rfl) ?_
      | refine s1 rfl (lop_pick_f (v := .bool _) rfl rfl rfl) ?_
      | refine s1 rfl (lop_pick_f (v := .bool _) rfl rfl rfl) ?_
      | refine s1 rfl (lop_pick_f (v := .bool _) rfl rfl rfl) ?_
      | refine s1 rfl (lop_pick_f (v := .bool _) rfl rfl rfl) ?_
      | refine s1 rfl (lop_pick_f (v := .bool _) rfl rfl rfl) ?_
      | refine s1 rfl (lop_pick_f (v := .bool _) rfl rfl rfl) ?_
      | refine s1 rfl (lop_pick_t (v := .bool _) rfl rfl rfl) ?_
      | refine s1 rfl (lop_pick_f (v := .bool _) rfl rfl rfl) ?_
      | refine s1 rfl (lop_pick rfl rfl rfl) ?_
    refine s1 rfl (lop_move (v := .bool _) rfl) ?_
    refine n1 rfl rfl rfl ?_
    refine n1 rfl rfl rfl ?_
    refine n1 rfl rfl rfl ?_
    refine n1 rfl rfl rfl ?_
    refine n1 rfl rfl rfl ?_
    refine n1 rfl rfl rfl ?_
    refine n1 rfl rfl rfl ?_
    refine n1 rfl rfl rfl ?_
    refine n1 rfl rfl rfl ?_
    refine n1 rfl rfl rfl ?_
    refine n1 rfl rfl rfl ?_
    refine n1 rfl rfl rfl ?_
    refine n1 rfl rfl rfl ?_
    refine n1 rfl rfl rfl ?_
    refine n1 rfl rfl rfl ?_
    refine n1 rfl rfl rfl ?_
    first
      | refine s1 rfl (lop_pick_f (v := .bool _) rfl g3_3 rfl) ?_
      | refine s1 rfl (lop_pick_f (v := .bool _) rfl rfl rfl) ?_
      | refine s1 rfl (lop_pick_f (v := .bool _) rfl rfl rfl) ?_
      | refine s1 rfl (lop_pick_f (v := .bool _) rfl rfl rfl) ?_
      | refine s1 rfl (lop_pick_f (v := .bool _) rfl rfl rfl) ?_
      | refine s1 rfl (lop_pick_f (v := .bool _) rfl rfl rfl) ?_
      | refine s1 rfl (lop_pick_f (v := .bool _) rfl rfl rfl) ?_
      | refine s1 rfl (lop_pick_f (v := .bool _) rfl rfl rfl) ?_
      | refine s1 rfl (lop_pick_f (v := .bool _) rfl rfl rfl) ?_
      | refine s1 rfl (lop_pick_t (v := .bool _) rfl rfl rfl) ?_
      | refine s1 rfl (lop_pick_f (v := .bool _) rfl rfl rfl) ?_
      | refine s1 rfl (lop_pick rfl rfl rfl) ?_
    refine s1 rfl (lop_assign (v := .bool _) rfl) ?_
    refine ops_nil ?_
    refine ok_ret ?_
    first
    | exact ret_one rfl rfl rfl rfl (congrArg V.bool (may_no (by omega)).symm)
    | exact ret_one rfl rfl rfl rfl (congrArg V.bool (by unfold mayF; rw [may_t g3_47, Bool.and_false, Bool.false_and]))
    | exact ret_one rfl rfl rfl rfl (congrArg V.bool ((decide_eq_false (by omega)).trans (may_no (by omega)).symm))
    | exact ret_one rfl rfl rfl rfl (congrArg V.bool (by unfold mayF; rw [g3_47, Bool.and_false, Bool.false_and]))
    | exact ret_one rfl rfl rfl rfl (congrArg V.bool (by unfold mayF; rw [decide_eq_true (by omega), g3_47]; rfl))

end Go.Proofs
