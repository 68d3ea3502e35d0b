/- Chapter 16: walks. Printed by gen.py. -/
import Derived.Test.YtikikdgfebbcmaaT16ia
set_option linter.unusedVariables false
set_option linter.unusedSimpArgs false
set_option maxRecDepth 100000
namespace Go.Proofs
open Go.Hg

def chF (ps : List PartD) (s : SpanD) : PartD := (ps.find? (selP s)).getD ⟨0, ⟨#[]⟩⟩
def fillF (ss : List SpanD) (ps : List PartD) : ByteArray × Int := if ss.all (fun s => ps.any (selP s)) then layF 160 (ss.map (chF ps)) else (⟨#[]⟩, 7)
theorem idx_ch {ps : List PartD} {s : SpanD} (h : ¬ idxOf (selP s) ps < 0) : ∃ j, ∃ hj : j < ps.length, idxOf (selP s) ps = (j : Int) ∧ ps[j] = chF ps s ∧ ps.any (selP s) = true := by
  rcases idxOf_cases (selP s) ps with ⟨h1, _⟩ | ⟨j, hj, h1, h2, h3⟩
  · omega
  · refine ⟨j, hj, h1, ?_, List.any_eq_true.2 ⟨_, List.getElem_mem hj, h2⟩⟩
    unfold chF
    rw [List.find?_eq_some_iff_getElem.2 ⟨h2, j, hj, rfl, fun k hk => by simpa using h3 k (by omega) hk⟩]
    rfl
theorem idx_none {ps : List PartD} {s : SpanD} (h : idxOf (selP s) ps < 0) : ps.any (selP s) = false := by
  rcases idxOf_cases (selP s) ps with ⟨h1, h2⟩ | ⟨j, hj, h1, h2, h3⟩
  · rw [List.any_eq_false]
    intro x hx
    rw [h2 x hx]; simp
  · omega
theorem any_step {ss : List SpanD} {ps : List PartD} {i : Nat} (hn : ∀ j, (h : j < ss.length) → j < i → ps.any (selP ss[j]) = true) (h : i < ss.length) (hi : ps.any (selP ss[i]) = true) : ∀ j, (h : j < ss.length) → j < i + 1 → ps.any (selP ss[j]) = true := by
  intro j hj hlt
  rcases Nat.lt_or_ge j i with h1 | h1
  · exact hn j hj h1
  · have : j = i := by omega
    subst this; exact hi
theorem fillF_no {ss : List SpanD} {ps : List PartD} {i : Nat} (h : i < ss.length) (hi : ps.any (selP ss[i]) = false) : fillF ss ps = (⟨#[]⟩, 7) := by
  unfold fillF
  rw [if_neg]
  intro h2
  rw [List.all_eq_true] at h2
  have := h2 _ (List.getElem_mem h)
  rw [hi] at this; cases this
theorem fillF_yes {ss : List SpanD} {ps : List PartD} (hn : ∀ j, (h : j < ss.length) → j < ss.length → ps.any (selP ss[j]) = true) : fillF ss ps = layF 160 (ss.map (chF ps)) := by
  unfold fillF
  rw [if_pos]
  rw [List.all_eq_true]
  intro p hp
  obtain ⟨j, hj, rfl⟩ := List.getElem_of_mem hp
  exact hn j hj hj

theorem plan_Fill_ac (v : VolD) (hv : v.ok) {ps : List PartD} (hp : ps.length ≤ 1048576) : AC Try.prog 15 [.agg v.enc, rowOf PartD.enc ps] (.tup [.str (fillF v.parts ps).1, i64 (fillF v.parts ps).2]) := by
  have hvp := hv.parts
  refine AC.intro Try.func15 rfl (Nat.le_of_ble_eq_true rfl) ?_
  refine ok_reg ?_
  first
    | refine s1w rfl (lop_box (t := 2) (v := .agg [.int _ _, .int _ _, .int _ _, .int _ _, .int _ _, _, _, .int _ _, .int _ _]) (f := true) (cs := [.int _ _, .int _ _, .int _ _, .int _ _, .int _ _, _, _, .int _ _, .int _ _]) rfl rfl rfl rfl (fun h => by cases h)) rfl ?_
    | refine s1w rfl (lop_box (t := 2) (v := .agg [.int _ _, .int _ _, .int _ _, .int _ _, .int _ _, _, _, .int _ _, .int _ _]) (f := false) (cs := [.int _ _, .int _ _, .int _ _, .int _ _, .int _ _, _, _, .int _ _, .int _ _]) rfl rfl rfl rfl (fun _ => rfl)) rfl ?_
  refine s1 rfl (lop_assign (v := .str _) rfl) ?_
  refine s1 rfl (lop_assign (v := .int _ _) rfl) ?_
  refine ops_nil ?_
  refine ok_reg ?_
  first
    | refine s1 rfl (lop_assign (v := .sl _ _) rfl) ?_
    | refine s1 rfl (lop_assign (v := .os _ _ _ _) rfl) ?_
    | refine s1 rfl (lop_assign (v := .z0) rfl) ?_
  refine ops_nil ?_
  refine ok_seq ?_
  refine ok_reg ?_
  first
    | refine s1 rfl (lop_fieldAddr_rf (fo := 5) rfl Try.underlying39 rfl rfl Try.sizeOf37 (by decide)) ?_
    | refine s1 rfl (lop_fieldAddr_fp (fo := 5) rfl Try.underlying39 rfl rfl Try.sizeOf37 (by decide) rfl) ?_
  first
    | refine s1 rfl (lop_load_rf rfl rfl Try.isAgg37 rfl) ?_
    | refine s1 rfl (lop_load_fp rfl Try.isAgg37 rfl) ?_
  refine s1 rfl (lop_len rfl Try.underlying37 ⟨⟨_, rfl⟩, rfl⟩) ?_
  refine s1 rfl (lop_move (v := .int _ _) rfl) ?_
  refine ops_nil ?_
  refine ok_block ?_
  refine ok_loop (ι := {i : Nat // i ≤ v.parts.length ∧ ∀ j, (h : j < v.parts.length) → j < i → ps.any (selP v.parts[j]) = true}) (fun i => ⟨[(1, rowOf PartD.enc ps), (6, .os 100 0 2 i.1), (11, rowOf SpanD.enc v.parts), (12, i64 v.parts.length), (13, i64 i.1)], [(100, some (true, ((v.parts.take i.1).map (chF ps)).flatMap PartD.enc))], 34⟩) (fun i => v.parts.length - i.1) (⟨0, Nat.zero_le _, fun _ _ h => absurd h (Nat.not_lt_zero _)⟩) ?_ ?_
  · exact le_ren [(100, none)] ⟨rfl, rfl, rfl, rfl, rfl, trivial⟩ rfl ⟨⟨rfl, rfl⟩, trivial⟩ rfl rfl rfl
  rintro ⟨i, hi, hn⟩
  dsimp only
  have hlen2 : (v.parts.take i).length = i := by rw [List.length_take]; omega
  refine ok_reg ?_
  refine s1 rfl (lop_lss rfl rfl) ?_
  refine ops_nil ?_
  refine ok_seq ?_
  first
    | refine ok_if _ rfl rfl (fun h_t14 => ?_) (fun h_t14 => ?_)
    | refine ok_cond rfl rfl (fun h_t14 => ?_) (fun h_t14 => ?_)
  · have hri : i < v.parts.length := by omega
    refine ok_skip ?_
    refine ok_seq ?_
    refine ok_block ?_
    refine ok_reg ?_
    first
      | refine s1 rfl (lop_indexAddr_os rfl rfl Try.underlying37 Try.sizeOf60 rfl hri) ?_
      | refine s1 rfl (lop_indexAddr_sl rfl rfl Try.underlying37 Try.sizeOf60 rfl hri (flat_at SpanD.len hri) (flat_ne SpanD.len (by decide) hri)) ?_
    first
      | refine s1 rfl (lop_load_rf_agg rfl rfl Try.isAgg60 Try.sizeOf60 (by rw [List.length_append, SpanD.len]; omega) (by rw [List.take_append_of_le_length (by rw [SpanD.len]; omega), List.take_of_length_le (by rw [SpanD.len]; omega)])) ?_
      | refine s1 rfl (lop_load_fp_agg rfl Try.isAgg60 Try.sizeOf60 (by rw [List.length_append, SpanD.len]; omega) (by rw [List.take_append_of_le_length (by rw [SpanD.len]; omega), List.take_of_length_le (by rw [SpanD.len]; omega)])) ?_
    refine s1w rfl (lop_new (t := 8) (cs := [.int _ _, .int _ _]) Try.zeroValue60 rfl rfl rfl rfl) rfl ?_
    first
      | refine s0w rfl (lop_storeK (v := .agg [.int _ _, .int _ _]) (cs' := [.int _ _, .int _ _]) (f' := true) rfl rfl rfl Try.sizeOf60 rfl rfl rfl rfl rfl) ?_
      | refine s0w rfl (lop_storeK (v := .agg [.int _ _, .int _ _]) (cs' := [.int _ _, .int _ _]) (f' := false) rfl rfl rfl Try.sizeOf60 rfl rfl rfl rfl rfl) ?_
    refine ops_nil ?_
    refine ok_reg ?_
    first
      | refine s1 rfl (lop_move (v := .sl _ _) rfl) ?_
      | refine s1 rfl (lop_move (v := .os _ _ _ _) rfl) ?_
      | refine s1 rfl (lop_move (v := .z0) rfl) ?_
    first
      | refine s1 rfl (lop_func (vs := [.rf _ _]) rfl) ?_
      | refine s1 rfl (lop_func (vs := [.fp _]) rfl) ?_
    refine s1 rfl (lop_call (R := [8]) rfl Try.call42 (fzL_sound _ _ _ rfl) (.inr rfl) (indexFunc_Part_ac (p := selP v.parts[i]) hp Try.call43 rfl (fun x _ => fill1_ac x v.parts[i]))) ?_
    refine s1 rfl (lop_assign (v := .int _ _) rfl) ?_
    refine ops_nil ?_
    refine ok_seq ?_
    refine ok_reg ?_
    refine s1 rfl (lop_move (v := .int _ _) rfl) ?_
    refine s1 rfl (lop_lss rfl rfl) ?_
    refine ops_nil ?_
    first
      | refine ok_if _ rfl rfl (fun h_t21 => ?_) (fun h_t21 => ?_)
      | refine ok_cond rfl rfl (fun h_t21 => ?_) (fun h_t21 => ?_)
    · have ha := idx_none h_t21
      refine ok_reg ?_
      refine s1 rfl (lop_assign (v := .str _) rfl) ?_
      refine s1 rfl (lop_assign (v := .int _ _) rfl) ?_
      refine ops_nil ?_
      refine ok_ret ?_
      rw [fillF_no hri ha]
      exact ret_two rfl rfl rfl rfl rfl rfl rfl
    · obtain ⟨j, hj, hx, hc, ha⟩ := idx_ch h_t21
      refine ok_skip ?_
      refine ok_region ?_
      first
        | refine s1 rfl (lop_move (v := .sl _ _) rfl) ?_
        | refine s1 rfl (lop_move (v := .os _ _ _ _) rfl) ?_
        | refine s1 rfl (lop_move (v := .z0) rfl) ?_
      first
        | refine s1 rfl (lop_move (v := .sl _ _) rfl) ?_
        | refine s1 rfl (lop_move (v := .os _ _ _ _) rfl) ?_
        | refine s1 rfl (lop_move (v := .z0) rfl) ?_
      refine s1 rfl (lop_move (v := .int _ _) rfl) ?_
      first
        | refine s1 rfl (lop_indexAddr_os rfl rfl Try.underlying56 Try.sizeOf62 hx hj) ?_
        | refine s1 rfl (lop_indexAddr_sl rfl rfl Try.underlying56 Try.sizeOf62 hx hj (flat_at PartD.len hj) (flat_ne PartD.len (by decide) hj)) ?_
      first
        | refine s1 rfl (lop_load_rf_agg rfl rfl Try.isAgg62 Try.sizeOf62 (by rw [List.length_append, PartD.len]; omega) (by rw [List.take_append_of_le_length (by rw [PartD.len]; omega), List.take_of_length_le (by rw [PartD.len]; omega)])) ?_
        | refine s1 rfl (lop_load_fp_agg rfl Try.isAgg62 Try.sizeOf62 (by rw [List.length_append, PartD.len]; omega) (by rw [List.take_append_of_le_length (by rw [PartD.len]; omega), List.take_of_length_le (by rw [PartD.len]; omega)])) ?_
      first
        | refine s1w rfl (lop_buildSlice (t := 27) (cs := [.int _ _, .str _]) (f := true) Try.underlying56 Try.sizeOf62 (by decide) Try.zeroValue62 rfl rfl rfl (by decide) rfl (.inr (by decide)) rfl (fun h => by cases h)) rfl ?_
        | refine s1w rfl (lop_buildSlice (t := 27) (cs := [.int _ _, .str _]) (f := false) Try.underlying56 Try.sizeOf62 (by decide) Try.zeroValue62 rfl rfl rfl (by decide) rfl (.inr (by decide)) rfl (fun _ => rfl)) rfl ?_
      first
        | refine s2w rfl (lop_append_os (t' := 28) rfl rfl rfl (by rw [flat_length PartD.len, List.length_map, hlen2]) (.os Try.underlying56 (List.mem_singleton.2 rfl) rfl (Nat.le_of_ble_eq_true rfl) rfl) Try.underlying56 info62 rfl (by omega) (by omega)) rfl ?_
        | refine s1w rfl (lop_append_z0 (t' := 28) rfl rfl (.os Try.underlying56 (List.mem_singleton.2 rfl) rfl (Nat.le_of_ble_eq_true rfl) rfl) Try.underlying56 info62 rfl (by omega) (by omega)) rfl ?_
        | refine s2w rfl (lop_append_os (t' := 28) (R := []) rfl rfl rfl (by rw [flat_length PartD.len, List.length_map, hlen2]) (.sl Try.underlying56 rfl) Try.underlying56 info62 rfl (by omega) (by omega)) rfl ?_
        | refine s1w rfl (lop_append_z0 (t' := 28) (R := []) rfl rfl (.sl Try.underlying56 rfl) Try.underlying56 info62 rfl (by omega) (by omega)) rfl ?_
        | refine s2w rfl (lop_append_os (t' := 28) (R := []) rfl rfl rfl (by rw [flat_length PartD.len, List.length_map, hlen2]) (.z0 Try.underlying56) Try.underlying56 info62 rfl (by omega) (by omega)) rfl ?_
        | refine s1w rfl (lop_append_z0 (t' := 28) (R := []) rfl rfl (.z0 Try.underlying56) Try.underlying56 info62 rfl (by omega) (by omega)) rfl ?_
      first
        | refine s1 rfl (lop_assign (v := .sl _ _) rfl) ?_
        | refine s1 rfl (lop_assign (v := .os _ _ _ _) rfl) ?_
        | refine s1 rfl (lop_assign (v := .z0) rfl) ?_
      refine ops_nil ?_
      refine ok_region ?_
      refine s1 rfl (lop_bop rfl rfl rfl (bop_add (by omega) (by omega))) ?_
      refine s1 rfl (lop_move (v := .int _ _) rfl) ?_
      refine ops_nil ?_
      have e1 : v.parts.take (i + 1) = v.parts.take i ++ [v.parts[i]] := by rw [List.take_add_one, List.getElem?_eq_getElem hri]; rfl
      exact ⟨⟨i + 1, by omega, any_step hn hri ha⟩, by simp only; omega, le_ren [(100, some 28)] ⟨rfl, rfl, rfl, rfl, rfl, trivial⟩ rfl ⟨⟨_, rfl, by show _ = List.flatMap _ _; rw [e1, List.map_append, List.flatMap_append, List.map_singleton, List.flatMap_singleton, ← hc]; rfl⟩, trivial⟩ rfl rfl rfl⟩
  · refine ok_exit ?_
    refine ok_reg ?_
    have e9 : i = v.parts.length := by omega
    subst e9
    refine ops_le (T := ⟨[(6, rowOf PartD.enc (v.parts.map (chF ps)))], [], 34⟩) (le_frz [100] ⟨.inr (by unfold rowOf; rw [List.length_map]; exact .osf (List.mem_singleton.2 rfl) rfl (by rw [List.take_length, flat_length PartD.len, List.length_map]; omega) (by rw [List.take_length, List.drop_zero, List.take_of_length_le (by rw [flat_length PartD.len, List.length_map]; omega)])), trivial⟩ trivial (fun t ht => by simp at ht; subst ht; exact Option.some_ne_none _) rfl) ?_
    first
      | refine s1 rfl (lop_move (v := .sl _ _) rfl) ?_
      | refine s1 rfl (lop_move (v := .os _ _ _ _) rfl) ?_
      | refine s1 rfl (lop_move (v := .z0) rfl) ?_
    refine s1 rfl (lop_call rfl Try.call44 (FrzL.tf rfl) (.inl rfl) (block_Lay_ac (n := 160) (by decide) (by rw [List.length_map]; omega))) ?_
    refine s1 rfl (lop_extract rfl rfl) ?_
    refine s1 rfl (lop_extract rfl rfl) ?_
    refine s1 rfl (lop_assign (v := .str _) rfl) ?_
    refine s1 rfl (lop_assign (v := .int _ _) rfl) ?_
    refine ops_nil ?_
    refine ok_ret ?_
    rw [fillF_yes hn]
    exact ret_two rfl rfl rfl rfl rfl rfl rfl

end Go.Proofs
