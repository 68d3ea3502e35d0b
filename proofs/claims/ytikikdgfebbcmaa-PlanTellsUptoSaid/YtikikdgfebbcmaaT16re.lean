/- Chapter 16: walks. Printed by gen.py. -/
import Derived.Test.YtikikdgfebbcmaaT16rd
import Derived.Test.YtikikdgfebbcmaaT16x
set_option linter.unusedVariables false
set_option linter.unusedSimpArgs false
set_option maxRecDepth 100000
namespace Go.Proofs
open Go.Hg

/-- What a mate is, and where both sums go; is there room? -/
def refPair (l : List InvD) (nodes : Int) (vols : List VolD) (i : Nat) : ActD × Bool :=
  if idxOf (mateP (vols.getD i .zero)) (vols.drop (i + 1)) < 0 then (.zero, false) else
    (⟨3, (vols.getD i .zero).id, 0, (vols.getD (i + 1 + (idxOf (mateP (vols.getD i .zero)) (vols.drop (i + 1))).toNat) .zero).id, (spreadF (vols.getD i .zero).id (thirdF (vols.getD i .zero).home (vols.getD (i + 1 + (idxOf (mateP (vols.getD i .zero)) (vols.drop (i + 1))).toNat) .zero).home).1 14 nodes (liveL l (thirdF (vols.getD i .zero).home (vols.getD (i + 1 + (idxOf (mateP (vols.getD i .zero)) (vols.drop (i + 1))).toNat) .zero).home).1 nodes)).1, ⟨0, 0⟩⟩,
      decide ((spreadF (vols.getD i .zero).id (thirdF (vols.getD i .zero).home (vols.getD (i + 1 + (idxOf (mateP (vols.getD i .zero)) (vols.drop (i + 1))).toNat) .zero).home).1 14 nodes (liveL l (thirdF (vols.getD i .zero).home (vols.getD (i + 1 + (idxOf (mateP (vols.getD i .zero)) (vols.drop (i + 1))).toNat) .zero).home).1 nodes)).2 = 0))
theorem pairG_ref (l : List InvD) (nodes : Int) (vols : List VolD) (i : Nat) : pairG l nodes vols i = if (vols.getD i .zero).phase = 3 then (if (refPair l nodes vols i).2 = true then some (refPair l nodes vols i).1 else none) else none := by
  unfold pairG refPair
  by_cases h1 : (vols.getD i .zero).phase = 3
  · rw [if_pos h1, if_pos h1]
    by_cases h2 : idxOf (mateP (vols.getD i .zero)) (vols.drop (i + 1)) < 0
    · rw [if_pos h2, if_pos h2]; rfl
    · rw [if_neg h2, if_neg h2]
      simp only [decide_eq_true_eq]
  · rw [if_neg h1, if_neg h1]
theorem refPair_at {l : List InvD} {nodes : Int} {vols : List VolD} {i k : Nat} (hi : i < vols.length) (h1 : i + 1 ≤ k) (hk : k < vols.length) (hp : mateP vols[i] vols[k] = true) (hn : ∀ j, (h : j < vols.length) → i + 1 ≤ j → j < k → mateP vols[i] vols[j] = false) :
    refPair l nodes vols i = (⟨3, vols[i].id, 0, vols[k].id, (spreadF vols[i].id (thirdF vols[i].home vols[k].home).1 14 nodes (liveL l (thirdF vols[i].home vols[k].home).1 nodes)).1, ⟨0, 0⟩⟩, decide ((spreadF vols[i].id (thirdF vols[i].home vols[k].home).1 14 nodes (liveL l (thirdF vols[i].home vols[k].home).1 nodes)).2 = 0)) := by
  have e : ((k - (i + 1) : Nat) : Int) = idxOf (mateP vols[i]) (vols.drop (i + 1)) := by
    refine idxOf_at (by rw [List.length_drop]; omega) ?_ ?_
    · rw [List.getElem_drop]
      simpa only [show i + 1 + (k - (i + 1)) = k by omega] using hp
    · intro j hj hlt
      rw [List.getElem_drop]
      rw [List.length_drop] at hj
      exact hn _ (by omega) (by omega) (by omega)
  unfold refPair
  rw [getD_at _ hi, ← e, if_neg (by omega), Int.toNat_natCast, show i + 1 + (k - (i + 1)) = k by omega, getD_at _ hk]
theorem refPair_no {l : List InvD} {nodes : Int} {vols : List VolD} {i : Nat} (hi : i < vols.length) (hn : ∀ j, (h : j < vols.length) → i + 1 ≤ j → mateP vols[i] vols[j] = false) : refPair l nodes vols i = (.zero, false) := by
  unfold refPair
  rw [getD_at _ hi, if_pos]
  refine idxOf_lt fun j hj => ?_
  rw [List.getElem_drop]
  rw [List.length_drop] at hj
  exact hn _ (by omega) (by omega)
theorem mate_step {vols : List VolD} {v : VolD} {a i : Nat} (hn : ∀ j, (h : j < vols.length) → a ≤ j → j < i → mateP v vols[j] = false) (hi : i < vols.length) (h : mateP v vols[i] = false) : ∀ j, (h : j < vols.length) → a ≤ j → j < i + 1 → mateP v vols[j] = false := by
  intro j hj ha hlt
  rcases Nat.lt_or_ge j i with h1 | h1
  · exact hn j hj ha h1
  · have : j = i := by omega
    subst this; exact h

theorem ref16_pair_ac (x : IdxD) (hx : VolsOk x.vols) {l : List InvD} (hl : InvsOk l) (nodes : Int) {i : Nat} (hi : i < x.vols.length) : AC Try.prog 36 [.agg x.enc, rowOf InvD.enc l, i64 nodes, i64 i] (.tup [.agg (refPair l nodes x.vols i).1.enc, .bool (refPair l nodes x.vols i).2]) := by
  have hvl := hx.1
  have hv := hx.2 x.vols[i] (List.getElem_mem hi)
  refine AC.intro Try.func36 rfl (Nat.le_of_ble_eq_true rfl) ?_
  refine ok_reg ?_
  first
    | refine s1w rfl (lop_box (t := 4) (v := .agg [_, _, _]) (f := true) (cs := [_, _, _]) rfl rfl rfl rfl (fun h => by cases h)) rfl ?_
    | refine s1w rfl (lop_box (t := 4) (v := .agg [_, _, _]) (f := false) (cs := [_, _, _]) rfl rfl rfl rfl (fun _ => rfl)) rfl ?_
  refine s1w rfl (lop_new (t := 8) (cs := [.int _ _, .int _ _, .int _ _, .int _ _, .z0, .int _ _, .int _ _]) Try.zeroValue34 rfl rfl rfl rfl) rfl ?_
  refine s1 rfl (lop_assign (v := .bool _) rfl) ?_
  refine ops_nil ?_
  refine ok_reg ?_
  first
    | refine s1 rfl (lop_fieldAddr_rf (fo := 0) rfl Try.underlying26 rfl rfl Try.sizeOf22 (by decide)) ?_
    | refine s1 rfl (lop_fieldAddr_fp (fo := 0) rfl Try.underlying26 rfl rfl Try.sizeOf22 (by decide) rfl) ?_
  first
    | refine s1 rfl (lop_load_rf rfl rfl Try.isAgg22 rfl) ?_
    | refine s1 rfl (lop_load_fp rfl Try.isAgg22 rfl) ?_
  refine s1 rfl (lop_move (v := .int _ _) rfl) ?_
  first
    | refine s1 rfl (lop_indexAddr_os rfl rfl Try.underlying22 Try.sizeOf39 rfl hi) ?_
    | refine s1 rfl (lop_indexAddr_sl rfl rfl Try.underlying22 Try.sizeOf39 rfl hi (flat_at VolD.len hi) (flat_ne VolD.len (by decide) hi)) ?_
  first
    | refine s1 rfl (lop_load_rf_agg rfl rfl Try.isAgg39 Try.sizeOf39 (by rw [List.length_append, VolD.len]; omega) (by rw [List.take_append_of_le_length (by rw [VolD.len]; omega), List.take_of_length_le (by rw [VolD.len]; omega)])) ?_
    | refine s1 rfl (lop_load_fp_agg rfl Try.isAgg39 Try.sizeOf39 (by rw [List.length_append, VolD.len]; omega) (by rw [List.take_append_of_le_length (by rw [VolD.len]; omega), List.take_of_length_le (by rw [VolD.len]; omega)])) ?_
  refine s1w rfl (lop_new (t := 10) (cs := [.int _ _, .int _ _, .int _ _, .int _ _, .int _ _, .z0, .z0, .int _ _, .int _ _]) Try.zeroValue39 rfl rfl rfl rfl) rfl ?_
  first
    | refine s0w rfl (lop_storeK (v := .agg [.int _ _, .int _ _, .int _ _, .int _ _, .int _ _, _, _, .int _ _, .int _ _]) (cs' := [.int _ _, .int _ _, .int _ _, .int _ _, .int _ _, _, _, .int _ _, .int _ _]) (f' := true) rfl rfl rfl Try.sizeOf39 rfl rfl rfl rfl rfl) ?_
    | refine s0w rfl (lop_storeK (v := .agg [.int _ _, .int _ _, .int _ _, .int _ _, .int _ _, _, _, .int _ _, .int _ _]) (cs' := [.int _ _, .int _ _, .int _ _, .int _ _, .int _ _, _, _, .int _ _, .int _ _]) (f' := false) rfl rfl rfl Try.sizeOf39 rfl rfl rfl rfl rfl) ?_
  refine ops_nil ?_
  refine ok_seq ?_
  refine ok_reg ?_
  refine s1 rfl (lop_move (v := .int _ _) rfl) ?_
  refine s1 rfl (lop_bop rfl rfl rfl (bop_add (by omega) (by omega))) ?_
  refine s1 rfl (lop_assign (v := .int _ _) rfl) ?_
  refine ops_nil ?_
  refine ok_block ?_
  refine ok_loop (ι := {k : Nat // i + 1 ≤ k ∧ k ≤ x.vols.length ∧ ∀ j, (h : j < x.vols.length) → i + 1 ≤ j → j < k → mateP x.vols[i] x.vols[j] = false}) (fun k => ⟨[(1, rowOf InvD.enc l), (2, i64 nodes), (4, .rf 4 0), (8, .rf 8 0), (10, .rf 10 0), (11, i64 k.1)], [(4, some (true, x.enc)), (8, some (true, actZ)), (10, some (true, x.vols[i].enc))], 75⟩) (fun k => x.vols.length - k.1) (⟨i + 1, Nat.le_refl _, hi, fun j _ h1 h2 => by omega⟩) ?_ ?_
  · exact le_mk ⟨rfl, rfl, rfl, rfl, rfl, rfl, trivial⟩ ⟨.inr rfl, .inr rfl, .inr rfl, trivial⟩ rfl
  rintro ⟨k, hk1, hk, hn⟩
  dsimp only
  refine ok_seq ?_
  refine ok_reg ?_
  refine s1 rfl (lop_move (v := .int _ _) rfl) ?_
  first
    | refine s1 rfl (lop_fieldAddr_rf (fo := 0) rfl Try.underlying26 rfl rfl Try.sizeOf22 (by decide)) ?_
    | refine s1 rfl (lop_fieldAddr_fp (fo := 0) rfl Try.underlying26 rfl rfl Try.sizeOf22 (by decide) rfl) ?_
  first
    | refine s1 rfl (lop_load_rf rfl rfl Try.isAgg22 rfl) ?_
    | refine s1 rfl (lop_load_fp rfl Try.isAgg22 rfl) ?_
  refine s1 rfl (lop_len rfl Try.underlying22 ⟨⟨_, rfl⟩, rfl⟩) ?_
  refine s1 rfl (lop_lss rfl rfl) ?_
  refine ops_nil ?_
  first
    | refine ok_if _ rfl rfl (fun h_t28 => ?_) (fun h_t28 => ?_)
    | refine ok_cond rfl rfl (fun h_t28 => ?_) (fun h_t28 => ?_)
  · have h_t28 : k < x.vols.length := Int.ofNat_lt.1 h_t28
    refine ok_skip ?_
    refine ok_seq ?_
    refine ok_block ?_
    refine ok_reg ?_
    first
      | refine s1 rfl (lop_fieldAddr_rf (fo := 0) rfl Try.underlying26 rfl rfl Try.sizeOf22 (by decide)) ?_
      | refine s1 rfl (lop_fieldAddr_fp (fo := 0) rfl Try.underlying26 rfl rfl Try.sizeOf22 (by decide) rfl) ?_
    first
      | refine s1 rfl (lop_load_rf rfl rfl Try.isAgg22 rfl) ?_
      | refine s1 rfl (lop_load_fp rfl Try.isAgg22 rfl) ?_
    refine s1 rfl (lop_move (v := .int _ _) rfl) ?_
    first
      | refine s1 rfl (lop_indexAddr_os rfl rfl Try.underlying22 Try.sizeOf39 rfl h_t28) ?_
      | refine s1 rfl (lop_indexAddr_sl rfl rfl Try.underlying22 Try.sizeOf39 rfl h_t28 (flat_at VolD.len h_t28) (flat_ne VolD.len (by decide) h_t28)) ?_
    first
      | refine s1 rfl (lop_load_rf_agg rfl rfl Try.isAgg39 Try.sizeOf39 (by rw [List.length_append, VolD.len]; omega) (by rw [List.take_append_of_le_length (by rw [VolD.len]; omega), List.take_of_length_le (by rw [VolD.len]; omega)])) ?_
      | refine s1 rfl (lop_load_fp_agg rfl Try.isAgg39 Try.sizeOf39 (by rw [List.length_append, VolD.len]; omega) (by rw [List.take_append_of_le_length (by rw [VolD.len]; omega), List.take_of_length_le (by rw [VolD.len]; omega)])) ?_
    refine s1w rfl (lop_new (t := 12) (cs := [.int _ _, .int _ _, .int _ _, .int _ _, .int _ _, .z0, .z0, .int _ _, .int _ _]) Try.zeroValue39 rfl rfl rfl rfl) rfl ?_
    first
      | refine s0w rfl (lop_storeK (v := .agg [.int _ _, .int _ _, .int _ _, .int _ _, .int _ _, _, _, .int _ _, .int _ _]) (cs' := [.int _ _, .int _ _, .int _ _, .int _ _, .int _ _, _, _, .int _ _, .int _ _]) (f' := true) rfl rfl rfl Try.sizeOf39 rfl rfl rfl rfl rfl) ?_
      | refine s0w rfl (lop_storeK (v := .agg [.int _ _, .int _ _, .int _ _, .int _ _, .int _ _, _, _, .int _ _, .int _ _]) (cs' := [.int _ _, .int _ _, .int _ _, .int _ _, .int _ _, _, _, .int _ _, .int _ _]) (f' := false) rfl rfl rfl Try.sizeOf39 rfl rfl rfl rfl rfl) ?_
    refine ops_nil ?_
    refine ok_seq ?_
    refine ok_reg ?_
    first
      | refine s1 rfl (lop_fieldAddr_rf (fo := 4) rfl Try.underlying39 rfl rfl Try.sizeOf3 (by decide)) ?_
      | refine s1 rfl (lop_fieldAddr_fp (fo := 4) rfl Try.underlying39 rfl rfl Try.sizeOf3 (by decide) rfl) ?_
    first
      | refine s1 rfl (lop_load_rf rfl rfl Try.isAgg3 rfl) ?_
      | refine s1 rfl (lop_load_fp rfl Try.isAgg3 rfl) ?_
    refine s1 rfl (lop_neq rfl rfl) ?_
    refine s1 rfl (lop_move (v := .bool _) rfl) ?_
    first
      | refine gsplitP 3 rfl rfl (fun g6_3 p6_3 => ?_) (fun g6_3 p6_3 => ?_)
      | refine gsplitB 3 rfl rfl (fun g6_3 p6_3 => ?_) (fun g6_3 p6_3 => ?_)
    · refine n1 rfl rfl g6_3 ?_
      refine n1 rfl rfl g6_3 ?_
      refine n1 rfl rfl g6_3 ?_
      refine n1 rfl rfl g6_3 ?_
      refine n1 rfl rfl g6_3 ?_
      first
        | refine s1 rfl (lop_pick_t (v := .bool _) rfl g6_3 rfl) ?_
        | refine s1 rfl (lop_pick_t (v := .bool _) rfl rfl rfl) ?_
        | refine s1 rfl (lop_pick_f (v := .bool _) rfl rfl rfl) ?_
        | refine s1 rfl (lop_pick rfl rfl rfl) ?_
      refine ops_nil ?_
      refine ok_true rfl rfl ?_
      refine ok_exit ?_
      refine ok_region ?_
      refine s1 rfl (lop_move (v := .int _ _) rfl) ?_
      refine s1 rfl (lop_bop rfl rfl rfl (bop_add (by omega) (by omega))) ?_
      refine s1 rfl (lop_assign (v := .int _ _) rfl) ?_
      refine ops_nil ?_
      exact ⟨⟨k + 1, by omega, by omega, mate_step hn h_t28 (by unfold mateP; simp_all)⟩, by simp only; omega, le_mk ⟨rfl, rfl, rfl, rfl, rfl, rfl, trivial⟩ ⟨.inr rfl, .inr rfl, .inr rfl, trivial⟩ rfl⟩
    · first
        | refine y1 rfl rfl g6_3 rfl (lop_fieldAddr_rf (fo := 1) rfl Try.underlying39 rfl rfl Try.sizeOf3 (by decide)) ?_
        | refine y1 rfl rfl g6_3 rfl (lop_fieldAddr_fp (fo := 1) rfl Try.underlying39 rfl rfl Try.sizeOf3 (by decide) rfl) ?_
      first
        | refine y1 rfl rfl g6_3 rfl (lop_load_rf rfl rfl Try.isAgg3 rfl) ?_
        | refine y1 rfl rfl g6_3 rfl (lop_load_fp rfl Try.isAgg3 rfl) ?_
      first
        | refine y1 rfl rfl g6_3 rfl (lop_fieldAddr_rf (fo := 1) rfl Try.underlying39 rfl rfl Try.sizeOf3 (by decide)) ?_
        | refine y1 rfl rfl g6_3 rfl (lop_fieldAddr_fp (fo := 1) rfl Try.underlying39 rfl rfl Try.sizeOf3 (by decide) rfl) ?_
      first
        | refine y1 rfl rfl g6_3 rfl (lop_load_rf rfl rfl Try.isAgg3 rfl) ?_
        | refine y1 rfl rfl g6_3 rfl (lop_load_fp rfl Try.isAgg3 rfl) ?_
      refine y1 rfl rfl g6_3 rfl (lop_eql rfl rfl) ?_
      first
        | refine s1 rfl (lop_pick_f (v := .bool _) rfl g6_3 rfl) ?_
        | refine s1 rfl (lop_pick_t (v := .bool _) rfl rfl rfl) ?_
        | refine s1 rfl (lop_pick_f (v := .bool _) rfl rfl rfl) ?_
        | refine s1 rfl (lop_pick rfl rfl rfl) ?_
      refine ops_nil ?_
      first
        | refine ok_if _ rfl rfl (fun h_t45 => ?_) (fun h_t45 => ?_)
        | refine ok_cond rfl rfl (fun h_t45 => ?_) (fun h_t45 => ?_)
      · refine ok_exit ?_
        refine ok_region ?_
        refine s1 rfl (lop_move (v := .int _ _) rfl) ?_
        refine s1 rfl (lop_bop rfl rfl rfl (bop_add (by omega) (by omega))) ?_
        refine s1 rfl (lop_assign (v := .int _ _) rfl) ?_
        refine ops_nil ?_
        exact ⟨⟨k + 1, by omega, by omega, mate_step hn h_t28 (by unfold mateP; simp_all)⟩, by simp only; omega, le_mk ⟨rfl, rfl, rfl, rfl, rfl, rfl, trivial⟩ ⟨.inr rfl, .inr rfl, .inr rfl, trivial⟩ rfl⟩
      · have hm : mateP x.vols[i] x.vols[k] = true := by unfold mateP; simp_all
        refine ok_skip ?_
        refine ok_reg ?_
        first
          | refine s1 rfl (lop_fieldAddr_rf (fo := 1) rfl Try.underlying39 rfl rfl Try.sizeOf3 (by decide)) ?_
          | refine s1 rfl (lop_fieldAddr_fp (fo := 1) rfl Try.underlying39 rfl rfl Try.sizeOf3 (by decide) rfl) ?_
        first
          | refine s1 rfl (lop_load_rf rfl rfl Try.isAgg3 rfl) ?_
          | refine s1 rfl (lop_load_fp rfl Try.isAgg3 rfl) ?_
        first
          | refine s1 rfl (lop_fieldAddr_rf (fo := 1) rfl Try.underlying39 rfl rfl Try.sizeOf3 (by decide)) ?_
          | refine s1 rfl (lop_fieldAddr_fp (fo := 1) rfl Try.underlying39 rfl rfl Try.sizeOf3 (by decide) rfl) ?_
        first
          | refine s1 rfl (lop_load_rf rfl rfl Try.isAgg3 rfl) ?_
          | refine s1 rfl (lop_load_fp rfl Try.isAgg3 rfl) ?_
        refine s1 rfl (lop_call rfl Try.call59 (FrzL.tf rfl) (.inl rfl) (ref11_Third_ac x.vols[i].home x.vols[k].home)) ?_
        refine s1 rfl (lop_move (v := .tup _) rfl) ?_
        refine s1 rfl (lop_extract rfl rfl) ?_
        refine s1 rfl (lop_extract rfl rfl) ?_
        refine s1 rfl (lop_assign (v := .int _ _) rfl) ?_
        refine s1 rfl (lop_assign (v := .int _ _) rfl) ?_
        refine ops_nil ?_
        refine ok_drw Try.mixed ?_
        first
          | refine d1 rfl rfl (lop_fieldAddr_rf (fo := 0) rfl Try.underlying39 rfl rfl Try.sizeOf3 (by decide)) ?_
          | refine d1 rfl rfl (lop_fieldAddr_fp (fo := 0) rfl Try.underlying39 rfl rfl Try.sizeOf3 (by decide) rfl) ?_
        first
          | refine d1 rfl rfl (lop_load_rf rfl rfl Try.isAgg3 rfl) ?_
          | refine d1 rfl rfl (lop_load_fp rfl Try.isAgg3 rfl) ?_
        refine d1 rfl rfl (lop_move (v := .int _ _) rfl) ?_
        refine d1 rfl rfl (lop_move (v := .int _ _) rfl) ?_
        first
          | refine d1 rfl rfl (lop_move (v := .sl _ _) rfl) ?_
          | refine d1 rfl rfl (lop_move (v := .os _ _ _ _) rfl) ?_
          | refine d1 rfl rfl (lop_move (v := .z0) rfl) ?_
        refine d1 rfl rfl (lop_move (v := .int _ _) rfl) ?_
        refine d1 rfl rfl (lop_move (v := .int _ _) rfl) ?_
        refine d1 rfl rfl (lop_call rfl Try.call21 (FrzL.tf rfl) (.inl rfl) (ref16_Live_ac hl (thirdF x.vols[i].home x.vols[k].home).1 nodes)) ?_
        refine d1 rfl rfl (lop_call rfl Try.call35 (FrzL.tf rfl) (.inl rfl) (ref11_Spread_ac x.vols[i].id (thirdF x.vols[i].home x.vols[k].home).1 14 nodes (liveL_le l _ nodes))) ?_
        refine d1 rfl rfl (lop_move (v := .tup _) rfl) ?_
        refine d1 rfl rfl (lop_extract rfl rfl) ?_
        refine d1 rfl rfl (lop_extract rfl rfl) ?_
        first
          | refine d1 rfl rfl (lop_assign (v := .sl _ _) rfl) ?_
          | refine d1 rfl rfl (lop_assign (v := .os _ _ _ _) rfl) ?_
          | refine d1 rfl rfl (lop_assign (v := .z0) rfl) ?_
        refine d1 rfl rfl (lop_assign (v := .int _ _) rfl) ?_
        refine dr_nil (by kernel_rfl) ?_
        refine ok_reg ?_
        first
          | refine s1 rfl (lop_fieldAddr_rf (fo := 0) rfl Try.underlying39 rfl rfl Try.sizeOf3 (by decide)) ?_
          | refine s1 rfl (lop_fieldAddr_fp (fo := 0) rfl Try.underlying39 rfl rfl Try.sizeOf3 (by decide) rfl) ?_
        first
          | refine s1 rfl (lop_load_rf rfl rfl Try.isAgg3 rfl) ?_
          | refine s1 rfl (lop_load_fp rfl Try.isAgg3 rfl) ?_
        first
          | refine s1 rfl (lop_fieldAddr_rf (fo := 0) rfl Try.underlying39 rfl rfl Try.sizeOf3 (by decide)) ?_
          | refine s1 rfl (lop_fieldAddr_fp (fo := 0) rfl Try.underlying39 rfl rfl Try.sizeOf3 (by decide) rfl) ?_
        first
          | refine s1 rfl (lop_load_rf rfl rfl Try.isAgg3 rfl) ?_
          | refine s1 rfl (lop_load_fp rfl Try.isAgg3 rfl) ?_
        first
          | refine s1 rfl (lop_move (v := .sl _ _) rfl) ?_
          | refine s1 rfl (lop_move (v := .os _ _ _ _) rfl) ?_
          | refine s1 rfl (lop_move (v := .z0) rfl) ?_
        first
          | refine s1 rfl (lop_buildK (cs := [.int _ _, .int _ _, .int _ _, .int _ _, .sl _ _, .int _ _, .int _ _]) Try.underlying34 Try.zeroValue34 rfl rfl places34 rfl) ?_
          | refine s1 rfl (lop_buildK (cs := [.int _ _, .int _ _, .int _ _, .int _ _, .os _ _ _ _, .int _ _, .int _ _]) Try.underlying34 Try.zeroValue34 rfl rfl places34 rfl) ?_
          | refine s1 rfl (lop_buildK (cs := [.int _ _, .int _ _, .int _ _, .int _ _, .z0, .int _ _, .int _ _]) Try.underlying34 Try.zeroValue34 rfl rfl places34 rfl) ?_
        refine s1 rfl (lop_move (v := .int _ _) rfl) ?_
        refine s1 rfl (lop_eql rfl rfl) ?_
        first
          | refine s0w rfl (lop_storeK (v := .agg [.int _ _, .int _ _, .int _ _, .int _ _, _, .int _ _, .int _ _]) (cs' := [.int _ _, .int _ _, .int _ _, .int _ _, _, .int _ _, .int _ _]) (f' := true) rfl rfl rfl Try.sizeOf34 rfl rfl rfl rfl rfl) ?_
          | refine s0w rfl (lop_storeK (v := .agg [.int _ _, .int _ _, .int _ _, .int _ _, _, .int _ _, .int _ _]) (cs' := [.int _ _, .int _ _, .int _ _, .int _ _, _, .int _ _, .int _ _]) (f' := false) rfl rfl rfl Try.sizeOf34 rfl rfl rfl rfl rfl) ?_
        refine s1 rfl (lop_assign (v := .bool _) rfl) ?_
        refine ops_nil ?_
        refine ok_ret ?_
        rw [refPair_at hi hk1 h_t28 hm hn]
        exact ret_gen (R := [8]) ⟨_, _, rfl, ⟨rfl, 8, 0, _, _, rfl, rfl, .inl ⟨7, Try.isAgg34, Try.sizeOf34, Nat.le_of_ble_eq_true rfl, rfl⟩⟩, _, _, rfl, ⟨rfl, rfl⟩, rfl⟩ (.tup (.cons (.agg (fzL_sound _ [8] _ rfl)) (.cons (.tf rfl) .nil))) (fun t ht => by simp at ht; subst ht; exact Option.some_ne_none _)
  · refine ok_exit ?_
    refine ok_reg ?_
    refine s1 rfl (lop_buildK (cs := [.int _ _, .int _ _, .int _ _, .int _ _, .z0, .int _ _, .int _ _]) Try.underlying34 Try.zeroValue34 rfl rfl places34 rfl) ?_
    first
      | refine s0w rfl (lop_storeK (v := .agg [.int _ _, .int _ _, .int _ _, .int _ _, _, .int _ _, .int _ _]) (cs' := [.int _ _, .int _ _, .int _ _, .int _ _, _, .int _ _, .int _ _]) (f' := true) rfl rfl rfl Try.sizeOf34 rfl rfl rfl rfl rfl) ?_
      | refine s0w rfl (lop_storeK (v := .agg [.int _ _, .int _ _, .int _ _, .int _ _, _, .int _ _, .int _ _]) (cs' := [.int _ _, .int _ _, .int _ _, .int _ _, _, .int _ _, .int _ _]) (f' := false) rfl rfl rfl Try.sizeOf34 rfl rfl rfl rfl rfl) ?_
    refine s1 rfl (lop_assign (v := .bool _) rfl) ?_
    refine ops_nil ?_
    refine ok_ret ?_
    rw [refPair_no hi (fun j hj h1 => hn j hj h1 (by omega))]
    exact ret_gen (R := [8]) ⟨_, _, rfl, ⟨rfl, 8, 0, _, _, rfl, rfl, .inl ⟨7, Try.isAgg34, Try.sizeOf34, Nat.le_of_ble_eq_true rfl, rfl⟩⟩, _, _, rfl, ⟨rfl, rfl⟩, rfl⟩ (.tup (.cons (.agg (fzL_sound _ [8] _ rfl)) (.cons (.tf rfl) .nil))) (fun t ht => by simp at ht; subst ht; exact Option.some_ne_none _)

theorem ne41 (a b c d : Int) (w : World) : (binOp .neq 41 (.agg #[.int .i64 a, .int .i64 b]) (.agg #[.int .i64 c, .int .i64 d])).run Try.prog w = .ok (.bool (decide (¬ (a = c ∧ b = d)))) w :=
  run_ne2 Try.underlying41 held41 (by decide) (by decide) rfl rfl Try.underlying3 Try.underlying3 Try.isAgg3 Try.isAgg3 a b c d w |>.trans (by rw [decide_not])

theorem ref11_Places_ac {l : List PlD} (hl : l.length ≤ 1048576) : AC Try.prog 17 [rowOf PlD.enc l, rowOf PlD.enc l] (.bool true) := by
  refine AC.intro Try.func17 rfl (Nat.le_of_ble_eq_true rfl) ?_
  refine ok_reg ?_
  refine s1 rfl (lop_assign (v := .bool _) rfl) ?_
  refine ops_nil ?_
  refine ok_seq ?_
  refine ok_reg ?_
  first
    | refine s1 rfl (lop_move (v := .sl _ _) rfl) ?_
    | refine s1 rfl (lop_move (v := .os _ _ _ _) rfl) ?_
    | refine s1 rfl (lop_move (v := .z0) rfl) ?_
  refine s1 rfl (lop_len rfl Try.underlying30 ⟨⟨_, rfl⟩, rfl⟩) ?_
  first
    | refine s1 rfl (lop_move (v := .sl _ _) rfl) ?_
    | refine s1 rfl (lop_move (v := .os _ _ _ _) rfl) ?_
    | refine s1 rfl (lop_move (v := .z0) rfl) ?_
  refine s1 rfl (lop_len rfl Try.underlying30 ⟨⟨_, rfl⟩, rfl⟩) ?_
  refine s1 rfl (lop_neq rfl rfl) ?_
  refine ops_nil ?_
  first
    | refine ok_if _ rfl rfl (fun h_t10 => ?_) (fun h_t10 => ?_)
    | refine ok_cond rfl rfl (fun h_t10 => ?_) (fun h_t10 => ?_)
  · exact absurd rfl h_t10
  · refine ok_skip ?_
    refine ok_seq ?_
    refine ok_reg ?_
    refine s1 rfl (lop_assign (v := .int _ _) rfl) ?_
    refine ops_nil ?_
    refine ok_block ?_
    refine ok_loop (ι := {i : Nat // i ≤ l.length}) (fun i => ⟨[(0, rowOf PlD.enc l), (1, rowOf PlD.enc l), (5, i64 i.1)], [], 26⟩) (fun i => l.length - i.1) (⟨0, Nat.zero_le _⟩) ?_ ?_
    · exact le_mk ⟨rfl, rfl, rfl, trivial⟩ trivial rfl
    rintro ⟨i, hi⟩
    dsimp only
    refine ok_seq ?_
    refine ok_reg ?_
    refine s1 rfl (lop_move (v := .int _ _) rfl) ?_
    first
      | refine s1 rfl (lop_move (v := .sl _ _) rfl) ?_
      | refine s1 rfl (lop_move (v := .os _ _ _ _) rfl) ?_
      | refine s1 rfl (lop_move (v := .z0) rfl) ?_
    refine s1 rfl (lop_len rfl Try.underlying30 ⟨⟨_, rfl⟩, rfl⟩) ?_
    refine s1 rfl (lop_lss rfl rfl) ?_
    refine ops_nil ?_
    first
      | refine ok_if _ rfl rfl (fun h_t14 => ?_) (fun h_t14 => ?_)
      | refine ok_cond rfl rfl (fun h_t14 => ?_) (fun h_t14 => ?_)
    · have h_t14 : i < l.length := Int.ofNat_lt.1 h_t14
      refine ok_skip ?_
      refine ok_seq ?_
      refine ok_block ?_
      refine ok_drw Try.mixed ?_
      first
        | refine d1 rfl rfl (lop_move (v := .sl _ _) rfl) ?_
        | refine d1 rfl rfl (lop_move (v := .os _ _ _ _) rfl) ?_
        | refine d1 rfl rfl (lop_move (v := .z0) rfl) ?_
      refine d1 rfl rfl (lop_move (v := .int _ _) rfl) ?_
      first
        | refine d1 rfl rfl (lop_indexAddr_os rfl rfl Try.underlying30 Try.sizeOf41 rfl h_t14) ?_
        | refine d1 rfl rfl (lop_indexAddr_sl rfl rfl Try.underlying30 Try.sizeOf41 rfl h_t14 (flat_at PlD.len h_t14) (flat_ne PlD.len (by decide) h_t14)) ?_
      first
        | refine d1 rfl rfl (lop_load_rf_agg rfl rfl Try.isAgg41 Try.sizeOf41 (by rw [List.length_append, PlD.len]; omega) (by rw [List.take_append_of_le_length (by rw [PlD.len]; omega), List.take_of_length_le (by rw [PlD.len]; omega)])) ?_
        | refine d1 rfl rfl (lop_load_fp_agg rfl Try.isAgg41 Try.sizeOf41 (by rw [List.length_append, PlD.len]; omega) (by rw [List.take_append_of_le_length (by rw [PlD.len]; omega), List.take_of_length_le (by rw [PlD.len]; omega)])) ?_
      first
        | refine d1 rfl rfl (lop_move (v := .sl _ _) rfl) ?_
        | refine d1 rfl rfl (lop_move (v := .os _ _ _ _) rfl) ?_
        | refine d1 rfl rfl (lop_move (v := .z0) rfl) ?_
      refine d1 rfl rfl (lop_move (v := .int _ _) rfl) ?_
      first
        | refine d1 rfl rfl (lop_indexAddr_os rfl rfl Try.underlying30 Try.sizeOf41 rfl h_t14) ?_
        | refine d1 rfl rfl (lop_indexAddr_sl rfl rfl Try.underlying30 Try.sizeOf41 rfl h_t14 (flat_at PlD.len h_t14) (flat_ne PlD.len (by decide) h_t14)) ?_
      first
        | refine d1 rfl rfl (lop_load_rf_agg rfl rfl Try.isAgg41 Try.sizeOf41 (by rw [List.length_append, PlD.len]; omega) (by rw [List.take_append_of_le_length (by rw [PlD.len]; omega), List.take_of_length_le (by rw [PlD.len]; omega)])) ?_
        | refine d1 rfl rfl (lop_load_fp_agg rfl Try.isAgg41 Try.sizeOf41 (by rw [List.length_append, PlD.len]; omega) (by rw [List.take_append_of_le_length (by rw [PlD.len]; omega), List.take_of_length_le (by rw [PlD.len]; omega)])) ?_
      refine d1 rfl rfl (lop_aneq rfl rfl rfl rfl eqg41 (ne41 _ _ _ _)) ?_
      refine dr_nil (by kernel_rfl) ?_
      first
        | refine ok_if _ rfl rfl (fun h_t25 => ?_) (fun h_t25 => ?_)
        | refine ok_cond rfl rfl (fun h_t25 => ?_) (fun h_t25 => ?_)
      · exact absurd ⟨rfl, rfl⟩ h_t25
      · refine ok_skip ?_
        refine ok_region ?_
        refine s1 rfl (lop_move (v := .int _ _) rfl) ?_
        refine s1 rfl (lop_bop rfl rfl rfl (bop_add (by omega) (by omega))) ?_
        refine s1 rfl (lop_assign (v := .int _ _) rfl) ?_
        refine ops_nil ?_
        exact ⟨⟨i + 1, by omega⟩, by simp only; omega, le_mk ⟨rfl, rfl, rfl, trivial⟩ trivial rfl⟩
    · refine ok_exit ?_
      refine ok_reg ?_
      refine s1 rfl (lop_assign (v := .bool _) rfl) ?_
      refine ops_nil ?_
      refine ok_ret ?_
      exact ret_one rfl rfl rfl rfl rfl

theorem ref16_Same_ac (a : ActD) (hl : a.to.length ≤ 1048576) : AC Try.prog 10 [.agg a.enc, .agg a.enc] (.bool true) := by
  refine AC.intro Try.func10 rfl (Nat.le_of_ble_eq_true rfl) ?_
  refine ok_reg ?_
  first
    | refine s1w rfl (lop_box (t := 2) (v := .agg [.int _ _, .int _ _, .int _ _, .int _ _, _, .int _ _, .int _ _]) (f := true) (cs := [.int _ _, .int _ _, .int _ _, .int _ _, _, .int _ _, .int _ _]) rfl rfl rfl rfl (fun h => by cases h)) rfl ?_
    | refine s1w rfl (lop_box (t := 2) (v := .agg [.int _ _, .int _ _, .int _ _, .int _ _, _, .int _ _, .int _ _]) (f := false) (cs := [.int _ _, .int _ _, .int _ _, .int _ _, _, .int _ _, .int _ _]) rfl rfl rfl rfl (fun _ => rfl)) rfl ?_
  first
    | refine s1w rfl (lop_box (t := 3) (v := .agg [.int _ _, .int _ _, .int _ _, .int _ _, _, .int _ _, .int _ _]) (f := true) (cs := [.int _ _, .int _ _, .int _ _, .int _ _, _, .int _ _, .int _ _]) rfl rfl rfl rfl (fun h => by cases h)) rfl ?_
    | refine s1w rfl (lop_box (t := 3) (v := .agg [.int _ _, .int _ _, .int _ _, .int _ _, _, .int _ _, .int _ _]) (f := false) (cs := [.int _ _, .int _ _, .int _ _, .int _ _, _, .int _ _, .int _ _]) rfl rfl rfl rfl (fun _ => rfl)) rfl ?_
  refine s1 rfl (lop_assign (v := .bool _) rfl) ?_
  refine ops_nil ?_
  refine ok_reg ?_
  first
    | refine s1 rfl (lop_fieldAddr_rf (fo := 4) rfl Try.underlying34 rfl rfl Try.sizeOf30 (by decide)) ?_
    | refine s1 rfl (lop_fieldAddr_fp (fo := 4) rfl Try.underlying34 rfl rfl Try.sizeOf30 (by decide) rfl) ?_
  first
    | refine s1 rfl (lop_load_rf rfl rfl Try.isAgg30 rfl) ?_
    | refine s1 rfl (lop_load_fp rfl Try.isAgg30 rfl) ?_
  first
    | refine s1 rfl (lop_fieldAddr_rf (fo := 4) rfl Try.underlying34 rfl rfl Try.sizeOf30 (by decide)) ?_
    | refine s1 rfl (lop_fieldAddr_fp (fo := 4) rfl Try.underlying34 rfl rfl Try.sizeOf30 (by decide) rfl) ?_
  first
    | refine s1 rfl (lop_load_rf rfl rfl Try.isAgg30 rfl) ?_
    | refine s1 rfl (lop_load_fp rfl Try.isAgg30 rfl) ?_
  refine s1 rfl (lop_call rfl Try.call17 (FrzL.tf rfl) (.inl rfl) (ref11_Places_ac hl)) ?_
  refine s1 rfl (lop_assign (v := .bool _) rfl) ?_
  refine ops_nil ?_
  refine ok_reg ?_
  refine s1 rfl (lop_move (v := .bool _) rfl) ?_
  refine s1 rfl (lop_move (v := .bool _) rfl) ?_
  first
    | refine y1 rfl rfl rfl rfl (lop_fieldAddr_rf (fo := 0) rfl Try.underlying34 rfl rfl Try.sizeOf3 (by decide)) ?_
    | refine y1 rfl rfl rfl rfl (lop_fieldAddr_fp (fo := 0) rfl Try.underlying34 rfl rfl Try.sizeOf3 (by decide) rfl) ?_
  first
    | refine y1 rfl rfl rfl rfl (lop_load_rf rfl rfl Try.isAgg3 rfl) ?_
    | refine y1 rfl rfl rfl rfl (lop_load_fp rfl Try.isAgg3 rfl) ?_
  first
    | refine y1 rfl rfl rfl rfl (lop_fieldAddr_rf (fo := 0) rfl Try.underlying34 rfl rfl Try.sizeOf3 (by decide)) ?_
    | refine y1 rfl rfl rfl rfl (lop_fieldAddr_fp (fo := 0) rfl Try.underlying34 rfl rfl Try.sizeOf3 (by decide) rfl) ?_
  first
    | refine y1 rfl rfl rfl rfl (lop_load_rf rfl rfl Try.isAgg3 rfl) ?_
    | refine y1 rfl rfl rfl rfl (lop_load_fp rfl Try.isAgg3 rfl) ?_
  refine y1 rfl rfl rfl rfl (lop_eql rfl rfl) ?_
  first
    | refine s1 rfl (lop_pick_t (v := .bool _) rfl rfl rfl) ?_
    | refine s1 rfl (lop_pick_t (v := .bool _) rfl rfl rfl) ?_
    | refine s1 rfl (lop_pick_f (v := .bool _) rfl rfl rfl) ?_
    | refine s1 rfl (lop_pick rfl rfl rfl) ?_
  refine s1 rfl (lop_move (v := .bool _) rfl) ?_
  first
    | refine y1 rfl rfl (decide_eq_true rfl) rfl (lop_fieldAddr_rf (fo := 1) rfl Try.underlying34 rfl rfl Try.sizeOf3 (by decide)) ?_
    | refine y1 rfl rfl (decide_eq_true rfl) rfl (lop_fieldAddr_fp (fo := 1) rfl Try.underlying34 rfl rfl Try.sizeOf3 (by decide) rfl) ?_
  first
    | refine y1 rfl rfl (decide_eq_true rfl) rfl (lop_load_rf rfl rfl Try.isAgg3 rfl) ?_
    | refine y1 rfl rfl (decide_eq_true rfl) rfl (lop_load_fp rfl Try.isAgg3 rfl) ?_
  first
    | refine y1 rfl rfl (decide_eq_true rfl) rfl (lop_fieldAddr_rf (fo := 1) rfl Try.underlying34 rfl rfl Try.sizeOf3 (by decide)) ?_
    | refine y1 rfl rfl (decide_eq_true rfl) rfl (lop_fieldAddr_fp (fo := 1) rfl Try.underlying34 rfl rfl Try.sizeOf3 (by decide) rfl) ?_
  first
    | refine y1 rfl rfl (decide_eq_true rfl) rfl (lop_load_rf rfl rfl Try.isAgg3 rfl) ?_
    | refine y1 rfl rfl (decide_eq_true rfl) rfl (lop_load_fp rfl Try.isAgg3 rfl) ?_
  refine y1 rfl rfl (decide_eq_true rfl) rfl (lop_eql rfl rfl) ?_
  first
    | refine s1 rfl (lop_pick_t (v := .bool _) rfl rfl rfl) ?_
    | refine s1 rfl (lop_pick_t (v := .bool _) rfl (decide_eq_true rfl) rfl) ?_
    | refine s1 rfl (lop_pick_t (v := .bool _) rfl rfl rfl) ?_
    | refine s1 rfl (lop_pick_f (v := .bool _) rfl rfl rfl) ?_
    | refine s1 rfl (lop_pick rfl rfl rfl) ?_
  refine s1 rfl (lop_move (v := .bool _) rfl) ?_
  first
    | refine y1 rfl rfl (decide_eq_true rfl) rfl (lop_fieldAddr_rf (fo := 2) rfl Try.underlying34 rfl rfl Try.sizeOf3 (by decide)) ?_
    | refine y1 rfl rfl (decide_eq_true rfl) rfl (lop_fieldAddr_fp (fo := 2) rfl Try.underlying34 rfl rfl Try.sizeOf3 (by decide) rfl) ?_
  first
    | refine y1 rfl rfl (decide_eq_true rfl) rfl (lop_load_rf rfl rfl Try.isAgg3 rfl) ?_
    | refine y1 rfl rfl (decide_eq_true rfl) rfl (lop_load_fp rfl Try.isAgg3 rfl) ?_
  first
    | refine y1 rfl rfl (decide_eq_true rfl) rfl (lop_fieldAddr_rf (fo := 2) rfl Try.underlying34 rfl rfl Try.sizeOf3 (by decide)) ?_
    | refine y1 rfl rfl (decide_eq_true rfl) rfl (lop_fieldAddr_fp (fo := 2) rfl Try.underlying34 rfl rfl Try.sizeOf3 (by decide) rfl) ?_
  first
    | refine y1 rfl rfl (decide_eq_true rfl) rfl (lop_load_rf rfl rfl Try.isAgg3 rfl) ?_
    | refine y1 rfl rfl (decide_eq_true rfl) rfl (lop_load_fp rfl Try.isAgg3 rfl) ?_
  refine y1 rfl rfl (decide_eq_true rfl) rfl (lop_eql rfl rfl) ?_
  first
    | refine s1 rfl (lop_pick_t (v := .bool _) rfl rfl rfl) ?_
    | refine s1 rfl (lop_pick_t (v := .bool _) rfl (decide_eq_true rfl) rfl) ?_
    | refine s1 rfl (lop_pick_t (v := .bool _) rfl (decide_eq_true rfl) rfl) ?_
    | refine s1 rfl (lop_pick_t (v := .bool _) rfl rfl rfl) ?_
    | refine s1 rfl (lop_pick_f (v := .bool _) rfl rfl rfl) ?_
    | refine s1 rfl (lop_pick rfl rfl rfl) ?_
  refine s1 rfl (lop_move (v := .bool _) rfl) ?_
  first
    | refine y1 rfl rfl (decide_eq_true rfl) rfl (lop_fieldAddr_rf (fo := 3) rfl Try.underlying34 rfl rfl Try.sizeOf3 (by decide)) ?_
    | refine y1 rfl rfl (decide_eq_true rfl) rfl (lop_fieldAddr_fp (fo := 3) rfl Try.underlying34 rfl rfl Try.sizeOf3 (by decide) rfl) ?_
  first
    | refine y1 rfl rfl (decide_eq_true rfl) rfl (lop_load_rf rfl rfl Try.isAgg3 rfl) ?_
    | refine y1 rfl rfl (decide_eq_true rfl) rfl (lop_load_fp rfl Try.isAgg3 rfl) ?_
  first
    | refine y1 rfl rfl (decide_eq_true rfl) rfl (lop_fieldAddr_rf (fo := 3) rfl Try.underlying34 rfl rfl Try.sizeOf3 (by decide)) ?_
    | refine y1 rfl rfl (decide_eq_true rfl) rfl (lop_fieldAddr_fp (fo := 3) rfl Try.underlying34 rfl rfl Try.sizeOf3 (by decide) rfl) ?_
  first
    | refine y1 rfl rfl (decide_eq_true rfl) rfl (lop_load_rf rfl rfl Try.isAgg3 rfl) ?_
    | refine y1 rfl rfl (decide_eq_true rfl) rfl (lop_load_fp rfl Try.isAgg3 rfl) ?_
  refine y1 rfl rfl (decide_eq_true rfl) rfl (lop_eql rfl rfl) ?_
  first
    | refine s1 rfl (lop_pick_t (v := .bool _) rfl rfl rfl) ?_
    | refine s1 rfl (lop_pick_t (v := .bool _) rfl (decide_eq_true rfl) rfl) ?_
    | refine s1 rfl (lop_pick_t (v := .bool _) rfl (decide_eq_true rfl) rfl) ?_
    | refine s1 rfl (lop_pick_t (v := .bool _) rfl (decide_eq_true rfl) rfl) ?_
    | refine s1 rfl (lop_pick_t (v := .bool _) rfl rfl rfl) ?_
    | refine s1 rfl (lop_pick_f (v := .bool _) rfl rfl rfl) ?_
    | refine s1 rfl (lop_pick rfl rfl rfl) ?_
  refine s1 rfl (lop_move (v := .bool _) rfl) ?_
  first
    | refine y1 rfl rfl (decide_eq_true rfl) rfl (lop_fieldAddr_rf (fo := 5) rfl Try.underlying34 rfl rfl Try.sizeOf32 (by decide)) ?_
    | refine y1 rfl rfl (decide_eq_true rfl) rfl (lop_fieldAddr_fp (fo := 5) rfl Try.underlying34 rfl rfl Try.sizeOf32 (by decide) rfl) ?_
  first
    | refine y1 rfl rfl (decide_eq_true rfl) rfl (lop_load_rf_agg (ys := [.int _ _, .int _ _]) rfl rfl Try.isAgg32 Try.sizeOf32 (Nat.le_of_ble_eq_true rfl) rfl) ?_
    | refine y1 rfl rfl (decide_eq_true rfl) rfl (lop_load_fp_agg (ys := [.int _ _, .int _ _]) rfl Try.isAgg32 Try.sizeOf32 (Nat.le_of_ble_eq_true rfl) rfl) ?_
  first
    | refine y1 rfl rfl (decide_eq_true rfl) rfl (lop_fieldAddr_rf (fo := 5) rfl Try.underlying34 rfl rfl Try.sizeOf32 (by decide)) ?_
    | refine y1 rfl rfl (decide_eq_true rfl) rfl (lop_fieldAddr_fp (fo := 5) rfl Try.underlying34 rfl rfl Try.sizeOf32 (by decide) rfl) ?_
  first
    | refine y1 rfl rfl (decide_eq_true rfl) rfl (lop_load_rf_agg (ys := [.int _ _, .int _ _]) rfl rfl Try.isAgg32 Try.sizeOf32 (Nat.le_of_ble_eq_true rfl) rfl) ?_
    | refine y1 rfl rfl (decide_eq_true rfl) rfl (lop_load_fp_agg (ys := [.int _ _, .int _ _]) rfl Try.isAgg32 Try.sizeOf32 (Nat.le_of_ble_eq_true rfl) rfl) ?_
  refine y1 rfl rfl (decide_eq_true rfl) rfl (lop_aeql rfl rfl rfl rfl eqg32 (eq32 _ _ _ _)) ?_
  first
    | refine s1 rfl (lop_pick_t (v := .bool _) rfl rfl rfl) ?_
    | refine s1 rfl (lop_pick_t (v := .bool _) rfl (decide_eq_true rfl) rfl) ?_
    | refine s1 rfl (lop_pick_t (v := .bool _) rfl (decide_eq_true rfl) rfl) ?_
    | refine s1 rfl (lop_pick_t (v := .bool _) rfl (decide_eq_true rfl) rfl) ?_
    | refine s1 rfl (lop_pick_t (v := .bool _) rfl (decide_eq_true rfl) rfl) ?_
    | refine s1 rfl (lop_pick_t (v := .bool _) rfl rfl rfl) ?_
    | refine s1 rfl (lop_pick_f (v := .bool _) rfl rfl rfl) ?_
    | refine s1 rfl (lop_pick rfl rfl rfl) ?_
  refine s1 rfl (lop_assign (v := .bool _) rfl) ?_
  refine ops_nil ?_
  refine ok_ret ?_
  exact ret_one rfl rfl rfl rfl (congrArg V.bool (by simp))

end Go.Proofs
