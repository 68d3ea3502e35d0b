/- Chapter 16: walks. Printed by gen.py. -/
import Derived.Test.YtikikdgfebbcmaaT16rb
set_option linter.unusedVariables false
set_option linter.unusedSimpArgs false
set_option maxRecDepth 100000
namespace Go.Proofs
open Go.Hg

/-- The living nodes of a stretch. -/
def seg (live : List Bool) (a b : Nat) : List Int := ((List.range' a (b - a)).map (fun (n : Nat) => (n : Int))).filter (fun n => livesB n live)
theorem seg_nil (live : List Bool) (a : Nat) : seg live a a = [] := by simp [seg]
theorem seg_succ {live : List Bool} {a i : Nat} (h : a ≤ i) : seg live a (i + 1) = seg live a i ++ if livesB (i : Int) live = true then [(i : Int)] else [] := by
  unfold seg
  rw [show i + 1 - a = (i - a) + 1 by omega, List.range'_concat, List.map_append, List.filter_append]
  congr 1
  rw [show a + 1 * (i - a) = i by omega]
  simp only [List.map_cons, List.map_nil, List.filter_cons, List.filter_nil]
theorem livesB_at {live : List Bool} {i : Nat} (h : i < live.length) : livesB (i : Int) live = live[i] := by
  unfold livesB
  rw [Int.toNat_natCast, getD_at _ h, decide_eq_true (by omega), Bool.true_and]
theorem livesB_out {live : List Bool} {i : Nat} (h : ¬ i < live.length) : livesB (i : Int) live = false := by
  unfold livesB
  rw [decide_eq_false (by omega), Bool.false_and]
theorem seg_yes {live : List Bool} {a i : Nat} (h : a ≤ i) (h2 : i < live.length) (h3 : live[i] = true) : seg live a (i + 1) = seg live a i ++ [(i : Int)] := by
  rw [seg_succ h, livesB_at h2, if_pos h3]
theorem seg_no {live : List Bool} {a i : Nat} (h : a ≤ i) (h2 : ∀ h2 : i < live.length, live[i] = false) : seg live a (i + 1) = seg live a i := by
  rw [seg_succ h]
  have : livesB (i : Int) live = false := by
    by_cases h3 : i < live.length
    · rw [livesB_at h3, h2 h3]
    · exact livesB_out h3
  rw [this]; simp
theorem seg_le (live : List Bool) (a b : Nat) : (seg live a b).length ≤ b - a := by
  unfold seg
  exact Nat.le_trans (List.length_filter_le _ _) (by simp)
theorem ringF_seg {vol nodes : Int} {live : List Bool} {v0 : Nat} (h : vol.tmod nodes = (v0 : Int)) (h1 : 1 ≤ nodes) (h2 : v0 < nodes.toNat) : ringF vol nodes live = seg live v0 nodes.toNat ++ seg live 0 v0 := by
  unfold ringF seg
  rw [← List.filter_append]
  congr 1
  apply List.ext_getElem
  · simp; omega
  · intro i hi1 hi2
    simp only [List.length_map, List.length_range] at hi1
    rw [List.getElem_map, List.getElem_range, h]
    by_cases hlt : i < nodes.toNat - v0
    · rw [List.getElem_append_left (by simpa using hlt), List.getElem_map, List.getElem_range']
      rw [Int.tmod_eq_emod_of_nonneg (by omega), Int.emod_eq_of_lt (by omega) (by omega)]
      omega
    · rw [List.getElem_append_right (by simp; omega), List.getElem_map, List.getElem_range']
      rw [Int.tmod_eq_emod_of_nonneg (by omega), show (v0 : Int) + (i : Int) = ((v0 : Int) + i - nodes) + nodes * 1 by omega, Int.add_mul_emod_self_left, Int.emod_eq_of_lt (by omega) (by omega)]
      simp
      omega

theorem ref11_Ring_ac (vol nodes : Int) {live : List Bool} (hl : live.length ≤ 1048576) (h0 : 0 ≤ vol) (h1 : 1 ≤ nodes) (h2 : nodes ≤ 64) : AC Try.prog 58 [i64 vol, i64 nodes, rowOf boolEnc live] (rowOf intEnc (ringF vol nodes live)) := by
  obtain ⟨v0, hv0⟩ : ∃ v0 : Nat, vol.tmod nodes = (v0 : Int) := ⟨(vol.tmod nodes).toNat, (Int.toNat_of_nonneg (Int.tmod_nonneg _ h0)).symm⟩
  have hv1 : v0 < nodes.toNat := by have := Int.tmod_lt_of_pos vol (show 0 < nodes by omega); omega
  refine AC.intro Try.func58 rfl (Nat.le_of_ble_eq_true rfl) ?_
  refine ok_reg ?_
  first
    | refine s1 rfl (lop_assign (v := .sl _ _) rfl) ?_
    | refine s1 rfl (lop_assign (v := .os _ _ _ _) rfl) ?_
    | refine s1 rfl (lop_assign (v := .z0) rfl) ?_
  refine ops_nil ?_
  refine ok_reg ?_
  first
    | refine s1 rfl (lop_assign (v := .sl _ _) rfl) ?_
    | refine s1 rfl (lop_assign (v := .os _ _ _ _) rfl) ?_
    | refine s1 rfl (lop_assign (v := .z0) rfl) ?_
  refine ops_nil ?_
  refine ok_seq ?_
  refine ok_reg ?_
  refine s1 rfl (lop_move (v := .int _ _) rfl) ?_
  refine s1 rfl (lop_lss rfl rfl) ?_
  refine s1 rfl (lop_move (v := .bool _) rfl) ?_
  first
    | refine gsplitP 2 rfl rfl (fun g2_2 p2_2 => ?_) (fun g2_2 p2_2 => ?_)
    | refine gsplitB 2 rfl rfl (fun g2_2 p2_2 => ?_) (fun g2_2 p2_2 => ?_)
  · omega
  · refine y1 rfl rfl g2_2 rfl (lop_move (v := .int _ _) rfl) ?_
    refine y1 rfl rfl g2_2 rfl (lop_lss rfl rfl) ?_
    first
      | refine s1 rfl (lop_pick_f (v := .bool _) rfl g2_2 rfl) ?_
      | refine s1 rfl (lop_pick_t (v := .bool _) rfl rfl rfl) ?_
      | refine s1 rfl (lop_pick_f (v := .bool _) rfl rfl rfl) ?_
      | refine s1 rfl (lop_pick rfl rfl rfl) ?_
    refine s1 rfl (lop_move (v := .bool _) rfl) ?_
    first
      | refine gsplitP 6 rfl rfl (fun g2_6 p2_6 => ?_) (fun g2_6 p2_6 => ?_)
      | refine gsplitB 6 rfl rfl (fun g2_6 p2_6 => ?_) (fun g2_6 p2_6 => ?_)
    · omega
    · refine y1 rfl rfl g2_6 rfl (lop_move (v := .int _ _) rfl) ?_
      refine y1 rfl rfl g2_6 rfl (lop_gtr rfl rfl) ?_
      first
        | refine s1 rfl (lop_pick_f (v := .bool _) rfl g2_2 rfl) ?_
        | refine s1 rfl (lop_pick_f (v := .bool _) rfl g2_6 rfl) ?_
        | refine s1 rfl (lop_pick_t (v := .bool _) rfl rfl rfl) ?_
        | refine s1 rfl (lop_pick_f (v := .bool _) rfl rfl rfl) ?_
        | refine s1 rfl (lop_pick rfl rfl rfl) ?_
      refine ops_nil ?_
      first
        | refine ok_if _ rfl rfl (fun h_t19 => ?_) (fun h_t19 => ?_)
        | refine ok_cond rfl rfl (fun h_t19 => ?_) (fun h_t19 => ?_)
      · omega
      · refine ok_skip ?_
        refine ok_seq ?_
        refine ok_reg ?_
        refine s1 rfl (lop_move (v := .int _ _) rfl) ?_
        refine s1 rfl (lop_move (v := .int _ _) rfl) ?_
        refine s1 rfl (lop_rem rfl rfl (by omega) hv0) ?_
        refine s1 rfl (lop_assign (v := .int _ _) rfl) ?_
        refine ops_nil ?_
        refine ok_block ?_
        refine ok_loop (ι := {i : Nat // v0 ≤ i ∧ i ≤ nodes.toNat}) (fun i => ⟨[(0, i64 vol), (1, i64 nodes), (2, rowOf boolEnc live), (7, .os 100 0 1 (seg live v0 i.1).length), (8, i64 i.1)], [(100, some (true, (seg live v0 i.1).flatMap intEnc))], 64⟩) (fun i => nodes.toNat - i.1) (⟨v0, Nat.le_refl _, Nat.le_of_lt hv1⟩) ?_ ?_
        · dsimp only
          rw [seg_nil]
          exact le_ren [(100, none)] ⟨rfl, rfl, rfl, rfl, rfl, trivial⟩ rfl ⟨⟨rfl, rfl⟩, trivial⟩ rfl rfl rfl
        rintro ⟨i, hi0, hi⟩
        dsimp only
        have hsl := seg_le live v0 i
        refine ok_seq ?_
        refine ok_reg ?_
        refine s1 rfl (lop_move (v := .int _ _) rfl) ?_
        refine s1 rfl (lop_move (v := .int _ _) rfl) ?_
        refine s1 rfl (lop_lss rfl rfl) ?_
        refine ops_nil ?_
        first
          | refine ok_if _ rfl rfl (fun h_t25 => ?_) (fun h_t25 => ?_)
          | refine ok_cond rfl rfl (fun h_t25 => ?_) (fun h_t25 => ?_)
        · have h_t25 : i < nodes.toNat := by omega
          refine ok_skip ?_
          refine ok_seq ?_
          refine ok_block ?_
          refine ok_reg ?_
          refine s1 rfl (lop_move (v := .int _ _) rfl) ?_
          first
            | refine s1 rfl (lop_move (v := .sl _ _) rfl) ?_
            | refine s1 rfl (lop_move (v := .os _ _ _ _) rfl) ?_
            | refine s1 rfl (lop_move (v := .z0) rfl) ?_
          refine s1 rfl (lop_len rfl Try.underlying71 ⟨⟨_, rfl⟩, rfl⟩) ?_
          refine s1 rfl (lop_lss rfl rfl) ?_
          refine s1 rfl (lop_move (v := .bool _) rfl) ?_
          first
            | refine gsplitP 4 rfl rfl (fun g7_4 p7_4 => ?_) (fun g7_4 p7_4 => ?_)
            | refine gsplitB 4 rfl rfl (fun g7_4 p7_4 => ?_) (fun g7_4 p7_4 => ?_)
          · have hil : i < live.length := Int.ofNat_lt.1 p7_4
            first
              | refine y1 rfl rfl g7_4 rfl (lop_move (v := .sl _ _) rfl) ?_
              | refine y1 rfl rfl g7_4 rfl (lop_move (v := .os _ _ _ _) rfl) ?_
              | refine y1 rfl rfl g7_4 rfl (lop_move (v := .z0) rfl) ?_
            refine y1 rfl rfl g7_4 rfl (lop_move (v := .int _ _) rfl) ?_
            first
              | refine y1 rfl rfl g7_4 rfl (lop_indexAddr_os rfl rfl Try.underlying71 Try.sizeOf4 rfl hil) ?_
              | refine y1 rfl rfl g7_4 rfl (lop_indexAddr_sl rfl rfl Try.underlying71 Try.sizeOf4 rfl hil (flat_at boolEnc_len hil) (flat_ne boolEnc_len (by decide) hil)) ?_
            refine y1 rfl rfl g7_4 rfl (lop_load_fp (v := .bool live[i]) rfl Try.isAgg4 rfl) ?_
            first
              | refine s1 rfl (lop_pick_t (v := .bool _) rfl g7_4 rfl) ?_
              | refine s1 rfl (lop_pick_t (v := .bool _) rfl rfl rfl) ?_
              | refine s1 rfl (lop_pick_f (v := .bool _) rfl rfl rfl) ?_
              | refine s1 rfl (lop_pick rfl rfl rfl) ?_
            refine ops_nil ?_
            first
              | refine ok_if _ rfl rfl (fun h_t37 => ?_) (fun h_t37 => ?_)
              | refine ok_cond rfl rfl (fun h_t37 => ?_) (fun h_t37 => ?_)
            · refine ok_region ?_
              first
                | refine s1 rfl (lop_move (v := .sl _ _) rfl) ?_
                | refine s1 rfl (lop_move (v := .os _ _ _ _) rfl) ?_
                | refine s1 rfl (lop_move (v := .z0) rfl) ?_
              refine s1 rfl (lop_move (v := .int _ _) rfl) ?_
              first
                | refine s1w rfl (lop_buildSlice (t := 40) (cs := [.int _ _]) (f := true) Try.underlying74 Try.sizeOf3 (by decide) Try.zeroValue3 rfl rfl rfl (by decide) rfl (.inr (by decide)) rfl (fun h => by cases h)) rfl ?_
                | refine s1w rfl (lop_buildSlice (t := 40) (cs := [.int _ _]) (f := false) Try.underlying74 Try.sizeOf3 (by decide) Try.zeroValue3 rfl rfl rfl (by decide) rfl (.inr (by decide)) rfl (fun _ => rfl)) rfl ?_
              first
                | refine s2w rfl (lop_append_os (t' := 41) rfl rfl rfl (by rw [flat_length intEnc_len, Nat.mul_one]) (.os Try.underlying74 (List.mem_singleton.2 rfl) rfl (Nat.le_of_ble_eq_true rfl) rfl) Try.underlying74 info3 rfl (by omega) (by omega)) rfl ?_
                | refine s1w rfl (lop_append_z0 (t' := 41) rfl rfl (.os Try.underlying74 (List.mem_singleton.2 rfl) rfl (Nat.le_of_ble_eq_true rfl) rfl) Try.underlying74 info3 rfl (by omega) (by omega)) rfl ?_
                | refine s2w rfl (lop_append_os (t' := 41) (R := []) rfl rfl rfl (by rw [flat_length intEnc_len, Nat.mul_one]) (.sl Try.underlying74 rfl) Try.underlying74 info3 rfl (by omega) (by omega)) rfl ?_
                | refine s1w rfl (lop_append_z0 (t' := 41) (R := []) rfl rfl (.sl Try.underlying74 rfl) Try.underlying74 info3 rfl (by omega) (by omega)) rfl ?_
                | refine s2w rfl (lop_append_os (t' := 41) (R := []) rfl rfl rfl (by rw [flat_length intEnc_len, Nat.mul_one]) (.z0 Try.underlying74) Try.underlying74 info3 rfl (by omega) (by omega)) rfl ?_
                | refine s1w rfl (lop_append_z0 (t' := 41) (R := []) rfl rfl (.z0 Try.underlying74) Try.underlying74 info3 rfl (by omega) (by omega)) rfl ?_
              first
                | refine s1 rfl (lop_assign (v := .sl _ _) rfl) ?_
                | refine s1 rfl (lop_assign (v := .os _ _ _ _) rfl) ?_
                | refine s1 rfl (lop_assign (v := .z0) rfl) ?_
              refine ops_nil ?_
              refine ok_region ?_
              refine s1 rfl (lop_move (v := .int _ _) rfl) ?_
              refine s1 rfl (lop_bop rfl rfl rfl (bop_add (by omega) (by omega))) ?_
              refine s1 rfl (lop_assign (v := .int _ _) rfl) ?_
              refine ops_nil ?_
              have e1 := seg_yes hi0 hil h_t37
              exact ⟨⟨i + 1, by omega, by omega⟩, by simp only; omega, le_ren [(100, some 41)] ⟨rfl, rfl, rfl, congrArg (V.os 41 0 1) (by rw [e1, List.length_append]; rfl), rfl, trivial⟩ rfl ⟨⟨_, rfl, by show _ = List.flatMap _ _; rw [e1, List.flatMap_append]; rfl⟩, trivial⟩ rfl rfl rfl⟩
            · refine ok_skip ?_
              refine ok_region ?_
              refine s1 rfl (lop_move (v := .int _ _) rfl) ?_
              refine s1 rfl (lop_bop rfl rfl rfl (bop_add (by omega) (by omega))) ?_
              refine s1 rfl (lop_assign (v := .int _ _) rfl) ?_
              refine ops_nil ?_
              have e1 := seg_no hi0 (fun _ => by simpa using h_t37)
              exact ⟨⟨i + 1, by omega, by omega⟩, by simp only; omega, le_mk ⟨rfl, rfl, rfl, congrArg (V.os 100 0 1) (by rw [e1]), rfl, trivial⟩ ⟨.inr (by rw [e1]; rfl), trivial⟩ rfl⟩
          · have hil : ¬ i < live.length := fun h => p7_4 (Int.ofNat_lt.2 h)
            refine n1 rfl rfl g7_4 ?_
            refine n1 rfl rfl g7_4 ?_
            refine n1 rfl rfl g7_4 ?_
            refine n1 rfl rfl g7_4 ?_
            first
              | refine s1 rfl (lop_pick_f (v := .bool _) rfl g7_4 rfl) ?_
              | refine s1 rfl (lop_pick_t (v := .bool _) rfl rfl rfl) ?_
              | refine s1 rfl (lop_pick_f (v := .bool _) rfl rfl rfl) ?_
              | refine s1 rfl (lop_pick rfl rfl rfl) ?_
            refine ops_nil ?_
            refine ok_false rfl rfl ?_
            refine ok_skip ?_
            refine ok_region ?_
            refine s1 rfl (lop_move (v := .int _ _) rfl) ?_
            refine s1 rfl (lop_bop rfl rfl rfl (bop_add (by omega) (by omega))) ?_
            refine s1 rfl (lop_assign (v := .int _ _) rfl) ?_
            refine ops_nil ?_
            have e1 := seg_no (live := live) hi0 (fun h => absurd h hil)
            exact ⟨⟨i + 1, by omega, by omega⟩, by simp only; omega, le_mk ⟨rfl, rfl, rfl, congrArg (V.os 100 0 1) (by rw [e1]), rfl, trivial⟩ ⟨.inr (by rw [e1]; rfl), trivial⟩ rfl⟩
        · have hin : i = nodes.toNat := by omega
          subst hin
          refine ok_exit ?_
          refine ok_seq ?_
          refine ok_reg ?_
          refine s1 rfl (lop_assign (v := .int _ _) rfl) ?_
          refine ops_nil ?_
          refine ok_block ?_
          refine ok_loop (ι := {i : Nat // i ≤ v0}) (fun i => ⟨[(0, i64 vol), (1, i64 nodes), (2, rowOf boolEnc live), (7, .os 100 0 1 (seg live v0 nodes.toNat ++ seg live 0 i.1).length), (9, i64 i.1)], [(100, some (true, (seg live v0 nodes.toNat ++ seg live 0 i.1).flatMap intEnc))], 64⟩) (fun i => v0 - i.1) (⟨0, Nat.zero_le _⟩) ?_ ?_
          · dsimp only
            rw [seg_nil, List.append_nil]
            exact le_mk ⟨rfl, rfl, rfl, rfl, rfl, trivial⟩ ⟨.inr rfl, trivial⟩ rfl
          rintro ⟨i, hi⟩
          dsimp only
          have hsl1 := seg_le live v0 nodes.toNat
          have hsl2 := seg_le live 0 i
          have hsl : (seg live v0 nodes.toNat ++ seg live 0 i).length ≤ 128 := by rw [List.length_append]; omega
          refine ok_seq ?_
          refine ok_reg ?_
          refine s1 rfl (lop_move (v := .int _ _) rfl) ?_
          refine s1 rfl (lop_move (v := .int _ _) rfl) ?_
          refine s1 rfl (lop_move (v := .int _ _) rfl) ?_
          refine s1 rfl (lop_rem rfl rfl (by omega) hv0) ?_
          refine s1 rfl (lop_lss rfl rfl) ?_
          refine ops_nil ?_
          first
            | refine ok_if _ rfl rfl (fun h_t46 => ?_) (fun h_t46 => ?_)
            | refine ok_cond rfl rfl (fun h_t46 => ?_) (fun h_t46 => ?_)
          · have h_t46 : i < v0 := Int.ofNat_lt.1 h_t46
            refine ok_skip ?_
            refine ok_seq ?_
            refine ok_block ?_
            refine ok_reg ?_
            refine s1 rfl (lop_move (v := .int _ _) rfl) ?_
            first
              | refine s1 rfl (lop_move (v := .sl _ _) rfl) ?_
              | refine s1 rfl (lop_move (v := .os _ _ _ _) rfl) ?_
              | refine s1 rfl (lop_move (v := .z0) rfl) ?_
            refine s1 rfl (lop_len rfl Try.underlying71 ⟨⟨_, rfl⟩, rfl⟩) ?_
            refine s1 rfl (lop_lss rfl rfl) ?_
            refine s1 rfl (lop_move (v := .bool _) rfl) ?_
            first
              | refine gsplitP 4 rfl rfl (fun g12_4 p12_4 => ?_) (fun g12_4 p12_4 => ?_)
              | refine gsplitB 4 rfl rfl (fun g12_4 p12_4 => ?_) (fun g12_4 p12_4 => ?_)
            · have hil : i < live.length := Int.ofNat_lt.1 p12_4
              first
                | refine y1 rfl rfl g12_4 rfl (lop_move (v := .sl _ _) rfl) ?_
                | refine y1 rfl rfl g12_4 rfl (lop_move (v := .os _ _ _ _) rfl) ?_
                | refine y1 rfl rfl g12_4 rfl (lop_move (v := .z0) rfl) ?_
              refine y1 rfl rfl g12_4 rfl (lop_move (v := .int _ _) rfl) ?_
              first
                | refine y1 rfl rfl g12_4 rfl (lop_indexAddr_os rfl rfl Try.underlying71 Try.sizeOf4 rfl hil) ?_
                | refine y1 rfl rfl g12_4 rfl (lop_indexAddr_sl rfl rfl Try.underlying71 Try.sizeOf4 rfl hil (flat_at boolEnc_len hil) (flat_ne boolEnc_len (by decide) hil)) ?_
              refine y1 rfl rfl g12_4 rfl (lop_load_fp (v := .bool live[i]) rfl Try.isAgg4 rfl) ?_
              first
                | refine s1 rfl (lop_pick_t (v := .bool _) rfl g12_4 rfl) ?_
                | refine s1 rfl (lop_pick_t (v := .bool _) rfl rfl rfl) ?_
                | refine s1 rfl (lop_pick_f (v := .bool _) rfl rfl rfl) ?_
                | refine s1 rfl (lop_pick rfl rfl rfl) ?_
              refine ops_nil ?_
              first
                | refine ok_if _ rfl rfl (fun h_t58 => ?_) (fun h_t58 => ?_)
                | refine ok_cond rfl rfl (fun h_t58 => ?_) (fun h_t58 => ?_)
              · refine ok_region ?_
                first
                  | refine s1 rfl (lop_move (v := .sl _ _) rfl) ?_
                  | refine s1 rfl (lop_move (v := .os _ _ _ _) rfl) ?_
                  | refine s1 rfl (lop_move (v := .z0) rfl) ?_
                refine s1 rfl (lop_move (v := .int _ _) rfl) ?_
                first
                  | refine s1w rfl (lop_buildSlice (t := 61) (cs := [.int _ _]) (f := true) Try.underlying74 Try.sizeOf3 (by decide) Try.zeroValue3 rfl rfl rfl (by decide) rfl (.inr (by decide)) rfl (fun h => by cases h)) rfl ?_
                  | refine s1w rfl (lop_buildSlice (t := 61) (cs := [.int _ _]) (f := false) Try.underlying74 Try.sizeOf3 (by decide) Try.zeroValue3 rfl rfl rfl (by decide) rfl (.inr (by decide)) rfl (fun _ => rfl)) rfl ?_
                first
                  | refine s2w rfl (lop_append_os (t' := 62) rfl rfl rfl (by rw [flat_length intEnc_len, Nat.mul_one]) (.os Try.underlying74 (List.mem_singleton.2 rfl) rfl (Nat.le_of_ble_eq_true rfl) rfl) Try.underlying74 info3 rfl (by omega) (by omega)) rfl ?_
                  | refine s1w rfl (lop_append_z0 (t' := 62) rfl rfl (.os Try.underlying74 (List.mem_singleton.2 rfl) rfl (Nat.le_of_ble_eq_true rfl) rfl) Try.underlying74 info3 rfl (by omega) (by omega)) rfl ?_
                  | refine s2w rfl (lop_append_os (t' := 62) (R := []) rfl rfl rfl (by rw [flat_length intEnc_len, Nat.mul_one]) (.sl Try.underlying74 rfl) Try.underlying74 info3 rfl (by omega) (by omega)) rfl ?_
                  | refine s1w rfl (lop_append_z0 (t' := 62) (R := []) rfl rfl (.sl Try.underlying74 rfl) Try.underlying74 info3 rfl (by omega) (by omega)) rfl ?_
                  | refine s2w rfl (lop_append_os (t' := 62) (R := []) rfl rfl rfl (by rw [flat_length intEnc_len, Nat.mul_one]) (.z0 Try.underlying74) Try.underlying74 info3 rfl (by omega) (by omega)) rfl ?_
                  | refine s1w rfl (lop_append_z0 (t' := 62) (R := []) rfl rfl (.z0 Try.underlying74) Try.underlying74 info3 rfl (by omega) (by omega)) rfl ?_
                first
                  | refine s1 rfl (lop_assign (v := .sl _ _) rfl) ?_
                  | refine s1 rfl (lop_assign (v := .os _ _ _ _) rfl) ?_
                  | refine s1 rfl (lop_assign (v := .z0) rfl) ?_
                refine ops_nil ?_
                refine ok_region ?_
                refine s1 rfl (lop_move (v := .int _ _) rfl) ?_
                refine s1 rfl (lop_bop rfl rfl rfl (bop_add (by omega) (by omega))) ?_
                refine s1 rfl (lop_assign (v := .int _ _) rfl) ?_
                refine ops_nil ?_
                have e1 := seg_yes (Nat.zero_le _) hil h_t58
                exact ⟨⟨i + 1, by omega⟩, by simp only; omega, le_ren [(100, some 62)] ⟨rfl, rfl, rfl, congrArg (V.os 62 0 1) (by rw [e1, ← List.append_assoc]; exact (List.length_append (bs := [_])).symm), rfl, trivial⟩ rfl ⟨⟨_, rfl, by show _ = List.flatMap _ _; rw [e1, ← List.append_assoc]; generalize seg live v0 nodes.toNat ++ seg live 0 i = A; rw [List.flatMap_append]; rfl⟩, trivial⟩ rfl rfl rfl⟩
              · refine ok_skip ?_
                refine ok_region ?_
                refine s1 rfl (lop_move (v := .int _ _) rfl) ?_
                refine s1 rfl (lop_bop rfl rfl rfl (bop_add (by omega) (by omega))) ?_
                refine s1 rfl (lop_assign (v := .int _ _) rfl) ?_
                refine ops_nil ?_
                have e1 := seg_no (Nat.zero_le _) (fun _ => by simpa using h_t58)
                exact ⟨⟨i + 1, by omega⟩, by simp only; omega, le_mk ⟨rfl, rfl, rfl, congrArg (V.os 100 0 1) (by rw [e1]), rfl, trivial⟩ ⟨.inr (by rw [e1]; rfl), trivial⟩ rfl⟩
            · have hil : ¬ i < live.length := fun h => p12_4 (Int.ofNat_lt.2 h)
              refine n1 rfl rfl g12_4 ?_
              refine n1 rfl rfl g12_4 ?_
              refine n1 rfl rfl g12_4 ?_
              refine n1 rfl rfl g12_4 ?_
              first
                | refine s1 rfl (lop_pick_f (v := .bool _) rfl g12_4 rfl) ?_
                | refine s1 rfl (lop_pick_t (v := .bool _) rfl rfl rfl) ?_
                | refine s1 rfl (lop_pick_f (v := .bool _) rfl rfl rfl) ?_
                | refine s1 rfl (lop_pick rfl rfl rfl) ?_
              refine ops_nil ?_
              refine ok_false rfl rfl ?_
              refine ok_skip ?_
              refine ok_region ?_
              refine s1 rfl (lop_move (v := .int _ _) rfl) ?_
              refine s1 rfl (lop_bop rfl rfl rfl (bop_add (by omega) (by omega))) ?_
              refine s1 rfl (lop_assign (v := .int _ _) rfl) ?_
              refine ops_nil ?_
              have e1 := seg_no (live := live) (Nat.zero_le _) (fun h => absurd h hil)
              exact ⟨⟨i + 1, by omega⟩, by simp only; omega, le_mk ⟨rfl, rfl, rfl, congrArg (V.os 100 0 1) (by rw [e1]), rfl, trivial⟩ ⟨.inr (by rw [e1]; rfl), trivial⟩ rfl⟩
          · have hin : i = v0 := by omega
            subst hin
            refine ok_exit ?_
            refine ok_reg ?_
            first
              | refine s1 rfl (lop_move (v := .sl _ _) rfl) ?_
              | refine s1 rfl (lop_move (v := .os _ _ _ _) rfl) ?_
              | refine s1 rfl (lop_move (v := .z0) rfl) ?_
            first
              | refine s1 rfl (lop_assign (v := .sl _ _) rfl) ?_
              | refine s1 rfl (lop_assign (v := .os _ _ _ _) rfl) ?_
              | refine s1 rfl (lop_assign (v := .z0) rfl) ?_
            refine ops_nil ?_
            refine ok_ret ?_
            rw [ringF_seg hv0 h1 hv1]
            exact ret_os rfl rfl rfl rfl (by rw [flat_length intEnc_len]; omega) (by rw [List.drop_zero, Nat.mul_one, List.take_of_length_le (by rw [flat_length intEnc_len]; omega)])

end Go.Proofs
