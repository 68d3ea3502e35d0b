/- Chapter 16: walks. Printed by gen.py. -/
import Derived.Test.YtikikdgfebbcmaaT16w
set_option linter.unusedVariables false
set_option linter.unusedSimpArgs false
set_option maxRecDepth 100000
namespace Go.Proofs
open Go.Hg

theorem stepF_kind {x : IdxD} {l : List InvD} {nodes : Int} : ∀ {i : Nat}, i < 5 → (stepF x l nodes i).2 = true → (stepF x l nodes i).1.kind = (i : Int) + 1
  | 0, _, h => by
    simp only [stepF] at h ⊢
    unfold repairF at h ⊢
    split at h
    · rename_i a ha
      obtain ⟨v, hv, hr⟩ := List.exists_of_findSome?_eq_some ha
      simp only [ha]
      unfold repG at hr
      split at hr
      · cases hr
      · split at hr
        · cases hr; rfl
        · split at hr
          · cases hr; rfl
          · cases hr
    · cases h
  | 1, _, h => by
    simp only [stepF] at h ⊢
    unfold encodeF at h ⊢
    split at h
    · rename_i a ha
      simp only [ha]; rfl
    · cases h
  | 2, _, h => by
    simp only [stepF] at h ⊢
    unfold pairF at h ⊢
    split at h
    · rename_i a ha
      obtain ⟨v, hv, hr⟩ := List.exists_of_findSome?_eq_some ha
      simp only [ha]
      unfold pairG at hr
      split at hr
      · split at hr
        · cases hr
        · split at hr
          · cases hr; rfl
          · cases hr
      · cases hr
    · cases h
  | 3, _, h => by
    simp only [stepF] at h ⊢
    unfold lockF at h ⊢
    split at h
    · rename_i a ha
      simp only [ha]; rfl
    · cases h
  | 4, _, h => by
    simp only [stepF] at h ⊢
    unfold dropF at h ⊢
    split at h
    · rename_i a ha
      simp only [ha]; rfl
    · cases h
theorem planNext_rest {x : IdxD} {l : List InvD} {nodes : Int} (h : (planNextF x l nodes).kind = 0) : ∀ i, i < 5 → (stepF x l nodes i).2 = false := by
  have key : ∀ n, n ≤ 5 → ∀ j, j < n → (stepF x l nodes j).2 = false := by
    intro n
    induction n with
    | zero => intro _ j hj; omega
    | succ n ih =>
      intro hn j hj
      have h1 := ih (by omega)
      rcases Nat.lt_or_ge j n with h2 | h2
      · exact h1 j h2
      · have : j = n := by omega
        subst this
        cases hs : (stepF x l nodes j).2 with
        | false => rfl
        | true =>
          rw [planNext_at (by omega) h1 hs, stepF_kind (by omega) hs] at h
          omega
  exact fun i hi => key 5 (Nat.le_refl _) i hi
theorem rest_lock {x : IdxD} {l : List InvD} {nodes : Int} (h : (planNextF x l nodes).kind = 0) : ∀ v ∈ x.vols, lockP v = false := by
  have h3 : (lockF x.vols).2 = false := planNext_rest h 3 (by decide)
  unfold lockF at h3
  split at h3
  · cases h3
  · rename_i hf
    intro v hv
    simpa using List.find?_eq_none.1 hf v hv
theorem rest_drop {x : IdxD} {l : List InvD} {nodes : Int} (h : (planNextF x l nodes).kind = 0) : ∀ n ∈ l, ∀ k ∈ n.keys, (n.live && oldAt x k) = false := by
  have h4 : (dropF x l).2 = false := planNext_rest h 4 (by decide)
  unfold dropF at h4
  split at h4
  · cases h4
  · rename_i hf
    intro n hn k hk
    have := List.find?_eq_none.1 hf n hn
    unfold dropP at this
    simp only [Bool.not_eq_true, Option.isSome_eq_false_iff, Option.isNone_iff_eq_none] at this
    simpa using List.find?_eq_none.1 this k hk

theorem PlanRests_ac (x : IdxD) (hx : VolsOk x.vols) {l : List InvD} (hl : InvsOk l) (nodes : Int) : AC Try.prog 4 [.agg x.enc, rowOf InvD.enc l, i64 nodes] (.bool true) := by
  have hvl := hx.1
  have hll := hl.1
  refine AC.intro Try.func4 rfl (Nat.le_of_ble_eq_true rfl) ?_
  refine ok_reg ?_
  first
    | refine s1w rfl (lop_box (t := 3) (v := .agg [_, _, _]) (f := true) (cs := [_, _, _]) rfl rfl rfl rfl (fun h => by cases h)) rfl ?_
    | refine s1w rfl (lop_box (t := 3) (v := .agg [_, _, _]) (f := false) (cs := [_, _, _]) rfl rfl rfl rfl (fun _ => rfl)) rfl ?_
  refine s1 rfl (lop_assign (v := .bool _) rfl) ?_
  refine ops_nil ?_
  refine ok_reg ?_
  refine s1 rfl (lop_call rfl Try.call9 (FrzL.tf rfl) (.inl rfl) shown_ac) ?_
  refine s1 rfl (lop_assign (v := .bool _) rfl) ?_
  refine ops_nil ?_
  refine ok_reg ?_
  first
    | refine s1 rfl (lop_load_rf_agg (ys := [_, _, _]) rfl rfl Try.isAgg26 Try.sizeOf26 (Nat.le_of_ble_eq_true rfl) rfl) ?_
    | refine s1 rfl (lop_load_fp_agg (ys := [_, _, _]) rfl Try.isAgg26 Try.sizeOf26 (Nat.le_of_ble_eq_true rfl) rfl) ?_
  first
    | refine s1 rfl (lop_move (v := .sl _ _) rfl) ?_
    | refine s1 rfl (lop_move (v := .os _ _ _ _) rfl) ?_
    | refine s1 rfl (lop_move (v := .z0) rfl) ?_
  refine s1 rfl (lop_move (v := .int _ _) rfl) ?_
  refine s1 rfl (lop_call rfl Try.call11 (FrzL.tf rfl) (.inl rfl) (plan_Next_ac x hx hl nodes)) ?_
  refine s1w rfl (lop_new (t := 8) (cs := [.int _ _, .int _ _, .int _ _, .int _ _, .z0, .int _ _, .int _ _]) Try.zeroValue34 rfl rfl rfl rfl) rfl ?_
  first
    | refine s0w rfl (lop_storeK (v := .agg [.int _ _, .int _ _, .int _ _, .int _ _, _, .int _ _, .int _ _]) (cs' := [.int _ _, .int _ _, .int _ _, .int _ _, _, .int _ _, .int _ _]) (f' := true) rfl rfl rfl Try.sizeOf34 rfl rfl rfl rfl rfl) ?_
    | refine s0w rfl (lop_storeK (v := .agg [.int _ _, .int _ _, .int _ _, .int _ _, _, .int _ _, .int _ _]) (cs' := [.int _ _, .int _ _, .int _ _, .int _ _, _, .int _ _, .int _ _]) (f' := false) rfl rfl rfl Try.sizeOf34 rfl rfl rfl rfl rfl) ?_
  refine ops_nil ?_
  refine ok_seq ?_
  refine ok_reg ?_
  first
    | refine s1 rfl (lop_fieldAddr_rf (fo := 0) rfl Try.underlying34 rfl rfl Try.sizeOf3 (by decide)) ?_
    | refine s1 rfl (lop_fieldAddr_fp (fo := 0) rfl Try.underlying34 rfl rfl Try.sizeOf3 (by decide) rfl) ?_
  first
    | refine s1 rfl (lop_load_rf rfl rfl Try.isAgg3 rfl) ?_
    | refine s1 rfl (lop_load_fp rfl Try.isAgg3 rfl) ?_
  refine s1 rfl (lop_neq rfl rfl) ?_
  refine ops_nil ?_
  first
    | refine ok_if _ rfl rfl (fun h_t19 => ?_) (fun h_t19 => ?_)
    | refine ok_cond rfl rfl (fun h_t19 => ?_) (fun h_t19 => ?_)
  · refine ok_reg ?_
    refine s1 rfl (lop_move (v := .bool _) rfl) ?_
    refine s1 rfl (lop_assign (v := .bool _) rfl) ?_
    refine ops_nil ?_
    refine ok_ret ?_
    exact ret_one rfl rfl rfl rfl rfl
  · have hk0 : (planNextF x l nodes).kind = 0 := Decidable.byContradiction h_t19
    have hlock := rest_lock hk0
    have hdrop := rest_drop hk0
    refine ok_skip ?_
    refine ok_seq ?_
    refine ok_reg ?_
    refine s1 rfl (lop_assign (v := .int _ _) rfl) ?_
    refine ops_nil ?_
    refine ok_block ?_
    refine ok_loop (ι := {i : Nat // i ≤ x.vols.length}) (fun i => ⟨[(1, rowOf InvD.enc l), (3, .rf 3 0), (7, .bool true), (9, i64 i.1)], [(3, some (true, x.enc))], 78⟩) (fun i => x.vols.length - i.1) (⟨0, Nat.zero_le _⟩) ?_ ?_
    · exact le_mk ⟨rfl, rfl, rfl, rfl, trivial⟩ ⟨.inr rfl, trivial⟩ rfl
    rintro ⟨i, hi⟩
    dsimp only
    refine ok_seq ?_
    refine ok_reg ?_
    refine s1 rfl (lop_move (v := .int _ _) rfl) ?_
    first
      | refine s1 rfl (lop_fieldAddr_rf (fo := 0) rfl Try.underlying26 rfl rfl Try.sizeOf22 (by decide)) ?_
      | refine s1 rfl (lop_fieldAddr_fp (fo := 0) rfl Try.underlying26 rfl rfl Try.sizeOf22 (by decide) rfl) ?_
    first
      | refine s1 rfl (lop_load_rf rfl rfl Try.isAgg22 rfl) ?_
      | refine s1 rfl (lop_load_fp rfl Try.isAgg22 rfl) ?_
    refine s1 rfl (lop_len rfl Try.underlying22 ⟨⟨_, rfl⟩, rfl⟩) ?_
    refine s1 rfl (lop_lss rfl rfl) ?_
    refine ops_nil ?_
    first
      | refine ok_if _ rfl rfl (fun h_t25 => ?_) (fun h_t25 => ?_)
      | refine ok_cond rfl rfl (fun h_t25 => ?_) (fun h_t25 => ?_)
    · have h_t25 : i < x.vols.length := Int.ofNat_lt.1 h_t25
      refine ok_skip ?_
      refine ok_seq ?_
      refine ok_block ?_
      refine ok_reg ?_
      first
        | refine s1 rfl (lop_fieldAddr_rf (fo := 0) rfl Try.underlying26 rfl rfl Try.sizeOf22 (by decide)) ?_
        | refine s1 rfl (lop_fieldAddr_fp (fo := 0) rfl Try.underlying26 rfl rfl Try.sizeOf22 (by decide) rfl) ?_
      first
        | refine s1 rfl (lop_load_rf rfl rfl Try.isAgg22 rfl) ?_
        | refine s1 rfl (lop_load_fp rfl Try.isAgg22 rfl) ?_
      refine s1 rfl (lop_move (v := .int _ _) rfl) ?_
      first
        | refine s1 rfl (lop_indexAddr_os rfl rfl Try.underlying22 Try.sizeOf39 rfl h_t25) ?_
        | refine s1 rfl (lop_indexAddr_sl rfl rfl Try.underlying22 Try.sizeOf39 rfl h_t25 (flat_at VolD.len h_t25) (flat_ne VolD.len (by decide) h_t25)) ?_
      first
        | refine s1 rfl (lop_fieldAddr_rf (fo := 4) rfl Try.underlying39 rfl rfl Try.sizeOf3 (by decide)) ?_
        | refine s1 rfl (lop_fieldAddr_fp (fo := 4) rfl Try.underlying39 rfl rfl Try.sizeOf3 (by decide) rfl) ?_
      first
        | refine s1 rfl (lop_load_rf rfl rfl Try.isAgg3 rfl) ?_
        | refine s1 rfl (lop_load_fp rfl Try.isAgg3 rfl) ?_
      refine s1 rfl (lop_eql rfl rfl) ?_
      refine s1 rfl (lop_move (v := .bool _) rfl) ?_
      first
        | refine gsplitP 7 rfl rfl (fun g8_7 p8_7 => ?_) (fun g8_7 p8_7 => ?_)
        | refine gsplitB 7 rfl rfl (fun g8_7 p8_7 => ?_) (fun g8_7 p8_7 => ?_)
      · first
          | refine y1 rfl rfl g8_7 rfl (lop_fieldAddr_rf (fo := 0) rfl Try.underlying26 rfl rfl Try.sizeOf22 (by decide)) ?_
          | refine y1 rfl rfl g8_7 rfl (lop_fieldAddr_fp (fo := 0) rfl Try.underlying26 rfl rfl Try.sizeOf22 (by decide) rfl) ?_
        first
          | refine y1 rfl rfl g8_7 rfl (lop_load_rf rfl rfl Try.isAgg22 rfl) ?_
          | refine y1 rfl rfl g8_7 rfl (lop_load_fp rfl Try.isAgg22 rfl) ?_
        refine y1 rfl rfl g8_7 rfl (lop_move (v := .int _ _) rfl) ?_
        first
          | refine y1 rfl rfl g8_7 rfl (lop_indexAddr_os rfl rfl Try.underlying22 Try.sizeOf39 rfl h_t25) ?_
          | refine y1 rfl rfl g8_7 rfl (lop_indexAddr_sl rfl rfl Try.underlying22 Try.sizeOf39 rfl h_t25 (flat_at VolD.len h_t25) (flat_ne VolD.len (by decide) h_t25)) ?_
        first
          | refine y1 rfl rfl g8_7 rfl (lop_fieldAddr_rf (fo := 3) rfl Try.underlying39 rfl rfl Try.sizeOf3 (by decide)) ?_
          | refine y1 rfl rfl g8_7 rfl (lop_fieldAddr_fp (fo := 3) rfl Try.underlying39 rfl rfl Try.sizeOf3 (by decide) rfl) ?_
        first
          | refine y1 rfl rfl g8_7 rfl (lop_load_rf rfl rfl Try.isAgg3 rfl) ?_
          | refine y1 rfl rfl g8_7 rfl (lop_load_fp rfl Try.isAgg3 rfl) ?_
        refine y1 rfl rfl g8_7 rfl (lop_gtr rfl rfl) ?_
        first
          | refine s1 rfl (lop_pick_t (v := .bool _) rfl g8_7 rfl) ?_
          | refine s1 rfl (lop_pick_t (v := .bool _) rfl rfl rfl) ?_
          | refine s1 rfl (lop_pick_f (v := .bool _) rfl rfl rfl) ?_
          | refine s1 rfl (lop_pick rfl rfl rfl) ?_
        refine ops_nil ?_
        first
          | refine ok_if _ rfl rfl (fun h_t43 => ?_) (fun h_t43 => ?_)
          | refine ok_cond rfl rfl (fun h_t43 => ?_) (fun h_t43 => ?_)
        · exact absurd (hlock x.vols[i] (List.getElem_mem h_t25)) (by unfold lockP; simp_all)
        · refine ok_skip ?_
          refine ok_region ?_
          refine s1 rfl (lop_move (v := .int _ _) rfl) ?_
          refine s1 rfl (lop_bop rfl rfl rfl (bop_add (by omega) (by omega))) ?_
          refine s1 rfl (lop_assign (v := .int _ _) rfl) ?_
          refine ops_nil ?_
          exact ⟨⟨i + 1, by omega⟩, by simp only; omega, le_mk ⟨rfl, rfl, rfl, rfl, trivial⟩ ⟨.inr rfl, trivial⟩ rfl⟩
      · refine n1 rfl rfl g8_7 ?_
        refine n1 rfl rfl g8_7 ?_
        refine n1 rfl rfl g8_7 ?_
        refine n1 rfl rfl g8_7 ?_
        refine n1 rfl rfl g8_7 ?_
        refine n1 rfl rfl g8_7 ?_
        refine n1 rfl rfl g8_7 ?_
        first
          | refine s1 rfl (lop_pick_f (v := .bool _) rfl g8_7 rfl) ?_
          | refine s1 rfl (lop_pick_t (v := .bool _) rfl rfl rfl) ?_
          | refine s1 rfl (lop_pick_f (v := .bool _) rfl rfl rfl) ?_
          | refine s1 rfl (lop_pick rfl rfl rfl) ?_
        refine ops_nil ?_
        refine ok_false rfl rfl ?_
        refine ok_skip ?_
        refine ok_region ?_
        refine s1 rfl (lop_move (v := .int _ _) rfl) ?_
        refine s1 rfl (lop_bop rfl rfl rfl (bop_add (by omega) (by omega))) ?_
        refine s1 rfl (lop_assign (v := .int _ _) rfl) ?_
        refine ops_nil ?_
        exact ⟨⟨i + 1, by omega⟩, by simp only; omega, le_mk ⟨rfl, rfl, rfl, rfl, trivial⟩ ⟨.inr rfl, trivial⟩ rfl⟩
    · refine ok_exit ?_
      refine ok_seq ?_
      refine ok_reg ?_
      refine s1 rfl (lop_assign (v := .int _ _) rfl) ?_
      refine ops_nil ?_
      refine ok_block ?_
      refine ok_loop (ι := {i : Nat // i ≤ l.length}) (fun i => ⟨[(1, rowOf InvD.enc l), (3, .rf 3 0), (7, .bool true), (10, i64 i.1)], [(3, some (true, x.enc))], 78⟩) (fun i => l.length - i.1) (⟨0, Nat.zero_le _⟩) ?_ ?_
      · exact le_mk ⟨rfl, rfl, rfl, rfl, trivial⟩ ⟨.inr rfl, trivial⟩ rfl
      rintro ⟨i, hi⟩
      dsimp only
      refine ok_seq ?_
      refine ok_reg ?_
      refine s1 rfl (lop_move (v := .int _ _) rfl) ?_
      first
        | refine s1 rfl (lop_move (v := .sl _ _) rfl) ?_
        | refine s1 rfl (lop_move (v := .os _ _ _ _) rfl) ?_
        | refine s1 rfl (lop_move (v := .z0) rfl) ?_
      refine s1 rfl (lop_len rfl Try.underlying27 ⟨⟨_, rfl⟩, rfl⟩) ?_
      refine s1 rfl (lop_lss rfl rfl) ?_
      refine ops_nil ?_
      first
        | refine ok_if _ rfl rfl (fun h_t47 => ?_) (fun h_t47 => ?_)
        | refine ok_cond rfl rfl (fun h_t47 => ?_) (fun h_t47 => ?_)
      · have h_t47 : i < l.length := Int.ofNat_lt.1 h_t47
        have hkl := hl.2 l[i] (List.getElem_mem h_t47)
        refine ok_skip ?_
        refine ok_seq ?_
        refine ok_block ?_
        refine ok_reg ?_
        refine s1 rfl (lop_assign (v := .int _ _) rfl) ?_
        refine ops_nil ?_
        refine ok_block ?_
        refine ok_loop (ι := {k : Nat // k ≤ l[i].keys.length}) (fun k => ⟨[(1, rowOf InvD.enc l), (3, .rf 3 0), (7, .bool true), (10, i64 i), (11, i64 k.1)], [(3, some (true, x.enc))], 78⟩) (fun k => l[i].keys.length - k.1) (⟨0, Nat.zero_le _⟩) ?_ ?_
        · exact le_mk ⟨rfl, rfl, rfl, rfl, rfl, trivial⟩ ⟨.inr rfl, trivial⟩ rfl
        rintro ⟨k, hk⟩
        dsimp only
        refine ok_seq ?_
        refine ok_reg ?_
        refine s1 rfl (lop_move (v := .int _ _) rfl) ?_
        first
          | refine s1 rfl (lop_move (v := .sl _ _) rfl) ?_
          | refine s1 rfl (lop_move (v := .os _ _ _ _) rfl) ?_
          | refine s1 rfl (lop_move (v := .z0) rfl) ?_
        refine s1 rfl (lop_move (v := .int _ _) rfl) ?_
        first
          | refine s1 rfl (lop_indexAddr_os rfl rfl Try.underlying27 Try.sizeOf44 rfl h_t47) ?_
          | refine s1 rfl (lop_indexAddr_sl rfl rfl Try.underlying27 Try.sizeOf44 rfl h_t47 (flat_at InvD.len h_t47) (flat_ne InvD.len (by decide) h_t47)) ?_
        first
          | refine s1 rfl (lop_fieldAddr_rf (fo := 3) rfl Try.underlying44 rfl rfl Try.sizeOf42 (by decide)) ?_
          | refine s1 rfl (lop_fieldAddr_fp (fo := 3) rfl Try.underlying44 rfl rfl Try.sizeOf42 (by decide) rfl) ?_
        first
          | refine s1 rfl (lop_load_rf rfl rfl Try.isAgg42 rfl) ?_
          | refine s1 rfl (lop_load_fp rfl Try.isAgg42 rfl) ?_
        refine s1 rfl (lop_len rfl Try.underlying42 ⟨⟨_, rfl⟩, rfl⟩) ?_
        refine s1 rfl (lop_lss rfl rfl) ?_
        refine s1 rfl (lop_move (v := .bool _) rfl) ?_
        first
          | refine gsplitP 8 rfl rfl (fun g14_8 p14_8 => ?_) (fun g14_8 p14_8 => ?_)
          | refine gsplitB 8 rfl rfl (fun g14_8 p14_8 => ?_) (fun g14_8 p14_8 => ?_)
        · have hkk : k < l[i].keys.length := Int.ofNat_lt.1 p14_8
          first
            | refine y1 rfl rfl g14_8 rfl (lop_move (v := .sl _ _) rfl) ?_
            | refine y1 rfl rfl g14_8 rfl (lop_move (v := .os _ _ _ _) rfl) ?_
            | refine y1 rfl rfl g14_8 rfl (lop_move (v := .z0) rfl) ?_
          refine y1 rfl rfl g14_8 rfl (lop_move (v := .int _ _) rfl) ?_
          first
            | refine y1 rfl rfl g14_8 rfl (lop_indexAddr_os rfl rfl Try.underlying27 Try.sizeOf44 rfl h_t47) ?_
            | refine y1 rfl rfl g14_8 rfl (lop_indexAddr_sl rfl rfl Try.underlying27 Try.sizeOf44 rfl h_t47 (flat_at InvD.len h_t47) (flat_ne InvD.len (by decide) h_t47)) ?_
          first
            | refine y1 rfl rfl g14_8 rfl (lop_fieldAddr_rf (fo := 2) rfl Try.underlying44 rfl rfl Try.sizeOf4 (by decide)) ?_
            | refine y1 rfl rfl g14_8 rfl (lop_fieldAddr_fp (fo := 2) rfl Try.underlying44 rfl rfl Try.sizeOf4 (by decide) rfl) ?_
          first
            | refine y1 rfl rfl g14_8 rfl (lop_load_rf rfl rfl Try.isAgg4 rfl) ?_
            | refine y1 rfl rfl g14_8 rfl (lop_load_fp rfl Try.isAgg4 rfl) ?_
          first
            | refine s1 rfl (lop_pick_t (v := .bool _) rfl g14_8 rfl) ?_
            | refine s1 rfl (lop_pick_t (v := .bool _) rfl rfl rfl) ?_
            | refine s1 rfl (lop_pick_f (v := .bool _) rfl rfl rfl) ?_
            | refine s1 rfl (lop_pick rfl rfl rfl) ?_
          refine ops_nil ?_
          first
            | refine ok_if _ rfl rfl (fun h_t64 => ?_) (fun h_t64 => ?_)
            | refine ok_cond rfl rfl (fun h_t64 => ?_) (fun h_t64 => ?_)
          · refine ok_skip ?_
            refine ok_seq ?_
            refine ok_block ?_
            refine ok_drw Try.mixed ?_
            first
              | refine d1 rfl rfl (lop_load_rf_agg (ys := [_, _, _]) rfl rfl Try.isAgg26 Try.sizeOf26 (Nat.le_of_ble_eq_true rfl) rfl) ?_
              | refine d1 rfl rfl (lop_load_fp_agg (ys := [_, _, _]) rfl Try.isAgg26 Try.sizeOf26 (Nat.le_of_ble_eq_true rfl) rfl) ?_
            first
              | refine d1 rfl rfl (lop_move (v := .sl _ _) rfl) ?_
              | refine d1 rfl rfl (lop_move (v := .os _ _ _ _) rfl) ?_
              | refine d1 rfl rfl (lop_move (v := .z0) rfl) ?_
            refine d1 rfl rfl (lop_move (v := .int _ _) rfl) ?_
            first
              | refine d1 rfl rfl (lop_indexAddr_os rfl rfl Try.underlying27 Try.sizeOf44 rfl h_t47) ?_
              | refine d1 rfl rfl (lop_indexAddr_sl rfl rfl Try.underlying27 Try.sizeOf44 rfl h_t47 (flat_at InvD.len h_t47) (flat_ne InvD.len (by decide) h_t47)) ?_
            first
              | refine d1 rfl rfl (lop_fieldAddr_rf (fo := 3) rfl Try.underlying44 rfl rfl Try.sizeOf42 (by decide)) ?_
              | refine d1 rfl rfl (lop_fieldAddr_fp (fo := 3) rfl Try.underlying44 rfl rfl Try.sizeOf42 (by decide) rfl) ?_
            first
              | refine d1 rfl rfl (lop_load_rf rfl rfl Try.isAgg42 rfl) ?_
              | refine d1 rfl rfl (lop_load_fp rfl Try.isAgg42 rfl) ?_
            refine d1 rfl rfl (lop_move (v := .int _ _) rfl) ?_
            first
              | refine d1 rfl rfl (lop_indexAddr_os rfl rfl Try.underlying42 Try.sizeOf32 rfl hkk) ?_
              | refine d1 rfl rfl (lop_indexAddr_sl rfl rfl Try.underlying42 Try.sizeOf32 rfl hkk (flat_at KeyD.len hkk) (flat_ne KeyD.len (by decide) hkk)) ?_
            first
              | refine d1 rfl rfl (lop_load_rf_agg rfl rfl Try.isAgg32 Try.sizeOf32 (by rw [List.length_append, KeyD.len]; omega) (by rw [List.take_append_of_le_length (by rw [KeyD.len]; omega), List.take_of_length_le (by rw [KeyD.len]; omega)])) ?_
              | refine d1 rfl rfl (lop_load_fp_agg rfl Try.isAgg32 Try.sizeOf32 (by rw [List.length_append, KeyD.len]; omega) (by rw [List.take_append_of_le_length (by rw [KeyD.len]; omega), List.take_of_length_le (by rw [KeyD.len]; omega)])) ?_
            refine d1 rfl rfl (lop_call rfl Try.call13 (FrzL.tf rfl) (.inl rfl) (plan_Old_ac x hx l[i].keys[k])) ?_
            refine dr_nil (by kernel_rfl) ?_
            first
              | refine ok_if _ rfl rfl (fun h_t76 => ?_) (fun h_t76 => ?_)
              | refine ok_cond rfl rfl (fun h_t76 => ?_) (fun h_t76 => ?_)
            · exact absurd (hdrop l[i] (List.getElem_mem h_t47) l[i].keys[k] (List.getElem_mem hkk)) (by simp_all)
            · refine ok_skip ?_
              refine ok_region ?_
              refine s1 rfl (lop_move (v := .int _ _) rfl) ?_
              refine s1 rfl (lop_bop rfl rfl rfl (bop_add (by omega) (by omega))) ?_
              refine s1 rfl (lop_assign (v := .int _ _) rfl) ?_
              refine ops_nil ?_
              exact ⟨⟨k + 1, by omega⟩, by simp only; omega, le_mk ⟨rfl, rfl, rfl, rfl, rfl, trivial⟩ ⟨.inr rfl, trivial⟩ rfl⟩
          · refine ok_exit ?_
            refine ok_region ?_
            refine s1 rfl (lop_move (v := .int _ _) rfl) ?_
            refine s1 rfl (lop_bop rfl rfl rfl (bop_add (by omega) (by omega))) ?_
            refine s1 rfl (lop_assign (v := .int _ _) rfl) ?_
            refine ops_nil ?_
            exact ⟨⟨i + 1, by omega⟩, by simp only; omega, le_mk ⟨rfl, rfl, rfl, rfl, trivial⟩ ⟨.inr rfl, trivial⟩ rfl⟩
        · refine n1 rfl rfl g14_8 ?_
          refine n1 rfl rfl g14_8 ?_
          refine n1 rfl rfl g14_8 ?_
          refine n1 rfl rfl g14_8 ?_
          refine n1 rfl rfl g14_8 ?_
          first
            | refine s1 rfl (lop_pick_f (v := .bool _) rfl g14_8 rfl) ?_
            | refine s1 rfl (lop_pick_t (v := .bool _) rfl rfl rfl) ?_
            | refine s1 rfl (lop_pick_f (v := .bool _) rfl rfl rfl) ?_
            | refine s1 rfl (lop_pick rfl rfl rfl) ?_
          refine ops_nil ?_
          refine ok_false rfl rfl ?_
          refine ok_exit ?_
          refine ok_region ?_
          refine s1 rfl (lop_move (v := .int _ _) rfl) ?_
          refine s1 rfl (lop_bop rfl rfl rfl (bop_add (by omega) (by omega))) ?_
          refine s1 rfl (lop_assign (v := .int _ _) rfl) ?_
          refine ops_nil ?_
          exact ⟨⟨i + 1, by omega⟩, by simp only; omega, le_mk ⟨rfl, rfl, rfl, rfl, trivial⟩ ⟨.inr rfl, trivial⟩ rfl⟩
      · refine ok_exit ?_
        refine ok_reg ?_
        refine s1 rfl (lop_move (v := .bool _) rfl) ?_
        refine s1 rfl (lop_assign (v := .bool _) rfl) ?_
        refine ops_nil ?_
        refine ok_ret ?_
        exact ret_one rfl rfl rfl rfl rfl

end Go.Proofs
