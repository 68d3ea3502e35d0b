/- Chapter 16: walks. Printed by gen.py. -/
import Derived.Test.YtikikdgfebbcmaaE16f
set_option linter.unusedVariables false
set_option linter.unusedSimpArgs false
set_option maxRecDepth 100000
namespace Go.Proofs
open Go.Hg

theorem writeL_get {b : List UInt8} {p : PartD} {i : Nat} (h : withinB p.at_ p.bytes.size b.length = true) (hi : (i : Int) < p.at_ ∨ p.at_ + p.bytes.size ≤ i) : (writeL b p)[i]? = b[i]? := by
  have := within_at h
  unfold writeL
  rcases hi with hi | hi
  · rw [List.append_assoc, List.getElem?_append_left (by rw [List.length_take]; omega), List.getElem?_take_of_lt (by omega)]
  · have e : (b.take p.at_.toNat ++ p.bytes.data.toList).length = p.at_.toNat + p.bytes.size := by rw [List.length_append, List.length_take, data_len]; omega
    rw [List.getElem?_append_right (by rw [e]; omega), List.getElem?_drop, e]
    congr 1
    omega
theorem fold_get {n i : Nat} : ∀ (ps : List PartD) (b : List UInt8), b.length = n → (∀ p ∈ ps, withinB p.at_ p.bytes.size n = true) → (∀ p ∈ ps, (i : Int) < p.at_ ∨ p.at_ + p.bytes.size ≤ i) → (ps.foldl writeL b)[i]? = b[i]?
  | [], _, _, _, _ => rfl
  | p :: ps, b, hb, hw, ho => by
    have h1 : withinB p.at_ p.bytes.size b.length = true := by rw [hb]; exact hw p List.mem_cons_self
    rw [List.foldl_cons, fold_get ps (writeL b p) (by rw [writeL_len h1, hb]) (fun q hq => hw q (List.mem_cons_of_mem _ hq)) (fun q hq => ho q (List.mem_cons_of_mem _ hq)), writeL_get h1 (ho p List.mem_cons_self)]
theorem write_cut {b : List UInt8} {p : PartD} (h : withinB p.at_ p.bytes.size b.length = true) : (ByteArray.mk (writeL b p).toArray).extract p.at_.toNat (p.at_.toNat + p.bytes.size) = p.bytes := by
  have := within_at h
  have e : (b.take p.at_.toNat).length = p.at_.toNat := by rw [List.length_take]; omega
  apply ByteArray.ext
  apply Array.ext'
  simp only [ByteArray.data_extract, Array.toList_extract, List.extract]
  unfold writeL
  rw [show p.at_.toNat + p.bytes.size - p.at_.toNat = p.bytes.size by omega, List.append_assoc, List.drop_append_of_le_length (by omega), List.drop_of_length_le (by omega), List.nil_append, List.take_append_of_le_length (by rw [data_len]; exact Nat.le_refl _), List.take_of_length_le (by rw [data_len]; exact Nat.le_refl _)]
def covS (i : Nat) (s : SpanD) : Bool := decide ((i : Int) ≥ s.off ∧ (i : Int) - s.off < s.n)
theorem ch_sel {ps : List PartD} {s : SpanD} (h : ps.any (selP s) = true) : (chF ps s).at_ = s.off ∧ ((chF ps s).bytes.size : Int) = s.n := by
  have : selP s (chF ps s) = true := by
    unfold chF
    cases hf : ps.find? (selP s) with
    | none =>
      rw [List.find?_eq_none] at hf
      obtain ⟨x, hx, h2⟩ := List.any_eq_true.1 h
      exact absurd h2 (hf x hx)
    | some x => exact List.find?_some hf
  unfold selP at this
  simpa using this
theorem ch_first {ps : List PartD} {s : SpanD} {i : Nat} (hi : i < ps.length) (hn : ∀ j, (h : j < ps.length) → j < i → selP s ps[j] = false) (h : selP s ps[i] = true) : chF ps s = ps[i] := by
  unfold chF
  rw [List.find?_eq_some_iff_getElem.2 ⟨h, i, hi, rfl, fun k hk => by simpa using hn k (by omega) hk⟩]
  rfl
structure FillOk (ss : List SpanD) (ps : List PartD) (S : ByteArray) : Prop where
  eq : fillF ss ps = (S, 0)
  size : S.size = 160
  fit : ∀ s ∈ ss, 0 ≤ s.off ∧ 0 ≤ s.n ∧ s.off + s.n ≤ 160 ∧ ps.any (selP s) = true
  zero : ∀ i : Nat, i < 160 → ss.any (covS i) = false → sb S i = 0
  last : ∀ k, (h : k < ss.length) → k + 1 = ss.length → S.extract ss[k].off.toNat (ss[k].off.toNat + ss[k].n.toNat) = (chF ps ss[k]).bytes
theorem fill_ok {ss : List SpanD} {ps : List PartD} (h : (fillF ss ps).2 = 0) : ∃ S, FillOk ss ps S := by
  have h1 : ss.all (fun s => ps.any (selP s)) = true := by
    unfold fillF at h
    split at h
    · assumption
    · cases h
  have e1 : fillF ss ps = layF 160 (ss.map (chF ps)) := by unfold fillF; rw [if_pos h1]
  rw [List.all_eq_true] at h1
  rw [e1] at h
  have h2 : (ss.map (chF ps)).all (fun p => withinB p.at_ p.bytes.size 160) = true := by
    unfold layF at h
    split at h
    · assumption
    · cases h
  have e2 : layF 160 (ss.map (chF ps)) = (⟨(layB 160 (ss.map (chF ps))).toArray⟩, 0) := by unfold layF; exact if_pos h2
  rw [List.all_eq_true] at h2
  have hlen := layB_len h2
  refine ⟨_, ⟨e1.trans e2, ?_, ?_, ?_, ?_⟩⟩
  · show (layB 160 (ss.map (chF ps))).toArray.size = 160
    simpa using hlen
  · intro s hs
    have h3 := ch_sel (h1 s hs)
    have h4 := within_at (h2 _ (List.mem_map_of_mem hs))
    rw [h3.1, h3.2] at h4
    exact ⟨h4.1, h4.2.1, by omega, h1 s hs⟩
  · intro i hi hc
    rw [List.any_eq_false] at hc
    have h5 : (layB 160 (ss.map (chF ps)))[i]? = (List.replicate 160 (0 : UInt8))[i]? := by
      unfold layB
      refine fold_get _ _ (by simp) h2 (fun p hp => ?_)
      obtain ⟨s, hs, rfl⟩ := List.mem_map.1 hp
      have h3 := ch_sel (h1 s hs)
      have h4 := hc s hs
      unfold covS at h4
      simp only [decide_eq_true_eq] at h4
      rw [h3.1, h3.2]
      omega
    unfold sb
    simp only [List.getD_eq_getElem?_getD, h5]
    rw [List.getElem?_replicate, if_pos hi]
    rfl
  · intro k hk hk1
    have e3 : layB 160 (ss.map (chF ps)) = writeL (layB 160 ((ss.map (chF ps)).take k)) (chF ps ss[k]) := by
      have := layB_succ (n := 160) (ps := ss.map (chF ps)) (i := k) (by rw [List.length_map]; exact hk)
      rw [List.take_of_length_le (by rw [List.length_map]; omega), List.getElem_map] at this
      exact this
    have h3 := ch_sel (h1 ss[k] (List.getElem_mem hk))
    have h6 : (layB 160 ((ss.map (chF ps)).take k)).length = 160 := layB_len (fun p hp => h2 p (List.mem_of_mem_take hp))
    have h7 := h2 _ (List.mem_map_of_mem (List.getElem_mem hk))
    rw [e3, ← h3.1, show ss[k].n.toNat = (chF ps ss[k]).bytes.size by omega]
    exact write_cut (by rw [h6]; exact h7)
theorem any_succ {α : Type} {p : α → Bool} {l : List α} {j : Nat} (h : j < l.length) : (l.take (j + 1)).any p = ((l.take j).any p || p l[j]) := by
  rw [List.take_add_one, List.getElem?_eq_getElem h, List.any_append]
  simp

theorem PlanFills_ac {v : VolD} (hv : v.ok) (hs : ∀ s ∈ v.parts, R64 s.off ∧ R64 s.n) {ps : List PartD} (hp : ps.length ≤ 1048576) : AC Try.prog 6 [.agg v.enc, rowOf PartD.enc ps] (.bool true) := by
  have hvp := hv.parts
  refine AC.intro Try.func6 rfl (Nat.le_of_ble_eq_true rfl) ?_
  refine ok_reg ?_
  first
    | refine s1w rfl (lop_box (t := 2) (v := .agg [.int _ _, .int _ _, .int _ _, .int _ _, .int _ _, _, _, .int _ _, .int _ _]) (f := true) (cs := [.int _ _, .int _ _, .int _ _, .int _ _, .int _ _, _, _, .int _ _, .int _ _]) rfl rfl rfl rfl (fun h => by cases h)) rfl ?_
    | refine s1w rfl (lop_box (t := 2) (v := .agg [.int _ _, .int _ _, .int _ _, .int _ _, .int _ _, _, _, .int _ _, .int _ _]) (f := false) (cs := [.int _ _, .int _ _, .int _ _, .int _ _, .int _ _, _, _, .int _ _, .int _ _]) rfl rfl rfl rfl (fun _ => rfl)) rfl ?_
  refine s1 rfl (lop_assign (v := .bool _) rfl) ?_
  refine ops_nil ?_
  refine ok_reg ?_
  refine s1 rfl (lop_call rfl Try.call9 (FrzL.tf rfl) (.inl rfl) shown_ac) ?_
  refine s1 rfl (lop_assign (v := .bool _) rfl) ?_
  refine ops_nil ?_
  refine ok_reg ?_
  first
    | refine s1 rfl (lop_load_rf_agg (ys := [.int _ _, .int _ _, .int _ _, .int _ _, .int _ _, _, _, .int _ _, .int _ _]) rfl rfl Try.isAgg39 Try.sizeOf39 (Nat.le_of_ble_eq_true rfl) rfl) ?_
    | refine s1 rfl (lop_load_fp_agg (ys := [.int _ _, .int _ _, .int _ _, .int _ _, .int _ _, _, _, .int _ _, .int _ _]) rfl Try.isAgg39 Try.sizeOf39 (Nat.le_of_ble_eq_true rfl) rfl) ?_
  first
    | refine s1 rfl (lop_move (v := .sl _ _) rfl) ?_
    | refine s1 rfl (lop_move (v := .os _ _ _ _) rfl) ?_
    | refine s1 rfl (lop_move (v := .z0) rfl) ?_
  refine s1 rfl (lop_call rfl Try.call15 (FrzL.tf rfl) (.inl rfl) (plan_Fill_ac v hv hp)) ?_
  refine s1 rfl (lop_move (v := .tup _) rfl) ?_
  refine s1 rfl (lop_extract rfl rfl) ?_
  refine s1 rfl (lop_extract rfl rfl) ?_
  refine s1 rfl (lop_assign (v := .str _) rfl) ?_
  refine s1 rfl (lop_assign (v := .int _ _) rfl) ?_
  refine ops_nil ?_
  refine ok_seq ?_
  refine ok_reg ?_
  refine s1 rfl (lop_move (v := .int _ _) rfl) ?_
  refine s1 rfl (lop_neq rfl rfl) ?_
  refine ops_nil ?_
  first
    | refine ok_if _ rfl rfl (fun h_t21 => ?_) (fun h_t21 => ?_)
    | refine ok_cond rfl rfl (fun h_t21 => ?_) (fun h_t21 => ?_)
  · refine ok_reg ?_
    refine s1 rfl (lop_move (v := .bool _) rfl) ?_
    refine s1 rfl (lop_assign (v := .bool _) rfl) ?_
    refine ops_nil ?_
    refine ok_ret ?_
    exact ret_one rfl rfl rfl rfl rfl
  · obtain ⟨S, hS⟩ := fill_ok (Decidable.byContradiction h_t21)
    rw [hS.eq]
    have hsz := hS.size
    refine ok_skip ?_
    refine ok_seq ?_
    refine ok_reg ?_
    refine s1 rfl (lop_move (v := .str _) rfl) ?_
    refine s1 rfl (lop_len rfl Try.underlying9 ⟨rfl, rfl⟩) ?_
    refine s1 rfl (lop_neq rfl rfl) ?_
    refine ops_nil ?_
    first
      | refine ok_if _ rfl rfl (fun h_t25 => ?_) (fun h_t25 => ?_)
      | refine ok_cond rfl rfl (fun h_t25 => ?_) (fun h_t25 => ?_)
    · exact absurd (congrArg Int.ofNat hsz) h_t25
    · refine ok_skip ?_
      refine ok_seq ?_
      refine ok_reg ?_
      refine s1 rfl (lop_assign (v := .int _ _) rfl) ?_
      refine ops_nil ?_
      refine ok_block ?_
      refine ok_loop (ι := {i : Nat // i ≤ 160}) (fun i => ⟨[(1, rowOf PartD.enc ps), (2, .rf 2 0), (5, .bool true), (6, .str S), (8, i64 i.1)], [(2, some (true, v.enc))], 129⟩) (fun i => 160 - i.1) (⟨0, Nat.zero_le _⟩) ?_ ?_
      · exact le_mk ⟨rfl, rfl, rfl, rfl, rfl, trivial⟩ ⟨.inr rfl, trivial⟩ rfl
      rintro ⟨i, hi⟩
      dsimp only
      refine ok_seq ?_
      refine ok_reg ?_
      refine s1 rfl (lop_move (v := .int _ _) rfl) ?_
      refine s1 rfl (lop_lss rfl rfl) ?_
      refine ops_nil ?_
      first
        | refine ok_if _ rfl rfl (fun h_t27 => ?_) (fun h_t27 => ?_)
        | refine ok_cond rfl rfl (fun h_t27 => ?_) (fun h_t27 => ?_)
      · have hi1 : i < 160 := by omega
        refine ok_skip ?_
        refine ok_seq ?_
        refine ok_block ?_
        refine ok_reg ?_
        refine s1 rfl (lop_assign (v := .bool _) rfl) ?_
        refine ops_nil ?_
        refine ok_seq ?_
        refine ok_reg ?_
        refine s1 rfl (lop_assign (v := .int _ _) rfl) ?_
        refine ops_nil ?_
        refine ok_block ?_
        refine ok_loop (ι := {j : Nat // j ≤ v.parts.length}) (fun j => ⟨[(1, rowOf PartD.enc ps), (2, .rf 2 0), (5, .bool true), (6, .str S), (8, i64 i), (9, .bool ((v.parts.take j.1).any (covS i))), (10, i64 j.1)], [(2, some (true, v.enc))], 129⟩) (fun j => v.parts.length - j.1) (⟨0, Nat.zero_le _⟩) ?_ ?_
        · exact le_mk ⟨rfl, rfl, rfl, rfl, rfl, rfl, rfl, trivial⟩ ⟨.inr rfl, trivial⟩ rfl
        rintro ⟨j, hj0⟩
        dsimp only
        refine ok_seq ?_
        refine ok_reg ?_
        refine s1 rfl (lop_move (v := .int _ _) rfl) ?_
        first
          | refine s1 rfl (lop_fieldAddr_rf (fo := 5) rfl Try.underlying39 rfl rfl Try.sizeOf37 (by decide)) ?_
          | refine s1 rfl (lop_fieldAddr_fp (fo := 5) rfl Try.underlying39 rfl rfl Try.sizeOf37 (by decide) rfl) ?_
        first
          | refine s1 rfl (lop_load_rf rfl rfl Try.isAgg37 rfl) ?_
          | refine s1 rfl (lop_load_fp rfl Try.isAgg37 rfl) ?_
        refine s1 rfl (lop_len rfl Try.underlying37 ⟨⟨_, rfl⟩, rfl⟩) ?_
        refine s1 rfl (lop_lss rfl rfl) ?_
        refine ops_nil ?_
        first
          | refine ok_if _ rfl rfl (fun h_t34 => ?_) (fun h_t34 => ?_)
          | refine ok_cond rfl rfl (fun h_t34 => ?_) (fun h_t34 => ?_)
        · have hj : j < v.parts.length := by omega
          refine ok_skip ?_
          refine ok_seq ?_
          refine ok_block ?_
          refine ok_draw Try.mixed ?_
          refine d1 rfl rfl (lop_move (v := .bool _) rfl) ?_
          refine d1 rfl rfl (lop_move (v := .bool _) rfl) ?_
          first
            | refine dsplitP 1 rfl rfl (fun g14_1 p14_1 => ?_) (fun g14_1 p14_1 => ?_)
            | refine dsplitB 1 rfl rfl (fun g14_1 p14_1 => ?_) (fun g14_1 p14_1 => ?_)
          · refine dn1 rfl rfl g14_1 rfl ?_
            refine dn1 rfl rfl g14_1 rfl ?_
            refine dn1 rfl rfl g14_1 rfl ?_
            refine dn1 rfl rfl g14_1 rfl ?_
            refine dn1 rfl rfl g14_1 rfl ?_
            refine dn1 rfl rfl g14_1 rfl ?_
            refine dn1 rfl rfl g14_1 rfl ?_
            refine dn1 rfl rfl g14_1 rfl ?_
            refine dp1 rfl (.inr (congrArg V.bool g14_1)) rfl rfl ?_
            refine dp1 rfl (.inl rfl) rfl rfl ?_
            refine dp1 rfl (.inl rfl) rfl rfl ?_
            refine dp1 rfl (.inl rfl) rfl rfl ?_
            refine dp1 rfl (.inl rfl) rfl rfl ?_
            refine dp1 rfl (.inl rfl) rfl rfl ?_
            refine dp1 rfl (.inl rfl) rfl rfl ?_
            refine dp1 rfl (.inl rfl) rfl rfl ?_
            refine dp1 rfl (.inl rfl) rfl rfl ?_
            refine dp1 rfl (.inl rfl) rfl rfl ?_
            refine dp1 rfl (.inl rfl) rfl rfl ?_
            refine dp1 rfl (.inl rfl) rfl rfl ?_
            refine dp1 rfl (.inl rfl) rfl rfl ?_
            refine dp1 rfl (.inl rfl) rfl rfl ?_
            refine dp1 rfl (.inl rfl) rfl rfl ?_
            refine dp1 rfl (.inl rfl) rfl rfl ?_
            refine dn1 rfl rfl g14_1 rfl ?_
            first
              | refine d1 rfl rfl (lop_pick_t (v := .bool _) rfl g14_1 rfl) ?_
              | refine d1 rfl rfl (lop_pick_f (v := .bool _) rfl undef rfl) ?_
              | refine d1 rfl rfl (lop_pick_f (v := .bool _) rfl undef rfl) ?_
              | refine d1 rfl rfl (lop_pick_f (v := .bool _) rfl undef rfl) ?_
              | refine d1 rfl rfl (lop_pick_f (v := .bool _) rfl undef rfl) ?_
              | refine d1 rfl rfl (lop_pick_f (v := .bool _) rfl undef rfl) ?_
              | refine d1 rfl rfl (lop_pick_f (v := .bool _) rfl undef rfl) ?_
              | refine d1 rfl rfl (lop_pick_f (v := .bool _) rfl undef rfl) ?_
              | refine d1 rfl rfl (lop_pick_f (v := .bool _) rfl undef rfl) ?_
              | refine d1 rfl rfl (lop_pick_f (v := .bool _) rfl undef rfl) ?_
              | refine d1 rfl rfl (lop_pick_f (v := .bool _) rfl undef rfl) ?_
              | refine d1 rfl rfl (lop_pick_f (v := .bool _) rfl undef rfl) ?_
              | refine d1 rfl rfl (lop_pick_f (v := .bool _) rfl undef rfl) ?_
              | refine d1 rfl rfl (lop_pick_f (v := .bool _) rfl undef rfl) ?_
              | refine d1 rfl rfl (lop_pick_f (v := .bool _) rfl undef rfl) ?_
              | refine d1 rfl rfl (lop_pick_f (v := .bool _) rfl undef rfl) ?_
              | refine d1 rfl rfl (lop_pick_f (v := .bool _) rfl undef rfl) ?_
              | refine d1 rfl rfl (lop_pick_t (v := .bool _) rfl rfl rfl) ?_
              | refine d1 rfl rfl (lop_pick_f (v := .bool _) rfl rfl rfl) ?_
              | refine d1 rfl rfl (lop_pick rfl rfl rfl) ?_
            refine d1 rfl rfl (lop_assign (v := .bool _) rfl) ?_
            refine dr_nil (by kernel_rfl) ?_
            refine ok_region ?_
            refine s1 rfl (lop_move (v := .int _ _) rfl) ?_
            refine s1 rfl (lop_bop rfl rfl rfl (bop_add (by omega) (by omega))) ?_
            refine s1 rfl (lop_assign (v := .int _ _) rfl) ?_
            refine ops_nil ?_
            exact ⟨⟨j + 1, by omega⟩, by simp only; omega, le_mk ⟨rfl, rfl, rfl, rfl, rfl, congrArg V.bool (by rw [any_succ hj]; first | (rw [g14_1]; rfl) | (rw [g14_1, Bool.false_or]; exact decide_eq_decide.2 (by omega)) | (rw [g14_1, Bool.false_or]; exact (decide_eq_false (by omega)).symm)), rfl, trivial⟩ ⟨.inr rfl, trivial⟩ rfl⟩
          · refine dy1 rfl rfl g14_1 rfl rfl (lop_move (v := .int _ _) rfl) ?_
            first
              | refine dy1 rfl rfl g14_1 rfl rfl (lop_fieldAddr_rf (fo := 5) rfl Try.underlying39 rfl rfl Try.sizeOf37 (by decide)) ?_
              | refine dy1 rfl rfl g14_1 rfl rfl (lop_fieldAddr_fp (fo := 5) rfl Try.underlying39 rfl rfl Try.sizeOf37 (by decide) rfl) ?_
            first
              | refine dy1 rfl rfl g14_1 rfl rfl (lop_load_rf rfl rfl Try.isAgg37 rfl) ?_
              | refine dy1 rfl rfl g14_1 rfl rfl (lop_load_fp rfl Try.isAgg37 rfl) ?_
            refine dy1 rfl rfl g14_1 rfl rfl (lop_move (v := .int _ _) rfl) ?_
            first
              | refine dy1 rfl rfl g14_1 rfl rfl (lop_indexAddr_os rfl rfl Try.underlying37 Try.sizeOf60 rfl hj) ?_
              | refine dy1 rfl rfl g14_1 rfl rfl (lop_indexAddr_sl rfl rfl Try.underlying37 Try.sizeOf60 rfl hj (flat_at SpanD.len hj) (flat_ne SpanD.len (by decide) hj)) ?_
            first
              | refine dy1 rfl rfl g14_1 rfl rfl (lop_fieldAddr_rf (fo := 0) rfl Try.underlying60 rfl rfl Try.sizeOf3 (by decide)) ?_
              | refine dy1 rfl rfl g14_1 rfl rfl (lop_fieldAddr_fp (fo := 0) rfl Try.underlying60 rfl rfl Try.sizeOf3 (by decide) rfl) ?_
            first
              | refine dy1 rfl rfl g14_1 rfl rfl (lop_load_rf rfl rfl Try.isAgg3 rfl) ?_
              | refine dy1 rfl rfl g14_1 rfl rfl (lop_load_fp rfl Try.isAgg3 rfl) ?_
            refine dy1 rfl rfl g14_1 rfl rfl (lop_geq rfl rfl) ?_
            refine dy1 rfl rfl g14_1 rfl rfl (lop_move (v := .bool _) rfl) ?_
            first
              | refine dsplitP 10 rfl rfl (fun g14_10 p14_10 => ?_) (fun g14_10 p14_10 => ?_)
              | refine dsplitB 10 rfl rfl (fun g14_10 p14_10 => ?_) (fun g14_10 p14_10 => ?_)
            · have hf := hS.fit v.parts[j] (List.getElem_mem hj)
              refine dy1 rfl rfl g14_10 rfl rfl (lop_move (v := .int _ _) rfl) ?_
              first
                | refine dy1 rfl rfl g14_10 rfl rfl (lop_fieldAddr_rf (fo := 5) rfl Try.underlying39 rfl rfl Try.sizeOf37 (by decide)) ?_
                | refine dy1 rfl rfl g14_10 rfl rfl (lop_fieldAddr_fp (fo := 5) rfl Try.underlying39 rfl rfl Try.sizeOf37 (by decide) rfl) ?_
              first
                | refine dy1 rfl rfl g14_10 rfl rfl (lop_load_rf rfl rfl Try.isAgg37 rfl) ?_
                | refine dy1 rfl rfl g14_10 rfl rfl (lop_load_fp rfl Try.isAgg37 rfl) ?_
              refine dy1 rfl rfl g14_10 rfl rfl (lop_move (v := .int _ _) rfl) ?_
              first
                | refine dy1 rfl rfl g14_10 rfl rfl (lop_indexAddr_os rfl rfl Try.underlying37 Try.sizeOf60 rfl hj) ?_
                | refine dy1 rfl rfl g14_10 rfl rfl (lop_indexAddr_sl rfl rfl Try.underlying37 Try.sizeOf60 rfl hj (flat_at SpanD.len hj) (flat_ne SpanD.len (by decide) hj)) ?_
              first
                | refine dy1 rfl rfl g14_10 rfl rfl (lop_fieldAddr_rf (fo := 0) rfl Try.underlying60 rfl rfl Try.sizeOf3 (by decide)) ?_
                | refine dy1 rfl rfl g14_10 rfl rfl (lop_fieldAddr_fp (fo := 0) rfl Try.underlying60 rfl rfl Try.sizeOf3 (by decide) rfl) ?_
              first
                | refine dy1 rfl rfl g14_10 rfl rfl (lop_load_rf rfl rfl Try.isAgg3 rfl) ?_
                | refine dy1 rfl rfl g14_10 rfl rfl (lop_load_fp rfl Try.isAgg3 rfl) ?_
              refine dy1 rfl rfl g14_10 rfl rfl (lop_bop rfl rfl rfl (bop_sub (by omega) (by omega))) ?_
              first
                | refine dy1 rfl rfl g14_10 rfl rfl (lop_fieldAddr_rf (fo := 5) rfl Try.underlying39 rfl rfl Try.sizeOf37 (by decide)) ?_
                | refine dy1 rfl rfl g14_10 rfl rfl (lop_fieldAddr_fp (fo := 5) rfl Try.underlying39 rfl rfl Try.sizeOf37 (by decide) rfl) ?_
              first
                | refine dy1 rfl rfl g14_10 rfl rfl (lop_load_rf rfl rfl Try.isAgg37 rfl) ?_
                | refine dy1 rfl rfl g14_10 rfl rfl (lop_load_fp rfl Try.isAgg37 rfl) ?_
              refine dy1 rfl rfl g14_10 rfl rfl (lop_move (v := .int _ _) rfl) ?_
              first
                | refine dy1 rfl rfl g14_10 rfl rfl (lop_indexAddr_os rfl rfl Try.underlying37 Try.sizeOf60 rfl hj) ?_
                | refine dy1 rfl rfl g14_10 rfl rfl (lop_indexAddr_sl rfl rfl Try.underlying37 Try.sizeOf60 rfl hj (flat_at SpanD.len hj) (flat_ne SpanD.len (by decide) hj)) ?_
              first
                | refine dy1 rfl rfl g14_10 rfl rfl (lop_fieldAddr_rf (fo := 1) rfl Try.underlying60 rfl rfl Try.sizeOf3 (by decide)) ?_
                | refine dy1 rfl rfl g14_10 rfl rfl (lop_fieldAddr_fp (fo := 1) rfl Try.underlying60 rfl rfl Try.sizeOf3 (by decide) rfl) ?_
              first
                | refine dy1 rfl rfl g14_10 rfl rfl (lop_load_rf rfl rfl Try.isAgg3 rfl) ?_
                | refine dy1 rfl rfl g14_10 rfl rfl (lop_load_fp rfl Try.isAgg3 rfl) ?_
              refine dy1 rfl rfl g14_10 rfl rfl (lop_lss rfl rfl) ?_
              first
                | refine dy1 rfl rfl g14_1 rfl rfl (lop_pick_f (v := .bool _) rfl g14_1 rfl) ?_
                | refine dy1 rfl rfl g14_1 rfl rfl (lop_pick_t (v := .bool _) rfl g14_10 rfl) ?_
                | refine dy1 rfl rfl g14_1 rfl rfl (lop_pick_t (v := .bool _) rfl rfl rfl) ?_
                | refine dy1 rfl rfl g14_1 rfl rfl (lop_pick_f (v := .bool _) rfl rfl rfl) ?_
                | refine dy1 rfl rfl g14_1 rfl rfl (lop_pick rfl rfl rfl) ?_
              first
                | refine d1 rfl rfl (lop_pick_f (v := .bool _) rfl g14_1 rfl) ?_
                | refine d1 rfl rfl (lop_pick_t (v := .bool _) rfl g14_10 rfl) ?_
                | refine d1 rfl rfl (lop_pick_t (v := .bool _) rfl rfl rfl) ?_
                | refine d1 rfl rfl (lop_pick_f (v := .bool _) rfl rfl rfl) ?_
                | refine d1 rfl rfl (lop_pick rfl rfl rfl) ?_
              refine d1 rfl rfl (lop_assign (v := .bool _) rfl) ?_
              refine dr_nil (by kernel_rfl) ?_
              refine ok_region ?_
              refine s1 rfl (lop_move (v := .int _ _) rfl) ?_
              refine s1 rfl (lop_bop rfl rfl rfl (bop_add (by omega) (by omega))) ?_
              refine s1 rfl (lop_assign (v := .int _ _) rfl) ?_
              refine ops_nil ?_
              exact ⟨⟨j + 1, by omega⟩, by simp only; omega, le_mk ⟨rfl, rfl, rfl, rfl, rfl, congrArg V.bool (by rw [any_succ hj]; first | (rw [g14_1]; rfl) | (rw [g14_1, Bool.false_or]; exact decide_eq_decide.2 (by omega)) | (rw [g14_1, Bool.false_or]; exact (decide_eq_false (by omega)).symm)), rfl, trivial⟩ ⟨.inr rfl, trivial⟩ rfl⟩
            · refine dn1 rfl rfl g14_10 rfl ?_
              refine dn1 rfl rfl g14_10 rfl ?_
              refine dn1 rfl rfl g14_10 rfl ?_
              refine dn1 rfl rfl g14_10 rfl ?_
              refine dn1 rfl rfl g14_10 rfl ?_
              refine dn1 rfl rfl g14_10 rfl ?_
              refine dn1 rfl rfl g14_10 rfl ?_
              refine dn1 rfl rfl g14_10 rfl ?_
              refine dn1 rfl rfl g14_10 rfl ?_
              refine dn1 rfl rfl g14_10 rfl ?_
              refine dn1 rfl rfl g14_10 rfl ?_
              refine dn1 rfl rfl g14_10 rfl ?_
              refine dn1 rfl rfl g14_10 rfl ?_
              refine dn1 rfl rfl g14_10 rfl ?_
              refine dn1 rfl rfl g14_10 rfl ?_
              first
                | refine dy1 rfl rfl g14_1 rfl rfl (lop_pick_f (v := .bool _) rfl g14_1 rfl) ?_
                | refine dy1 rfl rfl g14_1 rfl rfl (lop_pick_f (v := .bool _) rfl g14_10 rfl) ?_
                | refine dy1 rfl rfl g14_1 rfl rfl (lop_pick_t (v := .bool _) rfl rfl rfl) ?_
                | refine dy1 rfl rfl g14_1 rfl rfl (lop_pick_f (v := .bool _) rfl rfl rfl) ?_
                | refine dy1 rfl rfl g14_1 rfl rfl (lop_pick rfl rfl rfl) ?_
              first
                | refine d1 rfl rfl (lop_pick_f (v := .bool _) rfl g14_1 rfl) ?_
                | refine d1 rfl rfl (lop_pick_f (v := .bool _) rfl g14_10 rfl) ?_
                | refine d1 rfl rfl (lop_pick_t (v := .bool _) rfl rfl rfl) ?_
                | refine d1 rfl rfl (lop_pick_f (v := .bool _) rfl rfl rfl) ?_
                | refine d1 rfl rfl (lop_pick rfl rfl rfl) ?_
              refine d1 rfl rfl (lop_assign (v := .bool _) rfl) ?_
              refine dr_nil (by kernel_rfl) ?_
              refine ok_region ?_
              refine s1 rfl (lop_move (v := .int _ _) rfl) ?_
              refine s1 rfl (lop_bop rfl rfl rfl (bop_add (by omega) (by omega))) ?_
              refine s1 rfl (lop_assign (v := .int _ _) rfl) ?_
              refine ops_nil ?_
              exact ⟨⟨j + 1, by omega⟩, by simp only; omega, le_mk ⟨rfl, rfl, rfl, rfl, rfl, congrArg V.bool (by rw [any_succ hj]; first | (rw [g14_1]; rfl) | (rw [g14_1, Bool.false_or]; exact decide_eq_decide.2 (by omega)) | (rw [g14_1, Bool.false_or]; exact (decide_eq_false (by omega)).symm)), rfl, trivial⟩ ⟨.inr rfl, trivial⟩ rfl⟩
        · refine ok_exit ?_
          refine ok_reg ?_
          refine s1 rfl (lop_move (v := .bool _) rfl) ?_
          refine s1 rfl (lop_not rfl) ?_
          refine s1 rfl (lop_move (v := .bool _) rfl) ?_
          first
            | refine gsplitP 2 rfl rfl (fun g15_2 p15_2 => ?_) (fun g15_2 p15_2 => ?_)
            | refine gsplitB 2 rfl rfl (fun g15_2 p15_2 => ?_) (fun g15_2 p15_2 => ?_)
          · refine y1 rfl rfl g15_2 rfl (lop_move (v := .str _) rfl) ?_
            refine y1 rfl rfl g15_2 rfl (lop_move (v := .int _ _) rfl) ?_
            refine y1 rfl rfl g15_2 rfl (lop_index rfl rfl Try.underlying9 rfl (by omega)) ?_
            refine y1 rfl rfl g15_2 rfl (lop_neq rfl rfl) ?_
            first
              | refine s1 rfl (lop_pick_t (v := .bool _) rfl g15_2 rfl) ?_
              | refine s1 rfl (lop_pick_t (v := .bool _) rfl rfl rfl) ?_
              | refine s1 rfl (lop_pick_f (v := .bool _) rfl rfl rfl) ?_
              | refine s1 rfl (lop_pick rfl rfl rfl) ?_
            refine ops_nil ?_
            first
              | refine ok_if _ rfl rfl (fun h_t72 => ?_) (fun h_t72 => ?_)
              | refine ok_cond rfl rfl (fun h_t72 => ?_) (fun h_t72 => ?_)
            · have e9 : j = v.parts.length := by omega
              rw [e9, List.take_length] at g15_2
              exact absurd (hS.zero i hi1 (by simpa using g15_2)) h_t72
            · refine ok_skip ?_
              refine ok_region ?_
              refine s1 rfl (lop_move (v := .int _ _) rfl) ?_
              refine s1 rfl (lop_bop rfl rfl rfl (bop_add (by omega) (by omega))) ?_
              refine s1 rfl (lop_assign (v := .int _ _) rfl) ?_
              refine ops_nil ?_
              exact ⟨⟨i + 1, by omega⟩, by simp only; omega, le_mk ⟨rfl, rfl, rfl, rfl, rfl, trivial⟩ ⟨.inr rfl, trivial⟩ rfl⟩
          · refine n1 rfl rfl g15_2 ?_
            refine n1 rfl rfl g15_2 ?_
            refine n1 rfl rfl g15_2 ?_
            refine n1 rfl rfl g15_2 ?_
            first
              | refine s1 rfl (lop_pick_f (v := .bool _) rfl g15_2 rfl) ?_
              | refine s1 rfl (lop_pick_t (v := .bool _) rfl rfl rfl) ?_
              | refine s1 rfl (lop_pick_f (v := .bool _) rfl rfl rfl) ?_
              | refine s1 rfl (lop_pick rfl rfl rfl) ?_
            refine ops_nil ?_
            refine ok_false rfl rfl ?_
            refine ok_skip ?_
            refine ok_region ?_
            refine s1 rfl (lop_move (v := .int _ _) rfl) ?_
            refine s1 rfl (lop_bop rfl rfl rfl (bop_add (by omega) (by omega))) ?_
            refine s1 rfl (lop_assign (v := .int _ _) rfl) ?_
            refine ops_nil ?_
            exact ⟨⟨i + 1, by omega⟩, by simp only; omega, le_mk ⟨rfl, rfl, rfl, rfl, rfl, trivial⟩ ⟨.inr rfl, trivial⟩ rfl⟩
      · refine ok_exit ?_
        refine ok_seq ?_
        refine ok_reg ?_
        first
          | refine s1 rfl (lop_fieldAddr_rf (fo := 5) rfl Try.underlying39 rfl rfl Try.sizeOf37 (by decide)) ?_
          | refine s1 rfl (lop_fieldAddr_fp (fo := 5) rfl Try.underlying39 rfl rfl Try.sizeOf37 (by decide) rfl) ?_
        first
          | refine s1 rfl (lop_load_rf rfl rfl Try.isAgg37 rfl) ?_
          | refine s1 rfl (lop_load_fp rfl Try.isAgg37 rfl) ?_
        refine s1 rfl (lop_len rfl Try.underlying37 ⟨⟨_, rfl⟩, rfl⟩) ?_
        refine s1 rfl (lop_eql rfl rfl) ?_
        refine ops_nil ?_
        first
          | refine ok_if _ rfl rfl (fun h_t76 => ?_) (fun h_t76 => ?_)
          | refine ok_cond rfl rfl (fun h_t76 => ?_) (fun h_t76 => ?_)
        · refine ok_reg ?_
          refine s1 rfl (lop_move (v := .bool _) rfl) ?_
          refine s1 rfl (lop_assign (v := .bool _) rfl) ?_
          refine ops_nil ?_
          refine ok_ret ?_
          exact ret_one rfl rfl rfl rfl rfl
        · have hl0 : v.parts.length - 1 < v.parts.length := by omega
          refine ok_skip ?_
          refine ok_reg ?_
          first
            | refine s1 rfl (lop_fieldAddr_rf (fo := 5) rfl Try.underlying39 rfl rfl Try.sizeOf37 (by decide)) ?_
            | refine s1 rfl (lop_fieldAddr_fp (fo := 5) rfl Try.underlying39 rfl rfl Try.sizeOf37 (by decide) rfl) ?_
          first
            | refine s1 rfl (lop_load_rf rfl rfl Try.isAgg37 rfl) ?_
            | refine s1 rfl (lop_load_fp rfl Try.isAgg37 rfl) ?_
          first
            | refine s1 rfl (lop_fieldAddr_rf (fo := 5) rfl Try.underlying39 rfl rfl Try.sizeOf37 (by decide)) ?_
            | refine s1 rfl (lop_fieldAddr_fp (fo := 5) rfl Try.underlying39 rfl rfl Try.sizeOf37 (by decide) rfl) ?_
          first
            | refine s1 rfl (lop_load_rf rfl rfl Try.isAgg37 rfl) ?_
            | refine s1 rfl (lop_load_fp rfl Try.isAgg37 rfl) ?_
          refine s1 rfl (lop_len rfl Try.underlying37 ⟨⟨_, rfl⟩, rfl⟩) ?_
          refine s1 rfl (lop_bop rfl rfl rfl (bop_sub (by omega) (by omega))) ?_
          refine s1 rfl (lop_indexAddr_sl (i := v.parts.length - 1) rfl rfl Try.underlying37 Try.sizeOf60 (by omega) hl0 (flat_at SpanD.len hl0) (flat_ne SpanD.len (by decide) hl0)) ?_
          first
            | refine s1 rfl (lop_load_rf_agg rfl rfl Try.isAgg60 Try.sizeOf60 (by rw [List.length_append, SpanD.len]; omega) (by rw [List.take_append_of_le_length (by rw [SpanD.len]; omega), List.take_of_length_le (by rw [SpanD.len]; omega)])) ?_
            | refine s1 rfl (lop_load_fp_agg rfl Try.isAgg60 Try.sizeOf60 (by rw [List.length_append, SpanD.len]; omega) (by rw [List.take_append_of_le_length (by rw [SpanD.len]; omega), List.take_of_length_le (by rw [SpanD.len]; omega)])) ?_
          refine s1w rfl (lop_new (t := 11) (cs := [.int _ _, .int _ _]) Try.zeroValue60 rfl rfl rfl rfl) rfl ?_
          first
            | refine s0w rfl (lop_storeK (v := .agg [.int _ _, .int _ _]) (cs' := [.int _ _, .int _ _]) (f' := true) rfl rfl rfl Try.sizeOf60 rfl rfl rfl rfl rfl) ?_
            | refine s0w rfl (lop_storeK (v := .agg [.int _ _, .int _ _]) (cs' := [.int _ _, .int _ _]) (f' := false) rfl rfl rfl Try.sizeOf60 rfl rfl rfl rfl rfl) ?_
          refine ops_nil ?_
          refine ok_seq ?_
          refine ok_reg ?_
          refine s1 rfl (lop_assign (v := .int _ _) rfl) ?_
          refine ops_nil ?_
          refine ok_block ?_
          refine ok_loop (ι := {i : Nat // i ≤ ps.length ∧ ∀ j, (h : j < ps.length) → j < i → selP v.parts[v.parts.length - 1] ps[j] = false}) (fun i => ⟨[(1, rowOf PartD.enc ps), (2, .rf 2 0), (5, .bool true), (6, .str S), (11, .rf 11 0), (12, i64 i.1)], [(2, some (true, v.enc)), (11, some (true, v.parts[v.parts.length - 1].enc))], 129⟩) (fun i => ps.length - i.1) (⟨0, Nat.zero_le _, fun _ _ h => absurd h (Nat.not_lt_zero _)⟩) ?_ ?_
          · exact le_mk ⟨rfl, rfl, rfl, rfl, rfl, rfl, trivial⟩ ⟨.inr rfl, .inr rfl, trivial⟩ rfl
          rintro ⟨i, hi, hn⟩
          dsimp only
          refine ok_seq ?_
          refine ok_reg ?_
          refine s1 rfl (lop_move (v := .int _ _) rfl) ?_
          first
            | refine s1 rfl (lop_move (v := .sl _ _) rfl) ?_
            | refine s1 rfl (lop_move (v := .os _ _ _ _) rfl) ?_
            | refine s1 rfl (lop_move (v := .z0) rfl) ?_
          refine s1 rfl (lop_len rfl Try.underlying56 ⟨⟨_, rfl⟩, rfl⟩) ?_
          refine s1 rfl (lop_lss rfl rfl) ?_
          refine ops_nil ?_
          first
            | refine ok_if _ rfl rfl (fun h_t89 => ?_) (fun h_t89 => ?_)
            | refine ok_cond rfl rfl (fun h_t89 => ?_) (fun h_t89 => ?_)
          · have hi1 : i < ps.length := by omega
            refine ok_skip ?_
            refine ok_seq ?_
            refine ok_block ?_
            refine ok_drw Try.mixed ?_
            first
              | refine d1 rfl rfl (lop_move (v := .sl _ _) rfl) ?_
              | refine d1 rfl rfl (lop_move (v := .os _ _ _ _) rfl) ?_
              | refine d1 rfl rfl (lop_move (v := .z0) rfl) ?_
            refine d1 rfl rfl (lop_move (v := .int _ _) rfl) ?_
            first
              | refine d1 rfl rfl (lop_indexAddr_os rfl rfl Try.underlying56 Try.sizeOf62 rfl hi1) ?_
              | refine d1 rfl rfl (lop_indexAddr_sl rfl rfl Try.underlying56 Try.sizeOf62 rfl hi1 (flat_at PartD.len hi1) (flat_ne PartD.len (by decide) hi1)) ?_
            first
              | refine d1 rfl rfl (lop_fieldAddr_rf (fo := 0) rfl Try.underlying62 rfl rfl Try.sizeOf3 (by decide)) ?_
              | refine d1 rfl rfl (lop_fieldAddr_fp (fo := 0) rfl Try.underlying62 rfl rfl Try.sizeOf3 (by decide) rfl) ?_
            first
              | refine d1 rfl rfl (lop_load_rf rfl rfl Try.isAgg3 rfl) ?_
              | refine d1 rfl rfl (lop_load_fp rfl Try.isAgg3 rfl) ?_
            first
              | refine d1 rfl rfl (lop_fieldAddr_rf (fo := 0) rfl Try.underlying60 rfl rfl Try.sizeOf3 (by decide)) ?_
              | refine d1 rfl rfl (lop_fieldAddr_fp (fo := 0) rfl Try.underlying60 rfl rfl Try.sizeOf3 (by decide) rfl) ?_
            first
              | refine d1 rfl rfl (lop_load_rf rfl rfl Try.isAgg3 rfl) ?_
              | refine d1 rfl rfl (lop_load_fp rfl Try.isAgg3 rfl) ?_
            refine d1 rfl rfl (lop_eql rfl rfl) ?_
            refine d1 rfl rfl (lop_move (v := .bool _) rfl) ?_
            first
              | refine dsplitP 8 rfl rfl (fun g23_8 p23_8 => ?_) (fun g23_8 p23_8 => ?_)
              | refine dsplitB 8 rfl rfl (fun g23_8 p23_8 => ?_) (fun g23_8 p23_8 => ?_)
            · first
                | refine dy1 rfl rfl g23_8 rfl rfl (lop_move (v := .sl _ _) rfl) ?_
                | refine dy1 rfl rfl g23_8 rfl rfl (lop_move (v := .os _ _ _ _) rfl) ?_
                | refine dy1 rfl rfl g23_8 rfl rfl (lop_move (v := .z0) rfl) ?_
              refine dy1 rfl rfl g23_8 rfl rfl (lop_move (v := .int _ _) rfl) ?_
              first
                | refine dy1 rfl rfl g23_8 rfl rfl (lop_indexAddr_os rfl rfl Try.underlying56 Try.sizeOf62 rfl hi1) ?_
                | refine dy1 rfl rfl g23_8 rfl rfl (lop_indexAddr_sl rfl rfl Try.underlying56 Try.sizeOf62 rfl hi1 (flat_at PartD.len hi1) (flat_ne PartD.len (by decide) hi1)) ?_
              first
                | refine dy1 rfl rfl g23_8 rfl rfl (lop_fieldAddr_rf (fo := 1) rfl Try.underlying62 rfl rfl Try.sizeOf9 (by decide)) ?_
                | refine dy1 rfl rfl g23_8 rfl rfl (lop_fieldAddr_fp (fo := 1) rfl Try.underlying62 rfl rfl Try.sizeOf9 (by decide) rfl) ?_
              first
                | refine dy1 rfl rfl g23_8 rfl rfl (lop_load_rf rfl rfl Try.isAgg9 rfl) ?_
                | refine dy1 rfl rfl g23_8 rfl rfl (lop_load_fp rfl Try.isAgg9 rfl) ?_
              refine dy1 rfl rfl g23_8 rfl rfl (lop_len rfl Try.underlying9 ⟨rfl, rfl⟩) ?_
              first
                | refine dy1 rfl rfl g23_8 rfl rfl (lop_fieldAddr_rf (fo := 1) rfl Try.underlying60 rfl rfl Try.sizeOf3 (by decide)) ?_
                | refine dy1 rfl rfl g23_8 rfl rfl (lop_fieldAddr_fp (fo := 1) rfl Try.underlying60 rfl rfl Try.sizeOf3 (by decide) rfl) ?_
              first
                | refine dy1 rfl rfl g23_8 rfl rfl (lop_load_rf rfl rfl Try.isAgg3 rfl) ?_
                | refine dy1 rfl rfl g23_8 rfl rfl (lop_load_fp rfl Try.isAgg3 rfl) ?_
              refine dy1 rfl rfl g23_8 rfl rfl (lop_eql rfl rfl) ?_
              first
                | refine d1 rfl rfl (lop_pick_t (v := .bool _) rfl g23_8 rfl) ?_
                | refine d1 rfl rfl (lop_pick_t (v := .bool _) rfl rfl rfl) ?_
                | refine d1 rfl rfl (lop_pick_f (v := .bool _) rfl rfl rfl) ?_
                | refine d1 rfl rfl (lop_pick rfl rfl rfl) ?_
              refine dr_nil (by kernel_rfl) ?_
              first
                | refine ok_if _ rfl rfl (fun h_t110 => ?_) (fun h_t110 => ?_)
                | refine ok_cond rfl rfl (fun h_t110 => ?_) (fun h_t110 => ?_)
              · have hf := hS.fit _ (List.getElem_mem hl0)
                refine ok_drw Try.mixed ?_
                refine d1 rfl rfl (lop_move (v := .bool _) rfl) ?_
                refine d1 rfl rfl (lop_move (v := .bool _) rfl) ?_
                refine dy1 rfl rfl rfl rfl rfl (lop_move (v := .str _) rfl) ?_
                first
                  | refine dy1 rfl rfl rfl rfl rfl (lop_fieldAddr_rf (fo := 0) rfl Try.underlying60 rfl rfl Try.sizeOf3 (by decide)) ?_
                  | refine dy1 rfl rfl rfl rfl rfl (lop_fieldAddr_fp (fo := 0) rfl Try.underlying60 rfl rfl Try.sizeOf3 (by decide) rfl) ?_
                first
                  | refine dy1 rfl rfl rfl rfl rfl (lop_load_rf rfl rfl Try.isAgg3 rfl) ?_
                  | refine dy1 rfl rfl rfl rfl rfl (lop_load_fp rfl Try.isAgg3 rfl) ?_
                first
                  | refine dy1 rfl rfl rfl rfl rfl (lop_fieldAddr_rf (fo := 0) rfl Try.underlying60 rfl rfl Try.sizeOf3 (by decide)) ?_
                  | refine dy1 rfl rfl rfl rfl rfl (lop_fieldAddr_fp (fo := 0) rfl Try.underlying60 rfl rfl Try.sizeOf3 (by decide) rfl) ?_
                first
                  | refine dy1 rfl rfl rfl rfl rfl (lop_load_rf rfl rfl Try.isAgg3 rfl) ?_
                  | refine dy1 rfl rfl rfl rfl rfl (lop_load_fp rfl Try.isAgg3 rfl) ?_
                first
                  | refine dy1 rfl rfl rfl rfl rfl (lop_fieldAddr_rf (fo := 1) rfl Try.underlying60 rfl rfl Try.sizeOf3 (by decide)) ?_
                  | refine dy1 rfl rfl rfl rfl rfl (lop_fieldAddr_fp (fo := 1) rfl Try.underlying60 rfl rfl Try.sizeOf3 (by decide) rfl) ?_
                first
                  | refine dy1 rfl rfl rfl rfl rfl (lop_load_rf rfl rfl Try.isAgg3 rfl) ?_
                  | refine dy1 rfl rfl rfl rfl rfl (lop_load_fp rfl Try.isAgg3 rfl) ?_
                refine dy1 rfl rfl rfl rfl rfl (lop_bop rfl rfl rfl (bop_add (by omega) (by omega))) ?_
                refine dy1 rfl rfl rfl rfl rfl (lop_slice_str rfl Try.underlying9 ⟨_, _, rfl, (Int.toNat_of_nonneg hf.1).symm⟩ ⟨_, _, rfl, (show _ = ((v.parts[v.parts.length - 1].off.toNat + v.parts[v.parts.length - 1].n.toNat : Nat) : Int) by omega)⟩ (by omega) (by omega)) ?_
                first
                  | refine dy1 rfl rfl rfl rfl rfl (lop_move (v := .sl _ _) rfl) ?_
                  | refine dy1 rfl rfl rfl rfl rfl (lop_move (v := .os _ _ _ _) rfl) ?_
                  | refine dy1 rfl rfl rfl rfl rfl (lop_move (v := .z0) rfl) ?_
                refine dy1 rfl rfl rfl rfl rfl (lop_move (v := .int _ _) rfl) ?_
                first
                  | refine dy1 rfl rfl rfl rfl rfl (lop_indexAddr_os rfl rfl Try.underlying56 Try.sizeOf62 rfl hi1) ?_
                  | refine dy1 rfl rfl rfl rfl rfl (lop_indexAddr_sl rfl rfl Try.underlying56 Try.sizeOf62 rfl hi1 (flat_at PartD.len hi1) (flat_ne PartD.len (by decide) hi1)) ?_
                first
                  | refine dy1 rfl rfl rfl rfl rfl (lop_fieldAddr_rf (fo := 1) rfl Try.underlying62 rfl rfl Try.sizeOf9 (by decide)) ?_
                  | refine dy1 rfl rfl rfl rfl rfl (lop_fieldAddr_fp (fo := 1) rfl Try.underlying62 rfl rfl Try.sizeOf9 (by decide) rfl) ?_
                first
                  | refine dy1 rfl rfl rfl rfl rfl (lop_load_rf rfl rfl Try.isAgg9 rfl) ?_
                  | refine dy1 rfl rfl rfl rfl rfl (lop_load_fp rfl Try.isAgg9 rfl) ?_
                refine dy1 rfl rfl rfl rfl rfl (lop_seql rfl rfl) ?_
                first
                  | refine d1 rfl rfl (lop_pick_t (v := .bool _) rfl rfl rfl) ?_
                  | refine d1 rfl rfl (lop_pick_t (v := .bool _) rfl rfl rfl) ?_
                  | refine d1 rfl rfl (lop_pick_f (v := .bool _) rfl rfl rfl) ?_
                  | refine d1 rfl rfl (lop_pick rfl rfl rfl) ?_
                refine d1 rfl rfl (lop_assign (v := .bool _) rfl) ?_
                refine dr_nil (by kernel_rfl) ?_
                refine ok_ret ?_
                have e1 := hS.last _ hl0 (by omega)
                have e2 := ch_first hi1 hn (by unfold selP; simp [p23_8, h_t110])
                exact ret_one rfl rfl rfl rfl (congrArg V.bool (decide_eq_true (by rw [e1, e2])))
              · refine ok_skip ?_
                refine ok_region ?_
                refine s1 rfl (lop_move (v := .int _ _) rfl) ?_
                refine s1 rfl (lop_bop rfl rfl rfl (bop_add (by omega) (by omega))) ?_
                refine s1 rfl (lop_assign (v := .int _ _) rfl) ?_
                refine ops_nil ?_
                exact ⟨⟨i + 1, by omega, none_step hn hi1 (by unfold selP; simp [h_t110])⟩, by simp only; omega, le_mk ⟨rfl, rfl, rfl, rfl, rfl, rfl, trivial⟩ ⟨.inr rfl, .inr rfl, trivial⟩ rfl⟩
            · refine dn1 rfl rfl g23_8 rfl ?_
              refine dn1 rfl rfl g23_8 rfl ?_
              refine dn1 rfl rfl g23_8 rfl ?_
              refine dn1 rfl rfl g23_8 rfl ?_
              refine dn1 rfl rfl g23_8 rfl ?_
              refine dn1 rfl rfl g23_8 rfl ?_
              refine dn1 rfl rfl g23_8 rfl ?_
              refine dn1 rfl rfl g23_8 rfl ?_
              refine dn1 rfl rfl g23_8 rfl ?_
              first
                | refine d1 rfl rfl (lop_pick_f (v := .bool _) rfl g23_8 rfl) ?_
                | refine d1 rfl rfl (lop_pick_t (v := .bool _) rfl rfl rfl) ?_
                | refine d1 rfl rfl (lop_pick_f (v := .bool _) rfl rfl rfl) ?_
                | refine d1 rfl rfl (lop_pick rfl rfl rfl) ?_
              refine dr_nil (by kernel_rfl) ?_
              refine ok_false rfl rfl ?_
              refine ok_skip ?_
              refine ok_region ?_
              refine s1 rfl (lop_move (v := .int _ _) rfl) ?_
              refine s1 rfl (lop_bop rfl rfl rfl (bop_add (by omega) (by omega))) ?_
              refine s1 rfl (lop_assign (v := .int _ _) rfl) ?_
              refine ops_nil ?_
              exact ⟨⟨i + 1, by omega, none_step hn hi1 (by unfold selP; simp [p23_8])⟩, by simp only; omega, le_mk ⟨rfl, rfl, rfl, rfl, rfl, rfl, trivial⟩ ⟨.inr rfl, .inr rfl, trivial⟩ rfl⟩
          · refine ok_exit ?_
            refine ok_reg ?_
            refine s1 rfl (lop_assign (v := .bool _) rfl) ?_
            refine ops_nil ?_
            refine ok_ret ?_
            exfalso
            obtain ⟨q, hq, hq2⟩ := List.any_eq_true.1 (hS.fit _ (List.getElem_mem hl0)).2.2.2
            obtain ⟨j, hj, rfl⟩ := List.getElem_of_mem hq
            have := hn j hj (by omega)
            rw [hq2] at this
            cases this

end Go.Proofs
