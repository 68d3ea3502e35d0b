/- Chapter 16: parts, told as plain data. -/
import Derived.Test.YtikikdgfebbcmaaD16
import Derived.Test.YtikikdgfebbcmaaT16ia
import Derived.Test.YtikikdgfebbcmaaHgT
set_option linter.unusedVariables false
set_option linter.unusedSimpArgs false
set_option maxRecDepth 100000
namespace Go.Proofs
open Go.Hg
section
variable {H : Type}
theorem dec9 {x : DataW H} (h : Has td9 x) : ∃ s : ByteArray, dV x = [.str s] := by
  unfold td9 at h
  simp only [Has] at h
  obtain ⟨s, rfl, _⟩ := h
  exact ⟨s, rfl⟩
theorem dec62 (x : DataW H) (h : Has td62 x) (_ : bulk x ≤ 1048576) : ∃ p : PartD, dV x = p.enc ∧ R64 p.at_ := by
  unfold td62 at h
  simp only [Has, HasL] at h
  obtain ⟨_, rfl, a, _, rfl, ha, b, _, rfl, hb, rfl⟩ := h
  obtain ⟨r, h1, h2⟩ := dec3 ha
  obtain ⟨n, h3⟩ := dec9 hb
  exact ⟨⟨r, n⟩, by simp only [dV, dVL, h1, h3]; rfl, h2⟩
theorem dec56 {x : DataW H} (h : Has td56 x) (hk : bulk x ≤ 1048576) : ∃ l : List PartD, dV x = [rowOf PartD.enc l] ∧ l.length ≤ 1048576 := by
  obtain ⟨l, h1, h2, _⟩ := dec_sl dec62 h hk
  exact ⟨l, h1, by omega⟩
end
end Go.Proofs
/- Chapter 16: walks. Printed by gen.py. -/
set_option linter.unusedVariables false
set_option linter.unusedSimpArgs false
set_option maxRecDepth 100000
namespace Go.Proofs
open Go.Hg

def chF (ps : List PartD) (s : SpanD) : PartD := (ps.find? (selP s)).getD ⟨0, ⟨#[]⟩⟩
def fillF (ss : List SpanD) (ps : List PartD) : ByteArray × Int := if ss.all (fun s => ps.any (selP s)) then layF 160 (ss.map (chF ps)) else (⟨#[]⟩, 7)
theorem idx_ch {ps : List PartD} {s : SpanD} (h : ¬ idxOf (selP s) ps < 0) : ∃ j, ∃ hj : j < ps.length, idxOf (selP s) ps = (j : Int) ∧ ps[j] = chF ps s ∧ ps.any (selP s) = true := by
  rcases idxOf_cases (selP s) ps with ⟨h1, _⟩ | ⟨j, hj, h1, h2, h3⟩
  · omega
  · refine ⟨j, hj, h1, ?_, List.any_eq_true.2 ⟨_, List.getElem_mem hj, h2⟩⟩
    unfold chF
    rw [List.find?_eq_some_iff_getElem.2 ⟨h2, j, hj, rfl, fun k hk => by simpa using h3 k (by omega) hk⟩]
    rfl
theorem idx_none {ps : List PartD} {s : SpanD} (h : idxOf (selP s) ps < 0) : ps.any (selP s) = false := by
  rcases idxOf_cases (selP s) ps with ⟨h1, h2⟩ | ⟨j, hj, h1, h2, h3⟩
  · rw [List.any_eq_false]
    intro x hx
    rw [h2 x hx]; simp
  · omega
theorem any_step {ss : List SpanD} {ps : List PartD} {i : Nat} (hn : ∀ j, (h : j < ss.length) → j < i → ps.any (selP ss[j]) = true) (h : i < ss.length) (hi : ps.any (selP ss[i]) = true) : ∀ j, (h : j < ss.length) → j < i + 1 → ps.any (selP ss[j]) = true := by
  intro j hj hlt
  rcases Nat.lt_or_ge j i with h1 | h1
  · exact hn j hj h1
  · have : j = i := by omega
    subst this; exact hi
theorem fillF_no {ss : List SpanD} {ps : List PartD} {i : Nat} (h : i < ss.length) (hi : ps.any (selP ss[i]) = false) : fillF ss ps = (⟨#[]⟩, 7) := by
  unfold fillF
  rw [if_neg]
  intro h2
  rw [List.all_eq_true] at h2
  have := h2 _ (List.getElem_mem h)
  rw [hi] at this; cases this
theorem fillF_yes {ss : List SpanD} {ps : List PartD} (hn : ∀ j, (h : j < ss.length) → j < ss.length → ps.any (selP ss[j]) = true) : fillF ss ps = layF 160 (ss.map (chF ps)) := by
  unfold fillF
  rw [if_pos]
  rw [List.all_eq_true]
  intro p hp
  obtain ⟨j, hj, rfl⟩ := List.getElem_of_mem hp
  exact hn j hj hj

theorem plan_Fill_ac (v : VolD) (hv : v.ok) {ps : List PartD} (hp : ps.length ≤ 1048576) : AC Try.prog 15 [.agg v.enc, rowOf PartD.enc ps] (.tup [.str (fillF v.parts ps).1, i64 (fillF v.parts ps).2]) := by
  have hvp := hv.parts
  refine AC.intro Try.func15 rfl (Nat.le_of_ble_eq_true rfl) ?_
  refine ok_reg ?_
  first
    | refine s1w rfl (lop_box (t := 2) (v := .agg [.int _ _, .int _ _, .int _ _, .int _ _, .int _ _, _, _, .int _ _, .int _ _]) (f := true) (cs := [.int _ _, .int _ _, .int _ _, .int _ _, .int _ _, _, _, .int _ _, .int _ _]) rfl rfl rfl rfl (fun h => by cases h)) rfl ?_
    | refine s1w rfl (lop_box (t := 2) (v := .agg [.int _ _, .int _ _, .int _ _, .int _ _, .int _ _, _, _, .int _ _, .int _ _]) (f := false) (cs := [.int _ _, .int _ _, .int _ _, .int _ _, .int _ _, _, _, .int _ _, .int _ _]) rfl rfl rfl rfl (fun _ => rfl)) rfl ?_
  refine s1 rfl (lop_assign (v := .str _) rfl) ?_
  refine s1 rfl (lop_assign (v := .int _ _) rfl) ?_
  refine ops_nil ?_
  refine ok_reg ?_
  first
    | refine s1 rfl (lop_assign (v := .sl _ _) rfl) ?_
    | refine s1 rfl (lop_assign (v := .os _ _ _ _) rfl) ?_
    | refine s1 rfl (lop_assign (v := .z0) rfl) ?_
  refine ops_nil ?_
  refine ok_seq ?_
  refine ok_reg ?_
  first
    | refine s1 rfl (lop_fieldAddr_rf (fo := 5) rfl Try.underlying39 rfl rfl Try.sizeOf37 (by decide)) ?_
    | refine s1 rfl (lop_fieldAddr_fp (fo := 5) rfl Try.underlying39 rfl rfl Try.sizeOf37 (by decide) rfl) ?_
  first
    | refine s1 rfl (lop_load_rf rfl rfl Try.isAgg37 rfl) ?_
    | refine s1 rfl (lop_load_fp rfl Try.isAgg37 rfl) ?_
  refine s1 rfl (lop_len rfl Try.underlying37 ⟨⟨_, rfl⟩, rfl⟩) ?_
  refine s1 rfl (lop_move (v := .int _ _) rfl) ?_
  refine ops_nil ?_
  refine ok_block ?_
  refine ok_loop (ι := {i : Nat // i ≤ v.parts.length ∧ ∀ j, (h : j < v.parts.length) → j < i → ps.any (selP v.parts[j]) = true}) (fun i => ⟨[(1, rowOf PartD.enc ps), (6, .os 100 0 2 i.1), (11, rowOf SpanD.enc v.parts), (12, i64 v.parts.length), (13, i64 i.1)], [(100, some (true, ((v.parts.take i.1).map (chF ps)).flatMap PartD.enc))], 34⟩) (fun i => v.parts.length - i.1) (⟨0, Nat.zero_le _, fun _ _ h => absurd h (Nat.not_lt_zero _)⟩) ?_ ?_
  · exact le_ren [(100, none)] ⟨rfl, rfl, rfl, rfl, rfl, trivial⟩ rfl ⟨⟨rfl, rfl⟩, trivial⟩ rfl rfl rfl
  rintro ⟨i, hi, hn⟩
  dsimp only
  have hlen2 : (v.parts.take i).length = i := by rw [List.length_take]; omega
  refine ok_reg ?_
  refine s1 rfl (lop_lss rfl rfl) ?_
  refine ops_nil ?_
  refine ok_seq ?_
  first
    | refine ok_if _ rfl rfl (fun h_t14 => ?_) (fun h_t14 => ?_)
    | refine ok_cond rfl rfl (fun h_t14 => ?_) (fun h_t14 => ?_)
  · have hri : i < v.parts.length := by omega
    refine ok_skip ?_
    refine ok_seq ?_
    refine ok_block ?_
    refine ok_reg ?_
    first
      | refine s1 rfl (lop_indexAddr_os rfl rfl Try.underlying37 Try.sizeOf60 rfl hri) ?_
      | refine s1 rfl (lop_indexAddr_sl rfl rfl Try.underlying37 Try.sizeOf60 rfl hri (flat_at SpanD.len hri) (flat_ne SpanD.len (by decide) hri)) ?_
    first
      | refine s1 rfl (lop_load_rf_agg rfl rfl Try.isAgg60 Try.sizeOf60 (by rw [List.length_append, SpanD.len]; omega) (by rw [List.take_append_of_le_length (by rw [SpanD.len]; omega), List.take_of_length_le (by rw [SpanD.len]; omega)])) ?_
      | refine s1 rfl (lop_load_fp_agg rfl Try.isAgg60 Try.sizeOf60 (by rw [List.length_append, SpanD.len]; omega) (by rw [List.take_append_of_le_length (by rw [SpanD.len]; omega), List.take_of_length_le (by rw [SpanD.len]; omega)])) ?_
    refine s1w rfl (lop_new (t := 8) (cs := [.int _ _, .int _ _]) Try.zeroValue60 rfl rfl rfl rfl) rfl ?_
    first
      | refine s0w rfl (lop_storeK (v := .agg [.int _ _, .int _ _]) (cs' := [.int _ _, .int _ _]) (f' := true) rfl rfl rfl Try.sizeOf60 rfl rfl rfl rfl rfl) ?_
      | refine s0w rfl (lop_storeK (v := .agg [.int _ _, .int _ _]) (cs' := [.int _ _, .int _ _]) (f' := false) rfl rfl rfl Try.sizeOf60 rfl rfl rfl rfl rfl) ?_
    refine ops_nil ?_
    refine ok_reg ?_
    first
      | refine s1 rfl (lop_move (v := .sl _ _) rfl) ?_
      | refine s1 rfl (lop_move (v := .os _ _ _ _) rfl) ?_
      | refine s1 rfl (lop_move (v := .z0) rfl) ?_
    first
      | refine s1 rfl (lop_func (vs := [.rf _ _]) rfl) ?_
      | refine s1 rfl (lop_func (vs := [.fp _]) rfl) ?_
    refine s1 rfl (lop_call (R := [8]) rfl Try.call42 (fzL_sound _ _ _ rfl) (.inr rfl) (indexFunc_Part_ac (p := selP v.parts[i]) hp Try.call43 rfl (fun x _ => fill1_ac x v.parts[i]))) ?_
    refine s1 rfl (lop_assign (v := .int _ _) rfl) ?_
    refine ops_nil ?_
    refine ok_seq ?_
    refine ok_reg ?_
    refine s1 rfl (lop_move (v := .int _ _) rfl) ?_
    refine s1 rfl (lop_lss rfl rfl) ?_
    refine ops_nil ?_
    first
      | refine ok_if _ rfl rfl (fun h_t21 => ?_) (fun h_t21 => ?_)
      | refine ok_cond rfl rfl (fun h_t21 => ?_) (fun h_t21 => ?_)
    · have ha := idx_none h_t21
      refine ok_reg ?_
      refine s1 rfl (lop_assign (v := .str _) rfl) ?_
      refine s1 rfl (lop_assign (v := .int _ _) rfl) ?_
      refine ops_nil ?_
      refine ok_ret ?_
      rw [fillF_no hri ha]
      exact ret_two rfl rfl rfl rfl rfl rfl rfl
    · obtain ⟨j, hj, hx, hc, ha⟩ := idx_ch h_t21
      refine ok_skip ?_
      refine ok_region ?_
      first
        | refine s1 rfl (lop_move (v := .sl _ _) rfl) ?_
        | refine s1 rfl (lop_move (v := .os _ _ _ _) rfl) ?_
        | refine s1 rfl (lop_move (v := .z0) rfl) ?_
      first
        | refine s1 rfl (lop_move (v := .sl _ _) rfl) ?_
        | refine s1 rfl (lop_move (v := .os _ _ _ _) rfl) ?_
        | refine s1 rfl (lop_move (v := .z0) rfl) ?_
      refine s1 rfl (lop_move (v := .int _ _) rfl) ?_
      first
        | refine s1 rfl (lop_indexAddr_os rfl rfl Try.underlying56 Try.sizeOf62 hx hj) ?_
        | refine s1 rfl (lop_indexAddr_sl rfl rfl Try.underlying56 Try.sizeOf62 hx hj (flat_at PartD.len hj) (flat_ne PartD.len (by decide) hj)) ?_
      first
        | refine s1 rfl (lop_load_rf_agg rfl rfl Try.isAgg62 Try.sizeOf62 (by rw [List.length_append, PartD.len]; omega) (by rw [List.take_append_of_le_length (by rw [PartD.len]; omega), List.take_of_length_le (by rw [PartD.len]; omega)])) ?_
        | refine s1 rfl (lop_load_fp_agg rfl Try.isAgg62 Try.sizeOf62 (by rw [List.length_append, PartD.len]; omega) (by rw [List.take_append_of_le_length (by rw [PartD.len]; omega), List.take_of_length_le (by rw [PartD.len]; omega)])) ?_
      first
        | refine s1w rfl (lop_buildSlice (t := 27) (cs := [.int _ _, .str _]) (f := true) Try.underlying56 Try.sizeOf62 (by decide) Try.zeroValue62 rfl rfl rfl (by decide) rfl (.inr (by decide)) rfl (fun h => by cases h)) rfl ?_
        | refine s1w rfl (lop_buildSlice (t := 27) (cs := [.int _ _, .str _]) (f := false) Try.underlying56 Try.sizeOf62 (by decide) Try.zeroValue62 rfl rfl rfl (by decide) rfl (.inr (by decide)) rfl (fun _ => rfl)) rfl ?_
      first
        | refine s2w rfl (lop_append_os (t' := 28) rfl rfl rfl (by rw [flat_length PartD.len, List.length_map, hlen2]) (.os Try.underlying56 (List.mem_singleton.2 rfl) rfl (Nat.le_of_ble_eq_true rfl) rfl) Try.underlying56 info62 rfl (by omega) (by omega)) rfl ?_
        | refine s1w rfl (lop_append_z0 (t' := 28) rfl rfl (.os Try.underlying56 (List.mem_singleton.2 rfl) rfl (Nat.le_of_ble_eq_true rfl) rfl) Try.underlying56 info62 rfl (by omega) (by omega)) rfl ?_
        | refine s2w rfl (lop_append_os (t' := 28) (R := []) rfl rfl rfl (by rw [flat_length PartD.len, List.length_map, hlen2]) (.sl Try.underlying56 rfl) Try.underlying56 info62 rfl (by omega) (by omega)) rfl ?_
        | refine s1w rfl (lop_append_z0 (t' := 28) (R := []) rfl rfl (.sl Try.underlying56 rfl) Try.underlying56 info62 rfl (by omega) (by omega)) rfl ?_
        | refine s2w rfl (lop_append_os (t' := 28) (R := []) rfl rfl rfl (by rw [flat_length PartD.len, List.length_map, hlen2]) (.z0 Try.underlying56) Try.underlying56 info62 rfl (by omega) (by omega)) rfl ?_
        | refine s1w rfl (lop_append_z0 (t' := 28) (R := []) rfl rfl (.z0 Try.underlying56) Try.underlying56 info62 rfl (by omega) (by omega)) rfl ?_
      first
        | refine s1 rfl (lop_assign (v := .sl _ _) rfl) ?_
        | refine s1 rfl (lop_assign (v := .os _ _ _ _) rfl) ?_
        | refine s1 rfl (lop_assign (v := .z0) rfl) ?_
      refine ops_nil ?_
      refine ok_region ?_
      refine s1 rfl (lop_bop rfl rfl rfl (bop_add (by omega) (by omega))) ?_
      refine s1 rfl (lop_move (v := .int _ _) rfl) ?_
      refine ops_nil ?_
      have e1 : v.parts.take (i + 1) = v.parts.take i ++ [v.parts[i]] := by rw [List.take_add_one, List.getElem?_eq_getElem hri]; rfl
      exact ⟨⟨i + 1, by omega, any_step hn hri ha⟩, by simp only; omega, le_ren [(100, some 28)] ⟨rfl, rfl, rfl, rfl, rfl, trivial⟩ rfl ⟨⟨_, rfl, by show _ = List.flatMap _ _; rw [e1, List.map_append, List.flatMap_append, List.map_singleton, List.flatMap_singleton, ← hc]; rfl⟩, trivial⟩ rfl rfl rfl⟩
  · refine ok_exit ?_
    refine ok_reg ?_
    have e9 : i = v.parts.length := by omega
    subst e9
    refine ops_le (T := ⟨[(6, rowOf PartD.enc (v.parts.map (chF ps)))], [], 34⟩) (le_frz [100] ⟨.inr (by unfold rowOf; rw [List.length_map]; exact .osf (List.mem_singleton.2 rfl) rfl (by rw [List.take_length, flat_length PartD.len, List.length_map]; omega) (by rw [List.take_length, List.drop_zero, List.take_of_length_le (by rw [flat_length PartD.len, List.length_map]; omega)])), trivial⟩ trivial (fun t ht => by simp at ht; subst ht; exact Option.some_ne_none _) rfl) ?_
    first
      | refine s1 rfl (lop_move (v := .sl _ _) rfl) ?_
      | refine s1 rfl (lop_move (v := .os _ _ _ _) rfl) ?_
      | refine s1 rfl (lop_move (v := .z0) rfl) ?_
    refine s1 rfl (lop_call rfl Try.call44 (FrzL.tf rfl) (.inl rfl) (block_Lay_ac (n := 160) (by decide) (by rw [List.length_map]; omega))) ?_
    refine s1 rfl (lop_extract rfl rfl) ?_
    refine s1 rfl (lop_extract rfl rfl) ?_
    refine s1 rfl (lop_assign (v := .str _) rfl) ?_
    refine s1 rfl (lop_assign (v := .int _ _) rfl) ?_
    refine ops_nil ?_
    refine ok_ret ?_
    rw [fillF_yes hn]
    exact ret_two rfl rfl rfl rfl rfl rfl rfl

end Go.Proofs
/- Operations that are passed over because their guard was passed over. No condition. -/
set_option linter.unusedVariables false
set_option linter.unusedSimpArgs false
namespace Go.Hg
open Go.RowKit
section
variable {P : Program} {ops : Array Oper} {o : Oper} {rest : List Oper} {S : St} {K : St → Prop}

theorem yielded_none {w0 : World} {ok0 : Fr} {e : EF} {h : HF} {sz : Nat} {a : Act} {w : World} {j t : Nat} (r : RelF w0 ok0 e h sz a w) (hj : guardSlot ops j = some t) (ht : e t = .raw undef) : yielded ops a.tmps j = none := by
  obtain ⟨ok, G, hs, hr, h1, h2⟩ := r
  have h3 := hr t
  obtain ⟨hj, hjb⟩ := guardSlot_out hj
  rw [ht, slot_lt _ _ hjb] at h3
  simp only [Rep] at h3
  unfold yielded
  rw [hj]
  cases h5 : a.tmps[t]? with
  | none => simp [h5]
  | some u =>
    simp [h5] at h3
    subst h3
    simp [h5, undef]

theorem rel_put_raw {w0 : World} {ok0 : Fr} {e : EF} {h : HF} {sz : Nat} {a : Act} {w : World} (r : RelF w0 ok0 e h sz a w) (dst : Option Nat) (hd : ∀ d, dst = some d → Nat.blt d 1048576 = true) : RelF w0 ok0 (putF e dst (.raw undef)) h sz (a.put dst undef) w := by
  obtain ⟨ok, G, hs, hr, h1, h2⟩ := r
  cases dst with
  | none => exact ⟨ok, G, hs, hr, h1, h2⟩
  | some d =>
    refine ⟨ok, G, hs, fun x => ?_, by simpa [Act.put] using h1, by simpa [Act.put] using h2⟩
    simp only [putF]
    cases hx : Nat.beq x d with
    | true =>
      have : x = d := Nat.eq_of_beq_eq_true hx
      subst this
      simp only [cond_true, Rep]
      rw [slot_lt _ _ (hd x rfl)]
      simp only [Act.put]
      rcases Nat.lt_or_ge x a.tmps.size with hlt | hge
      · simp [hlt]
      · rw [Array.getD_eq_getD_getElem?, Array.getElem?_eq_none (by simpa using hge)]
        rfl
    | false =>
      have : d ≠ x := fun e => by subst e; simp at hx
      rw [slot_put_ne this]
      simpa using hr x

theorem op_pass {g : Option Bool} {j t : Nat} {want : Bool} (hg : o.guard = some (j, want)) (hj : guardSlot ops j = some t) (ht : get S.env t = .raw undef ∨ get S.env t = .bool (!want)) (hd : ∀ d, o.dst = some d → Nat.blt d 1048576 = true)
    (hr : OpsOk P ops rest ⟨put S.env o.dst (.raw undef), S.H, S.sz⟩ K) : OpsOk P ops (o :: rest) S K := by
  intro w0 ok0 a w r Q hq
  unfold wpList
  rw [if_neg (by
    rcases ht with ht | ht
    · simp [Region.wanted, hg, yielded_none (ops := ops) r hj ht]
    · simp [Region.wanted, hg, yielded_of r hj ht])]
  have := rel_put_raw r o.dst hd
  refine hr w0 ok0 _ w ?_ Q hq
  unfold Rel
  rw [get_put]
  exact this
theorem rec_pass {env : Env} {h : HF} {sz : Nat} {j t : Nat} {want : Bool} (hg : o.guard = some (j, want)) (hj : guardSlot ops j = some t) (ht : get env t = .raw undef ∨ get env t = .bool (!want)) (hd : ∀ d, o.dst = some d → Nat.blt d 1048576 = true) :
    RecOk P ops sz o (get env) h ⟨[t], o.dst, .raw undef, [], [], []⟩ := by
  refine ⟨rfl, fun e' h' he hR hf w0 ok0 a w r K Q hK => ?_⟩
  have he' : e' t = get env t := he t (by simp)
  rw [if_neg (by
    rcases ht with ht | ht
    · simp [Region.wanted, hg, yielded_none (ops := ops) r hj (he'.trans ht)]
    · have hy : yielded ops a.tmps j = some (!want) := by
        obtain ⟨ok, G, hs, hr, h1, h2⟩ := r
        have h3 := hr t
        obtain ⟨hj, hjb⟩ := guardSlot_out hj
        rw [he', ht, slot_lt _ _ hjb] at h3
        simp only [Rep] at h3
        have h4 : a.tmps[t]? = some (.bool (!want)) := by
          cases h5 : a.tmps[t]? with
          | none => simp [h5, undef] at h3
          | some u => simp [h5] at h3; rw [h3]
        unfold yielded
        rw [hj]
        simp [h4]
      simp [Region.wanted, hg, hy])]
  exact hK _ _ (rel_put_raw r o.dst hd)
end
section
variable {P : Program} {ops : Array Oper} {rest : List Oper} {env : Env} {H : Heap} {sz : Nat} {K : St → Prop} {S0 : St} {acc : List Rec} {op : Op} {ty : TypeId} {ps : String} {af : Array Edge} {j g d : Nat} {want : Bool}
/-- The guard says no, or was passed over itself; its slot is told to be empty. -/
theorem p1 (hj : guardSlot ops j = some g) (ht : get env g = .raw undef ∨ get env g = .bool (!want)) (hd : Nat.blt d 1048576 = true) (hr : OpsOk P ops rest ⟨(d, .raw undef) :: env, H, sz⟩ K) : OpsOk P ops (⟨some d, op, ty, ps, af, some (j, want)⟩ :: rest) ⟨env, H, sz⟩ K :=
  op_pass (g := none) rfl hj ht (fun d' h => by simp at h; subst h; exact hd) hr
theorem p0 (hj : guardSlot ops j = some g) (ht : get env g = .raw undef ∨ get env g = .bool (!want)) (hr : OpsOk P ops rest ⟨env, H, sz⟩ K) : OpsOk P ops (⟨none, op, ty, ps, af, some (j, want)⟩ :: rest) ⟨env, H, sz⟩ K :=
  op_pass (g := none) rfl hj ht (fun d' h => by simp at h) hr
theorem dp1 (hj : guardSlot ops j = some g) (ht : get env g = .raw undef ∨ get env g = .bool (!want)) (hd : Nat.blt d 1048576 = true) (hs : sz = S0.sz) (hr : DR P ops S0 rest (acc ++ [⟨[g], some d, .raw undef, [], [], []⟩]) ⟨(d, .raw undef) :: env, H, sz⟩ K) : DR P ops S0 (⟨some d, op, ty, ps, af, some (j, want)⟩ :: rest) acc ⟨env, H, sz⟩ K :=
  dr_rec hs (rec_pass rfl hj ht (fun d' h => by simp at h; subst h; exact hd)) hr
theorem dp0 (hj : guardSlot ops j = some g) (ht : get env g = .raw undef ∨ get env g = .bool (!want)) (hs : sz = S0.sz) (hr : DR P ops S0 rest (acc ++ [⟨[g], none, .raw undef, [], [], []⟩]) ⟨env, H, sz⟩ K) : DR P ops S0 (⟨none, op, ty, ps, af, some (j, want)⟩ :: rest) acc ⟨env, H, sz⟩ K :=
  dr_rec hs (rec_pass rfl hj ht (fun d' h => by simp at h)) hr
end
end Go.Hg
