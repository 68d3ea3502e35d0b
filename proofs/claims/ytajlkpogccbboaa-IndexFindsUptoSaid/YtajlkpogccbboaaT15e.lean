/- Chapter 15: walks. Printed by gen.py. -/
import Derived.Test.YtajlkpogccbboaaT15d
set_option linter.unusedVariables false
set_option linter.unusedSimpArgs false
set_option maxRecDepth 100000
namespace Go.Proofs
open Go.Hg

section
variable {α : Type} {enc : α → List V} {sz : Nat}
theorem del_shift (hs : ∀ x, (enc x).length = sz) {L : List α} {n k : Nat} (hn : L.length = n) (hk : k < n) : vsplice (L.flatMap enc) (0 + (k - 0) * sz) (((L.flatMap enc).drop (0 + (k + 1) * sz)).take ((n - (k + 1)) * sz)) = (L.take k ++ L.drop (k + 1)).flatMap enc ++ (L.drop (n - 1)).flatMap enc := by
  have e2 : ((L.drop (k + 1)).flatMap enc).length = (n - (k + 1)) * sz := by rw [flat_length hs, List.length_drop, hn]
  have e3 : ((L.take k).flatMap enc).length = 0 + (k - 0) * sz := by rw [flat_length hs, List.length_take, Nat.min_eq_left (by omega), Nat.sub_zero]; omega
  have e4 : L.flatMap enc = (L.take k).flatMap enc ++ (L.drop k).flatMap enc := by rw [← List.flatMap_append, List.take_append_drop]
  rw [Nat.zero_add ((k + 1) * sz), flat_drop hs, ← e2, List.take_length]
  conv => lhs; rw [e4]
  rw [vs_app e3, e2, flat_drop hs, List.drop_drop, show k + (n - (k + 1)) = n - 1 by omega, List.flatMap_append]
end

theorem delete_Name_ac {L : List NameD} {n k : Nat} (hn : L.length = n) (hk : k < n) (hb : n < 549755813888) : ACH Try.prog 68 [.os 500 0 5 n, i64 k, i64 ((k + 1 : Nat) : Int)] [(500, some (true, L.flatMap NameD.enc))] (.os 501 0 5 (n - 1)) [(501, some (true, (L.take k ++ L.drop (k + 1)).flatMap NameD.enc))] [.undef, .undef, .undef] := by
  have hfl := flat_length NameD.len L
  refine ACH.intro Try.func68 rfl (Nat.le_of_ble_eq_true rfl) (Nat.le_of_ble_eq_true rfl) rfl ?_
  refine ok_reg ?_
  first
    | refine s1 rfl (lop_assign (v := .sl _ _) rfl) ?_
    | refine s1 rfl (lop_assign (v := .os _ _ _ _) rfl) ?_
    | refine s1 rfl (lop_assign (v := .z0) rfl) ?_
  refine ops_nil ?_
  refine ok_reg ?_
  first
    | refine s1 rfl (lop_move (v := .sl _ _) rfl) ?_
    | refine s1 rfl (lop_move (v := .os _ _ _ _) rfl) ?_
    | refine s1 rfl (lop_move (v := .z0) rfl) ?_
  refine s1 rfl (lop_move (v := .int _ _) rfl) ?_
  refine s1 rfl (lop_move (v := .int _ _) rfl) ?_
  first
    | refine s1 rfl (lop_move (v := .sl _ _) rfl) ?_
    | refine s1 rfl (lop_move (v := .os _ _ _ _) rfl) ?_
    | refine s1 rfl (lop_move (v := .z0) rfl) ?_
  refine s1 rfl (lop_len rfl Try.underlying23 ⟨⟨_, rfl⟩, rfl⟩) ?_
  refine s1 rfl (lop_slice3 (h := k + 1) (m := n) rfl rfl Try.underlying23 Try.sizeOf47 ⟨_, _, rfl, rfl⟩ rfl rfl rfl rfl (by omega) (by omega) (by omega)) ?_
  refine ops_nil ?_
  refine ok_seq ?_
  refine ok_reg ?_
  refine s1 rfl (lop_move (v := .int _ _) rfl) ?_
  refine s1 rfl (lop_move (v := .int _ _) rfl) ?_
  refine s1 rfl (lop_eql rfl rfl) ?_
  refine ops_nil ?_
  first
    | refine ok_if _ rfl rfl (fun h_t16 => ?_) (fun h_t16 => ?_)
    | refine ok_cond rfl rfl (fun h_t16 => ?_) (fun h_t16 => ?_)
  · exfalso; omega
  · refine ok_skip ?_
    refine ok_reg ?_
    first
      | refine s1 rfl (lop_move (v := .sl _ _) rfl) ?_
      | refine s1 rfl (lop_move (v := .os _ _ _ _) rfl) ?_
      | refine s1 rfl (lop_move (v := .z0) rfl) ?_
    refine s1 rfl (lop_len rfl Try.underlying23 ⟨⟨_, rfl⟩, rfl⟩) ?_
    refine s1 rfl (lop_assign (v := .int _ _) rfl) ?_
    refine ops_nil ?_
    refine ok_drw Try.mixed ?_
    first
      | refine d1 rfl rfl (lop_move (v := .sl _ _) rfl) ?_
      | refine d1 rfl rfl (lop_move (v := .os _ _ _ _) rfl) ?_
      | refine d1 rfl rfl (lop_move (v := .z0) rfl) ?_
    refine d1 rfl rfl (lop_move (v := .int _ _) rfl) ?_
    first
      | refine d1 rfl rfl (lop_slice_z0 rfl Try.underlying23 Try.sizeOf47 rfl ⟨_, _, rfl, rfl⟩) ?_
      | refine d1 rfl rfl (lop_slice_os (L := 0) rfl rfl Try.underlying23 Try.sizeOf47 rfl ⟨_, _, rfl, rfl⟩ (by omega) (by rw [hfl]; omega) (by decide)) ?_
      | refine d1 rfl rfl (lop_slice_sl rfl Try.underlying23 Try.sizeOf47 rfl rfl ⟨_, _, rfl, rfl⟩ (by omega) (by rw [hfl]; omega) rfl) ?_
    first
      | refine d1 rfl rfl (lop_move (v := .sl _ _) rfl) ?_
      | refine d1 rfl rfl (lop_move (v := .os _ _ _ _) rfl) ?_
      | refine d1 rfl rfl (lop_move (v := .z0) rfl) ?_
    refine d1 rfl rfl (lop_move (v := .int _ _) rfl) ?_
    first
      | refine d1 rfl rfl (lop_slice_z0 rfl Try.underlying23 Try.sizeOf47 ⟨_, _, rfl, rfl⟩ rfl) ?_
      | refine d1 rfl rfl (lop_slice_os (L := 0) rfl rfl Try.underlying23 Try.sizeOf47 ⟨_, _, rfl, rfl⟩ rfl (by omega) (by rw [hfl]; omega) (by decide)) ?_
      | refine d1 rfl rfl (lop_slice_sl rfl Try.underlying23 Try.sizeOf47 rfl ⟨_, _, rfl, rfl⟩ rfl (by omega) (by rw [hfl]; omega) rfl) ?_
    refine d1w rfl rfl (lop_append_in (R := [500]) rfl rfl rfl (.os Try.underlying23 (List.mem_singleton.2 rfl) rfl (by rw [hfl]; omega) rfl) (by rw [hfl]; omega) Try.underlying23 info47 (by decide)) ?_
    first
      | refine d1 rfl rfl (lop_assign (v := .sl _ _) rfl) ?_
      | refine d1 rfl rfl (lop_assign (v := .os _ _ _ _) rfl) ?_
      | refine d1 rfl rfl (lop_assign (v := .z0) rfl) ?_
    refine dr_nil (by kernel_rfl) ?_
    refine ok_reg ?_
    have hdl : ((L.take k ++ L.drop (k + 1)).flatMap NameD.enc).length = (n - 1) * 5 := by rw [flat_length NameD.len, List.length_append, List.length_take, List.length_drop, hn]; congr 1; omega
    have htl : ((L.drop (n - 1)).flatMap NameD.enc).length = 5 := by rw [flat_length NameD.len, List.length_drop, hn]; omega
    refine ops_le (T := ⟨[(0, .os 500 0 5 (n - 1)), (7, i64 n)], [(500, some (true, (L.take k ++ L.drop (k + 1)).flatMap NameD.enc ++ (L.drop (n - 1)).flatMap NameD.enc))], 33⟩) (le_mk ⟨congrArg (V.os 500 0 5) (by omega), rfl, trivial⟩ ⟨.inr (by refine congrArg (fun c => some (true, c)) (?_ : vsplice _ _ _ = _); exact del_shift NameD.len hn hk), trivial⟩ rfl) ?_
    first
      | refine s1 rfl (lop_move (v := .sl _ _) rfl) ?_
      | refine s1 rfl (lop_move (v := .os _ _ _ _) rfl) ?_
      | refine s1 rfl (lop_move (v := .z0) rfl) ?_
    first
      | refine s1 rfl (lop_move (v := .sl _ _) rfl) ?_
      | refine s1 rfl (lop_move (v := .os _ _ _ _) rfl) ?_
      | refine s1 rfl (lop_move (v := .z0) rfl) ?_
    refine s1 rfl (lop_len rfl Try.underlying23 ⟨⟨_, rfl⟩, rfl⟩) ?_
    refine s1 rfl (lop_move (v := .int _ _) rfl) ?_
    first
      | refine s1 rfl (lop_slice_z0 rfl Try.underlying23 Try.sizeOf47 ⟨_, _, rfl, rfl⟩ ⟨_, _, rfl, rfl⟩) ?_
      | refine s1 rfl (lop_slice_os (L := 0) rfl rfl Try.underlying23 Try.sizeOf47 ⟨_, _, rfl, rfl⟩ ⟨_, _, rfl, rfl⟩ (by omega) (by rw [List.length_append, hdl, htl]; omega) (by decide)) ?_
      | refine s1 rfl (lop_slice_sl rfl Try.underlying23 Try.sizeOf47 rfl ⟨_, _, rfl, rfl⟩ ⟨_, _, rfl, rfl⟩ (by omega) (by rw [List.length_append, hdl, htl]; omega) rfl) ?_
    refine s0w rfl (lop_clear rfl rfl (by rw [List.length_append, hdl, htl]; omega) Try.underlying23 info47 rfl rfl) ?_
    refine ops_nil ?_
    refine ok_reg ?_
    refine ops_le (T := ⟨[(0, .os 500 0 5 (n - 1))], [(500, some (true, (L.take k ++ L.drop (k + 1)).flatMap NameD.enc ++ (List.replicate (n - (n - 1)) (ofC (.agg #[(.string ByteArray.empty), (.int .i64 0), (.int .i64 0), (.int .i64 0), (.int .u32 0)])).cells).flatten))], 33⟩) (le_mk ⟨rfl, trivial⟩ ⟨.inr (by refine congrArg (fun c => some (true, c)) (?_ : vsplice _ _ _ = _); have hz : ((List.replicate (n - (n - 1)) (ofC (.agg #[(.string ByteArray.empty), (.int .i64 0), (.int .i64 0), (.int .i64 0), (.int .u32 0)])).cells).flatten).length = (n - (n - 1)) * 5 := rep_flat rfl _; have eD : ((L.drop (n - 1)).flatMap NameD.enc).drop ((List.replicate (n - (n - 1)) (ofC (.agg #[(.string ByteArray.empty), (.int .i64 0), (.int .i64 0), (.int .i64 0), (.int .u32 0)])).cells).flatten).length = [] := List.drop_of_length_le (by rw [htl, hz]; omega); rw [vs_app (by rw [hdl]; omega), eD, List.append_nil]), trivial⟩ rfl) ?_
    first
      | refine s1 rfl (lop_move (v := .sl _ _) rfl) ?_
      | refine s1 rfl (lop_move (v := .os _ _ _ _) rfl) ?_
      | refine s1 rfl (lop_move (v := .z0) rfl) ?_
    first
      | refine s1 rfl (lop_assign (v := .sl _ _) rfl) ?_
      | refine s1 rfl (lop_assign (v := .os _ _ _ _) rfl) ?_
      | refine s1 rfl (lop_assign (v := .z0) rfl) ?_
    refine ops_nil ?_
    refine ok_ret ?_
    refine RetH_le (le_take (t := 500) (k := (n - 1) * 5) rfl (by rw [List.take_append_of_le_length (by rw [hdl]; exact Nat.le_refl _), List.take_of_length_le (by rw [hdl]; exact Nat.le_refl _)])) ?_
    exact ⟨[.os 501 0 5 (n - 1)], ⟨[(6, .os 501 0 5 (n - 1))], [(501, some (true, (L.take k ++ L.drop (k + 1)).flatMap NameD.enc))], 33⟩, le_ren [(501, some 500)] ⟨rfl, trivial⟩ rfl ⟨⟨_, rfl, rfl⟩, trivial⟩ rfl rfl rfl, ⟨_, _, rfl, ⟨rfl, rfl⟩, rfl⟩, rfl, rfl, fun i v h => by match i with
                                                                                                                                                                         | 0 => simp at h; subst h; rfl
                                                                                                                                                                         | 1 => simp at h; subst h; rfl
                                                                                                                                                                         | 2 => simp at h; subst h; rfl
                                                                                                                                                                         | i + 3 => simp at h⟩

end Go.Proofs
