/- Chapter 15: walks. Printed by gen.py. -/
import Derived.Test.YtajlkpogccbboaaT15b
import Derived.Test.YtajlkpogccbboaaHgX
set_option linter.unusedVariables false
set_option linter.unusedSimpArgs false
set_option maxRecDepth 100000
namespace Go.Proofs
open Go.Hg

def revI {α : Type} (L : List α) : Nat → List α
  | 0 => L
  | i + 1 => match (revI L i)[L.length - 1 - i]?, (revI L i)[i]? with
    | some a, some b => ((revI L i).set i a).set (L.length - 1 - i) b
    | _, _ => revI L i
theorem revI_len {α : Type} (L : List α) : ∀ i, (revI L i).length = L.length
  | 0 => rfl
  | i + 1 => by
    have ih := revI_len L i
    simp only [revI]
    split
    · simp [ih]
    · exact ih
theorem revI_succ {α : Type} {L : List α} {i : Nat} (h1 : L.length - 1 - i < (revI L i).length) (h2 : i < (revI L i).length) : revI L (i + 1) = ((revI L i).set i (revI L i)[L.length - 1 - i]).set (L.length - 1 - i) (revI L i)[i] := by
  simp only [revI, List.getElem?_eq_getElem h1, List.getElem?_eq_getElem h2]
theorem revI_get {α : Type} {L : List α} : ∀ {i : Nat}, 2 * i ≤ L.length → ∀ k, k < L.length → (revI L i)[k]? = if k < i ∨ L.length - i ≤ k then L[L.length - 1 - k]? else L[k]?
  | 0, _, k, hk => by rw [if_neg (by omega)]; rfl
  | i + 1, h, k, hk => by
    have ih := revI_get (L := L) (i := i) (by omega)
    have hl := revI_len L i
    have h1 : L.length - 1 - i < (revI L i).length := by omega
    have h2 : i < (revI L i).length := by omega
    have e1 := ih (L.length - 1 - i) (by omega)
    have e2 := ih i (by omega)
    rw [if_neg (by omega)] at e1 e2
    have a1 : some (revI L i)[L.length - 1 - i] = L[L.length - 1 - i]? := by rw [← e1, List.getElem?_eq_getElem h1]
    have a2 : some (revI L i)[i] = L[i]? := by rw [← e2, List.getElem?_eq_getElem h2]
    rw [revI_succ h1 h2, List.getElem?_set, List.getElem?_set]
    by_cases c1 : L.length - 1 - i = k
    · rw [if_pos c1, if_pos (by rw [List.length_set]; omega), if_pos (by omega), a2, show L.length - 1 - k = i by omega]
    · rw [if_neg c1]
      by_cases c2 : i = k
      · rw [if_pos c2, if_pos (by omega), if_pos (by omega), a1, c2]
      · rw [if_neg c2, ih k hk]
        by_cases c3 : k < i ∨ L.length - i ≤ k
        · rw [if_pos c3, if_pos (by omega)]
        · rw [if_neg c3, if_neg (by omega)]
theorem revI_rev {α : Type} {L : List α} {i : Nat} (h : 2 * i ≤ L.length) (h2 : L.length ≤ 2 * i + 1) : revI L i = L.reverse := by
  apply List.ext_getElem?
  intro k
  rcases Nat.lt_or_ge k L.length with hk | hk
  · rw [revI_get h k hk, List.getElem?_reverse hk]
    by_cases c : k < i ∨ L.length - i ≤ k
    · rw [if_pos c]
    · rw [if_neg c, show L.length - 1 - k = k by omega]
  · rw [List.getElem?_eq_none (by rw [revI_len]; exact hk), List.getElem?_eq_none (by rw [List.length_reverse]; exact hk)]
section
variable {α : Type} {enc : α → List V} {sz : Nat}
theorem mid_len (hs : ∀ x, (enc x).length = sz) (A B : List V) (M : List α) : (A ++ M.flatMap enc ++ B).length = A.length + M.length * sz + B.length := by
  rw [List.length_append, List.length_append, flat_length hs]
theorem mid_at (hs : ∀ x, (enc x).length = sz) {A B : List V} {M : List α} {k off : Nat} (ho : A.length = off) (h : k < M.length) : ((A ++ M.flatMap enc ++ B).drop (off + k * sz)).take sz = enc M[k] := by
  subst ho
  have e : k * sz ≤ (M.flatMap enc).length := by rw [flat_length hs]; exact Nat.mul_le_mul_right _ (Nat.le_of_lt h)
  rw [List.append_assoc, List.drop_append, List.drop_of_length_le (by omega), List.nil_append, Nat.add_sub_cancel_left, List.drop_append_of_le_length e, flat_at hs h, List.append_assoc, List.take_append_of_le_length (by rw [hs]; exact Nat.le_refl _), List.take_of_length_le (by rw [hs]; exact Nat.le_refl _)]
theorem mid_fit (hs : ∀ x, (enc x).length = sz) {A B : List V} {M : List α} {k off : Nat} (ho : A.length = off) (h : k < M.length) : off + k * sz + sz ≤ (A ++ M.flatMap enc ++ B).length := by
  rw [mid_len hs]
  have := Nat.mul_le_mul_right sz (show k + 1 ≤ M.length from h)
  rw [Nat.add_mul] at this
  omega
theorem mid_set (hs : ∀ x, (enc x).length = sz) {A B : List V} {M : List α} {k off : Nat} (ho : A.length = off) (h : k < M.length) {x : α} : vsplice (A ++ M.flatMap enc ++ B) (off + k * sz) (enc x) = A ++ (M.set k x).flatMap enc ++ B := by
  subst ho
  have e : k * sz ≤ (M.flatMap enc).length := by rw [flat_length hs]; exact Nat.mul_le_mul_right _ (Nat.le_of_lt h)
  have e2 : k * sz + sz ≤ (M.flatMap enc).length := by rw [flat_length hs, show k * sz + sz = (k + 1) * sz by rw [Nat.add_mul]; omega]; exact Nat.mul_le_mul_right _ h
  have := flat_set hs h (x := x)
  unfold vsplice at this ⊢
  rw [Nat.zero_add] at this
  rw [hs] at this ⊢
  rw [← this]
  have e3 : A ++ M.flatMap enc ++ B = A ++ (M.flatMap enc ++ B) := List.append_assoc _ _ _
  rw [e3, List.take_append, List.take_of_length_le (show A.length ≤ A.length + k * sz by omega), Nat.add_sub_cancel_left, List.take_append_of_le_length e, List.drop_append, List.drop_of_length_le (show A.length ≤ A.length + k * sz + sz by omega), List.nil_append,
    show A.length + k * sz + sz - A.length = k * sz + sz by omega, List.drop_append_of_le_length e2]
  simp only [List.append_assoc]
theorem mid_ne (hs : ∀ x, (enc x).length = sz) (h0 : 0 < sz) {A B : List V} {M : List α} (h : 0 < M.length) : A ++ M.flatMap enc ++ B ≠ [] := by
  intro e
  have e1 := congrArg List.length e
  rw [mid_len hs] at e1
  have := Nat.mul_pos h h0
  simp at e1
  omega
end

theorem reverse_Name_ac {A B : List V} {L : List NameD} {off n : Nat} (ho : A.length = off) (hn : L.length = n) (hb : n ≤ 549755813888) : ACHk Try.prog 82 [.os 500 off 5 n] 500 true (A ++ L.flatMap NameD.enc ++ B) (.tup []) true (A ++ L.reverse.flatMap NameD.enc ++ B) := by
  refine ACHk.intro Try.func82 rfl (Nat.le_of_ble_eq_true rfl) (Nat.le_of_ble_eq_true rfl) ?_
  refine ok_reg ?_
  first
    | refine s1 rfl (lop_move (v := .sl _ _) rfl) ?_
    | refine s1 rfl (lop_move (v := .os _ _ _ _) rfl) ?_
    | refine s1 rfl (lop_move (v := .z0) rfl) ?_
  refine s1 rfl (lop_len rfl Try.underlying23 ⟨⟨_, rfl⟩, rfl⟩) ?_
  refine s1 rfl (lop_bop rfl rfl rfl (bop_sub (by omega) (by omega))) ?_
  refine s1 rfl (lop_assign (v := .int _ _) rfl) ?_
  refine s1 rfl (lop_assign (v := .int _ _) rfl) ?_
  refine ops_nil ?_
  refine ok_block ?_
  refine ok_loop (ι := {i : Nat // 2 * i ≤ n}) (fun i => ⟨[(0, .os 500 off 5 n), (2, i64 i.1), (3, i64 ((n : Int) - 1 - i.1)), (1048576, .rf 500 0)], [(500, some (true, A ++ (revI L i.1).flatMap NameD.enc ++ B))], 28⟩) (fun i => n - i.1) (⟨0, Nat.zero_le _⟩) ?_ ?_
  · exact le_mk ⟨rfl, rfl, congrArg i64 (by simp only [Int.natCast_zero, Int.sub_zero]), rfl, trivial⟩ ⟨.inr rfl, trivial⟩ rfl
  rintro ⟨i, hi⟩
  dsimp only
  have hl := revI_len L i
  refine ok_seq ?_
  refine ok_reg ?_
  refine s1 rfl (lop_move (v := .int _ _) rfl) ?_
  refine s1 rfl (lop_move (v := .int _ _) rfl) ?_
  refine s1 rfl (lop_lss rfl rfl) ?_
  refine ops_nil ?_
  first
    | refine ok_if _ rfl rfl (fun h_t9 => ?_) (fun h_t9 => ?_)
    | refine ok_cond rfl rfl (fun h_t9 => ?_) (fun h_t9 => ?_)
  · have hi1 : i < (revI L i).length := by omega
    have hj1 : L.length - 1 - i < (revI L i).length := by omega
    refine ok_skip ?_
    refine ok_seq ?_
    refine ok_block ?_
    refine ok_draw Try.mixed ?_
    first
      | refine d1 rfl rfl (lop_move (v := .sl _ _) rfl) ?_
      | refine d1 rfl rfl (lop_move (v := .os _ _ _ _) rfl) ?_
      | refine d1 rfl rfl (lop_move (v := .z0) rfl) ?_
    refine d1 rfl rfl (lop_move (v := .int _ _) rfl) ?_
    first
      | refine d1 rfl rfl (lop_move (v := .sl _ _) rfl) ?_
      | refine d1 rfl rfl (lop_move (v := .os _ _ _ _) rfl) ?_
      | refine d1 rfl rfl (lop_move (v := .z0) rfl) ?_
    refine d1 rfl rfl (lop_move (v := .int _ _) rfl) ?_
    first
      | refine d1 rfl rfl (lop_move (v := .sl _ _) rfl) ?_
      | refine d1 rfl rfl (lop_move (v := .os _ _ _ _) rfl) ?_
      | refine d1 rfl rfl (lop_move (v := .z0) rfl) ?_
    refine d1 rfl rfl (lop_move (v := .int _ _) rfl) ?_
    first
      | refine d1 rfl rfl (lop_indexAddr_os rfl rfl Try.underlying23 Try.sizeOf47 (show _ = ((L.length - 1 - i : Nat) : Int) by omega) (by omega)) ?_
      | refine d1 rfl rfl (lop_indexAddr_sl rfl rfl Try.underlying23 Try.sizeOf47 (show _ = ((L.length - 1 - i : Nat) : Int) by omega) (by omega) rfl (by omega)) ?_
    refine d1 rfl rfl (lop_load_rf_agg (ys := NameD.enc (revI L i)[L.length - 1 - i]) rfl rfl Try.isAgg47 Try.sizeOf47 (mid_fit NameD.len ho hj1) (mid_at NameD.len ho hj1)) ?_
    first
      | refine d1 rfl rfl (lop_move (v := .sl _ _) rfl) ?_
      | refine d1 rfl rfl (lop_move (v := .os _ _ _ _) rfl) ?_
      | refine d1 rfl rfl (lop_move (v := .z0) rfl) ?_
    refine d1 rfl rfl (lop_move (v := .int _ _) rfl) ?_
    first
      | refine d1 rfl rfl (lop_indexAddr_os rfl rfl Try.underlying23 Try.sizeOf47 rfl (by omega)) ?_
      | refine d1 rfl rfl (lop_indexAddr_sl rfl rfl Try.underlying23 Try.sizeOf47 rfl (by omega) rfl (by omega)) ?_
    refine d1 rfl rfl (lop_load_rf_agg (ys := NameD.enc (revI L i)[i]) rfl rfl Try.isAgg47 Try.sizeOf47 (mid_fit NameD.len ho hi1) (mid_at NameD.len ho hi1)) ?_
    first
      | refine d1 rfl rfl (lop_indexAddr_os rfl rfl Try.underlying23 Try.sizeOf47 rfl (by omega)) ?_
      | refine d1 rfl rfl (lop_indexAddr_sl rfl rfl Try.underlying23 Try.sizeOf47 rfl (by omega) rfl (by omega)) ?_
    refine d0w rfl rfl (lop_store (v := .agg (NameD.enc (revI L i)[L.length - 1 - i])) rfl rfl rfl Try.sizeOf47 rfl rfl (mid_fit NameD.len ho hi1)) ?_
    first
      | refine d1 rfl rfl (lop_indexAddr_os rfl rfl Try.underlying23 Try.sizeOf47 (show _ = ((L.length - 1 - i : Nat) : Int) by omega) (by omega)) ?_
      | refine d1 rfl rfl (lop_indexAddr_sl rfl rfl Try.underlying23 Try.sizeOf47 (show _ = ((L.length - 1 - i : Nat) : Int) by omega) (by omega) rfl (by omega)) ?_
    refine d0w rfl rfl (lop_store (v := .agg (NameD.enc (revI L i)[i])) rfl rfl rfl Try.sizeOf47 rfl rfl (by show _ ≤ (vsplice _ _ (NameD.enc _)).length; rw [mid_set NameD.len ho hi1]; exact mid_fit NameD.len ho (by rw [List.length_set]; exact hj1))) ?_
    refine dr_nil (by kernel_rfl) ?_
    refine ok_region ?_
    refine s1 rfl (lop_move (v := .int _ _) rfl) ?_
    refine s1 rfl (lop_bop rfl rfl rfl (bop_add (by omega) (by omega))) ?_
    refine s1 rfl (lop_move (v := .int _ _) rfl) ?_
    refine s1 rfl (lop_bop rfl rfl rfl (bop_sub (by omega) (by omega))) ?_
    refine s1 rfl (lop_assign (v := .int _ _) rfl) ?_
    refine s1 rfl (lop_assign (v := .int _ _) rfl) ?_
    refine ops_nil ?_
    exact ⟨⟨i + 1, by omega⟩, by simp only; omega, le_mk ⟨rfl, rfl, congrArg i64 (by simp only; omega), rfl, trivial⟩ ⟨.inr (by show _ = some (true, A ++ (revI L (i + 1)).flatMap NameD.enc ++ B); rw [revI_succ hj1 hi1, ← mid_set NameD.len ho (by rw [List.length_set]; exact hj1), ← mid_set NameD.len ho hi1]; rfl), trivial⟩ rfl⟩
  · refine ok_exit ?_
    exact ⟨[], ⟨[(1048576, .rf 500 0)], [(500, some (true, A ++ L.reverse.flatMap NameD.enc ++ B))], 28⟩, le_mk ⟨rfl, trivial⟩ ⟨.inr (by rw [← revI_rev (i := i) (by omega) (by omega)]; rfl), trivial⟩ rfl, rfl, rfl, rfl, rfl⟩

end Go.Proofs
