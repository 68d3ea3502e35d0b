/- Chapter 16: walks. Printed by gen.py. -/
import Derived.Test.YtikikdgfebbcmaaT16x
import Derived.Test.YtikikdgfebbcmaaHgT
set_option linter.unusedVariables false
set_option linter.unusedSimpArgs false
set_option maxRecDepth 100000
namespace Go.Proofs
open Go.Hg

structure PartD where
  at_ : Int
  bytes : ByteArray
def PartD.enc (p : PartD) : List V := [i64 p.at_, .str p.bytes]
theorem PartD.len (x : PartD) : x.enc.length = 2 := rfl
def selP (s : SpanD) (p : PartD) : Bool := decide (p.at_ = s.off) && decide ((p.bytes.size : Int) = s.n)
def withinB (a n s : Int) : Bool := decide (0 ≤ a ∧ 0 ≤ n ∧ a ≤ s ∧ n ≤ s - a)
def writeL (b : List UInt8) (p : PartD) : List UInt8 := b.take p.at_.toNat ++ p.bytes.data.toList ++ b.drop (p.at_.toNat + p.bytes.size)
def layB (n : Nat) (ps : List PartD) : List UInt8 := ps.foldl writeL (List.replicate n 0)
def layF (n : Nat) (ps : List PartD) : ByteArray × Int := if ps.all (fun p => withinB p.at_ p.bytes.size n) then (⟨(layB n ps).toArray⟩, 0) else (⟨#[]⟩, 1)
theorem within_at {a n s : Int} (h : withinB a n s = true) : 0 ≤ a ∧ 0 ≤ n ∧ a ≤ s ∧ n ≤ s - a := of_decide_eq_true h
theorem data_len (s : ByteArray) : s.data.toList.length = s.size := by simp
theorem writeL_len {b : List UInt8} {p : PartD} (h : withinB p.at_ p.bytes.size b.length = true) : (writeL b p).length = b.length := by
  have := within_at h
  unfold writeL
  simp only [List.length_append, List.length_take, List.length_drop, data_len]
  omega
theorem layB_len {n : Nat} {ps : List PartD} (h : ∀ p ∈ ps, withinB p.at_ p.bytes.size n = true) : (layB n ps).length = n := by
  unfold layB
  have : ∀ (ps : List PartD) (b : List UInt8), b.length = n → (∀ p ∈ ps, withinB p.at_ p.bytes.size n = true) → (ps.foldl writeL b).length = n := by
    intro ps
    induction ps with
    | nil => intro b hb _; exact hb
    | cons p ps ih =>
      intro b hb hw
      refine ih _ ?_ (fun q hq => hw q (List.mem_cons_of_mem _ hq))
      rw [writeL_len (by rw [hb]; exact hw p List.mem_cons_self), hb]
  exact this ps _ (by simp) h
theorem write_row {b : List UInt8} {p : PartD} : vsplice (rowV b) (0 + p.at_.toNat * 1) ((bytesV p.bytes).take (p.bytes.size * 1)) = rowV (writeL b p) := by
  unfold vsplice writeL
  have e : (bytesV p.bytes).take p.bytes.size = bytesV p.bytes := List.take_of_length_le (by rw [bytesV_length]; omega)
  rw [show 0 + p.at_.toNat * 1 = p.at_.toNat by omega, Nat.mul_one, e, bytesV_length, bytesV_eq, rowV_take, rowV_drop, rowV_append, rowV_append]
theorem rep_row (n : Nat) : (List.replicate n [V.int .u8 0]).flatten = rowV (layB n []) := by
  unfold layB rowV
  induction n with
  | zero => rfl
  | succ n ih => 
    rw [List.replicate_succ, List.flatten_cons, ih]
    simp [List.replicate_succ]
theorem layB_succ {n : Nat} {ps : List PartD} {i : Nat} (h : i < ps.length) : layB n (ps.take (i + 1)) = writeL (layB n (ps.take i)) ps[i] := by
  unfold layB
  rw [List.take_add_one, List.getElem?_eq_getElem h, List.foldl_append]
  rfl
theorem len_take {ps : List PartD} {n i : Nat} (hn : ∀ j, (h : j < ps.length) → j < i → withinB ps[j].at_ ps[j].bytes.size n = true) : (layB n (ps.take i)).length = n := by
  refine layB_len (fun p hp => ?_)
  obtain ⟨j, hj, rfl⟩ := List.getElem_of_mem hp
  rw [List.length_take] at hj
  rw [List.getElem_take]
  exact hn j (by omega) (by omega)
theorem all_step {ps : List PartD} {n i : Nat} (hn : ∀ j, (h : j < ps.length) → j < i → withinB ps[j].at_ ps[j].bytes.size n = true) (h : i < ps.length) (hi : withinB ps[i].at_ ps[i].bytes.size n = true) : ∀ j, (h : j < ps.length) → j < i + 1 → withinB ps[j].at_ ps[j].bytes.size n = true := by
  intro j hj hlt
  rcases Nat.lt_or_ge j i with h1 | h1
  · exact hn j hj h1
  · have : j = i := by omega
    subst this; exact hi
theorem layF_no {ps : List PartD} {n i : Nat} (h : i < ps.length) (hi : withinB ps[i].at_ ps[i].bytes.size n = false) : layF n ps = (⟨#[]⟩, 1) := by
  unfold layF
  rw [if_neg]
  intro h2
  rw [List.all_eq_true] at h2
  have := h2 _ (List.getElem_mem h)
  rw [hi] at this; cases this
theorem layF_yes {ps : List PartD} {n : Nat} (hn : ∀ j, (h : j < ps.length) → j < ps.length → withinB ps[j].at_ ps[j].bytes.size n = true) : layF n ps = (⟨(layB n ps).toArray⟩, 0) := by
  unfold layF
  rw [if_pos]
  rw [List.all_eq_true]
  intro p hp
  obtain ⟨j, hj, rfl⟩ := List.getElem_of_mem hp
  exact hn j hj hj

theorem indexFunc_Part_ac {g : FuncId} {caps : List V} {p : PartD → Bool} {l : List PartD} (hl : l.length ≤ 1048576) (hc : ∀ args w, (callFunc g args).run Try.prog w = .ok (.enter g args) w) (ht : tfL caps = true)
    (hp : ∀ x ∈ l, AC Try.prog g (.agg (PartD.enc x) :: caps) (.bool (p x))) : AC Try.prog 42 [rowOf PartD.enc l, .fn g caps] (i64 (idxOf p l)) := by
  refine AC.intro Try.func42 rfl (Nat.le_of_ble_eq_true rfl) ?_
  refine ok_reg ?_
  refine s1 rfl (lop_assign (v := .int _ _) rfl) ?_
  refine ops_nil ?_
  refine ok_seq ?_
  refine ok_reg ?_
  first
    | refine s1 rfl (lop_move (v := .sl _ _) rfl) ?_
    | refine s1 rfl (lop_move (v := .os _ _ _ _) rfl) ?_
    | refine s1 rfl (lop_move (v := .z0) rfl) ?_
  refine s1 rfl (lop_len rfl Try.underlying56 ⟨⟨_, rfl⟩, rfl⟩) ?_
  refine s1 rfl (lop_move (v := .int _ _) rfl) ?_
  refine ops_nil ?_
  refine ok_block ?_
  refine ok_loop (ι := {i : Nat // i ≤ l.length ∧ ∀ j, (h : j < l.length) → j < i → p l[j] = false}) (fun i => ⟨[(0, rowOf PartD.enc l), (1, .fn g caps), (7, i64 l.length), (8, i64 i.1)], [], 19⟩) (fun i => l.length - i.1) (⟨0, Nat.zero_le _, fun _ _ h => absurd h (Nat.not_lt_zero _)⟩) ?_ ?_
  · exact le_mk ⟨rfl, rfl, rfl, rfl, trivial⟩ trivial rfl
  rintro ⟨i, hi, hn⟩
  dsimp only
  refine ok_reg ?_
  refine s1 rfl (lop_lss rfl rfl) ?_
  refine ops_nil ?_
  refine ok_seq ?_
  first
    | refine ok_if _ rfl rfl (fun h_t9 => ?_) (fun h_t9 => ?_)
    | refine ok_cond rfl rfl (fun h_t9 => ?_) (fun h_t9 => ?_)
  · have h_t9 : i < l.length := by simpa using h_t9
    refine ok_skip ?_
    refine ok_seq ?_
    refine ok_block ?_
    refine ok_reg ?_
    refine s1 rfl (lop_move (v := .int _ _) rfl) ?_
    refine s1 rfl (lop_assign (v := .int _ _) rfl) ?_
    refine ops_nil ?_
    refine ok_reg ?_
    first
      | refine s1 rfl (lop_move (v := .fn _ _) rfl) ?_
      | refine s1 rfl (lop_move (v := _) rfl) ?_
    first
      | refine s1 rfl (lop_move (v := .sl _ _) rfl) ?_
      | refine s1 rfl (lop_move (v := .os _ _ _ _) rfl) ?_
      | refine s1 rfl (lop_move (v := .z0) rfl) ?_
    refine s1 rfl (lop_move (v := .int _ _) rfl) ?_
    first
      | refine s1 rfl (lop_indexAddr_os rfl rfl Try.underlying56 Try.sizeOf62 rfl h_t9) ?_
      | refine s1 rfl (lop_indexAddr_sl rfl rfl Try.underlying56 Try.sizeOf62 rfl h_t9 (flat_at PartD.len h_t9) (flat_ne PartD.len (by decide) h_t9)) ?_
    first
      | refine s1 rfl (lop_load_rf_agg rfl rfl Try.isAgg62 Try.sizeOf62 (by rw [List.length_append, PartD.len]; omega) (by rw [List.take_append_of_le_length (by rw [PartD.len]; omega), List.take_of_length_le (by rw [PartD.len]; omega)])) ?_
      | refine s1 rfl (lop_load_fp_agg rfl Try.isAgg62 Try.sizeOf62 (by rw [List.length_append, PartD.len]; omega) (by rw [List.take_append_of_le_length (by rw [PartD.len]; omega), List.take_of_length_le (by rw [PartD.len]; omega)])) ?_
    refine s1 rfl (lop_call rfl hc (FrzL.tf (show tfL (V.agg (PartD.enc l[i]) :: caps) = true by simp only [tfL, ht, Bool.and_true]; rfl)) (.inl rfl) (hp l[i] (List.getElem_mem _))) ?_
    refine ops_nil ?_
    first
      | refine ok_if _ rfl rfl (fun h_t16 => ?_) (fun h_t16 => ?_)
      | refine ok_cond rfl rfl (fun h_t16 => ?_) (fun h_t16 => ?_)
    · refine ok_reg ?_
      refine s1 rfl (lop_move (v := .int _ _) rfl) ?_
      refine s1 rfl (lop_assign (v := .int _ _) rfl) ?_
      refine ops_nil ?_
      refine ok_ret ?_
      exact ret_one rfl rfl rfl rfl (congrArg i64 (idxOf_at h_t9 h_t16 hn))
    · refine ok_skip ?_
      refine ok_region ?_
      refine s1 rfl (lop_bop rfl rfl rfl (bop_add (by omega) (by omega))) ?_
      refine s1 rfl (lop_move (v := .int _ _) rfl) ?_
      refine ops_nil ?_
      exact ⟨⟨i + 1, by omega, none_step hn h_t9 h_t16⟩, by simp only; omega, le_mk ⟨rfl, rfl, rfl, rfl, trivial⟩ trivial rfl⟩
  · refine ok_exit ?_
    refine ok_reg ?_
    refine s1 rfl (lop_assign (v := .int _ _) rfl) ?_
    refine ops_nil ?_
    refine ok_ret ?_
    exact ret_one rfl rfl rfl rfl (congrArg i64 (idxOf_no fun j hj => hn j hj (by omega)))

theorem fill1_ac (p : PartD) (s : SpanD) : AC Try.prog 43 [.agg p.enc, .fp s.enc] (.bool (selP s p)) := by
  refine AC.intro Try.func43 rfl (Nat.le_of_ble_eq_true rfl) ?_
  refine ok_reg ?_
  first
    | refine s1w rfl (lop_box (t := 2) (v := .agg [.int _ _, .str _]) (f := true) (cs := [.int _ _, .str _]) rfl rfl rfl rfl (fun h => by cases h)) rfl ?_
    | refine s1w rfl (lop_box (t := 2) (v := .agg [.int _ _, .str _]) (f := false) (cs := [.int _ _, .str _]) rfl rfl rfl rfl (fun _ => rfl)) rfl ?_
  refine s1 rfl (lop_assign (v := .bool _) rfl) ?_
  refine ops_nil ?_
  refine ok_reg ?_
  first
    | refine s1 rfl (lop_fieldAddr_rf (fo := 0) rfl Try.underlying62 rfl rfl Try.sizeOf3 (by decide)) ?_
    | refine s1 rfl (lop_fieldAddr_fp (fo := 0) rfl Try.underlying62 rfl rfl Try.sizeOf3 (by decide) rfl) ?_
  first
    | refine s1 rfl (lop_load_rf rfl rfl Try.isAgg3 rfl) ?_
    | refine s1 rfl (lop_load_fp rfl Try.isAgg3 rfl) ?_
  first
    | refine s1 rfl (lop_fieldAddr_rf (fo := 0) rfl Try.underlying60 rfl rfl Try.sizeOf3 (by decide)) ?_
    | refine s1 rfl (lop_fieldAddr_fp (fo := 0) rfl Try.underlying60 rfl rfl Try.sizeOf3 (by decide) rfl) ?_
  first
    | refine s1 rfl (lop_load_rf rfl rfl Try.isAgg3 rfl) ?_
    | refine s1 rfl (lop_load_fp rfl Try.isAgg3 rfl) ?_
  refine s1 rfl (lop_eql rfl rfl) ?_
  refine s1 rfl (lop_move (v := .bool _) rfl) ?_
  first
    | refine gsplitP 5 rfl rfl (fun g1_5 p1_5 => ?_) (fun g1_5 p1_5 => ?_)
    | refine gsplitB 5 rfl rfl (fun g1_5 p1_5 => ?_) (fun g1_5 p1_5 => ?_)
  · first
      | refine y1 rfl rfl g1_5 rfl (lop_fieldAddr_rf (fo := 1) rfl Try.underlying62 rfl rfl Try.sizeOf9 (by decide)) ?_
      | refine y1 rfl rfl g1_5 rfl (lop_fieldAddr_fp (fo := 1) rfl Try.underlying62 rfl rfl Try.sizeOf9 (by decide) rfl) ?_
    first
      | refine y1 rfl rfl g1_5 rfl (lop_load_rf rfl rfl Try.isAgg9 rfl) ?_
      | refine y1 rfl rfl g1_5 rfl (lop_load_fp rfl Try.isAgg9 rfl) ?_
    refine y1 rfl rfl g1_5 rfl (lop_len rfl Try.underlying9 ⟨rfl, rfl⟩) ?_
    first
      | refine y1 rfl rfl g1_5 rfl (lop_fieldAddr_rf (fo := 1) rfl Try.underlying60 rfl rfl Try.sizeOf3 (by decide)) ?_
      | refine y1 rfl rfl g1_5 rfl (lop_fieldAddr_fp (fo := 1) rfl Try.underlying60 rfl rfl Try.sizeOf3 (by decide) rfl) ?_
    first
      | refine y1 rfl rfl g1_5 rfl (lop_load_rf rfl rfl Try.isAgg3 rfl) ?_
      | refine y1 rfl rfl g1_5 rfl (lop_load_fp rfl Try.isAgg3 rfl) ?_
    refine y1 rfl rfl g1_5 rfl (lop_eql rfl rfl) ?_
    first
      | refine s1 rfl (lop_pick_t (v := .bool _) rfl g1_5 rfl) ?_
      | refine s1 rfl (lop_pick_t (v := .bool _) rfl rfl rfl) ?_
      | refine s1 rfl (lop_pick_f (v := .bool _) rfl rfl rfl) ?_
      | refine s1 rfl (lop_pick rfl rfl rfl) ?_
    refine s1 rfl (lop_assign (v := .bool _) rfl) ?_
    refine ops_nil ?_
    refine ok_ret ?_
    exact ret_one rfl rfl rfl rfl (congrArg V.bool (by unfold selP; simp [*]))
  · refine n1 rfl rfl g1_5 ?_
    refine n1 rfl rfl g1_5 ?_
    refine n1 rfl rfl g1_5 ?_
    refine n1 rfl rfl g1_5 ?_
    refine n1 rfl rfl g1_5 ?_
    refine n1 rfl rfl g1_5 ?_
    first
      | refine s1 rfl (lop_pick_f (v := .bool _) rfl g1_5 rfl) ?_
      | refine s1 rfl (lop_pick_t (v := .bool _) rfl rfl rfl) ?_
      | refine s1 rfl (lop_pick_f (v := .bool _) rfl rfl rfl) ?_
      | refine s1 rfl (lop_pick rfl rfl rfl) ?_
    refine s1 rfl (lop_assign (v := .bool _) rfl) ?_
    refine ops_nil ?_
    refine ok_ret ?_
    exact ret_one rfl rfl rfl rfl (congrArg V.bool (by unfold selP; simp [*]))

theorem within_ac {a n s : Int} (hs : R64 s) : AC Try.prog 67 [i64 a, i64 n, i64 s] (.bool (withinB a n s)) := by
  refine AC.intro Try.func67 rfl (Nat.le_of_ble_eq_true rfl) ?_
  refine ok_reg ?_
  refine s1 rfl (lop_assign (v := .bool _) rfl) ?_
  refine ops_nil ?_
  refine ok_reg ?_
  refine s1 rfl (lop_move (v := .int _ _) rfl) ?_
  refine s1 rfl (lop_geq rfl rfl) ?_
  refine s1 rfl (lop_move (v := .bool _) rfl) ?_
  first
    | refine gsplitP 2 rfl rfl (fun g1_2 p1_2 => ?_) (fun g1_2 p1_2 => ?_)
    | refine gsplitB 2 rfl rfl (fun g1_2 p1_2 => ?_) (fun g1_2 p1_2 => ?_)
  · refine y1 rfl rfl g1_2 rfl (lop_move (v := .int _ _) rfl) ?_
    refine y1 rfl rfl g1_2 rfl (lop_geq rfl rfl) ?_
    first
      | refine s1 rfl (lop_pick_t (v := .bool _) rfl g1_2 rfl) ?_
      | refine s1 rfl (lop_pick_t (v := .bool _) rfl rfl rfl) ?_
      | refine s1 rfl (lop_pick_f (v := .bool _) rfl rfl rfl) ?_
      | refine s1 rfl (lop_pick rfl rfl rfl) ?_
    refine s1 rfl (lop_move (v := .bool _) rfl) ?_
    first
      | refine gsplitP 6 rfl rfl (fun g1_6 p1_6 => ?_) (fun g1_6 p1_6 => ?_)
      | refine gsplitB 6 rfl rfl (fun g1_6 p1_6 => ?_) (fun g1_6 p1_6 => ?_)
    · refine y1 rfl rfl g1_6 rfl (lop_move (v := .int _ _) rfl) ?_
      refine y1 rfl rfl g1_6 rfl (lop_move (v := .int _ _) rfl) ?_
      refine y1 rfl rfl g1_6 rfl (lop_leq rfl rfl) ?_
      first
        | refine s1 rfl (lop_pick_t (v := .bool _) rfl g1_2 rfl) ?_
        | refine s1 rfl (lop_pick_t (v := .bool _) rfl g1_6 rfl) ?_
        | refine s1 rfl (lop_pick_t (v := .bool _) rfl rfl rfl) ?_
        | refine s1 rfl (lop_pick_f (v := .bool _) rfl rfl rfl) ?_
        | refine s1 rfl (lop_pick rfl rfl rfl) ?_
      refine s1 rfl (lop_move (v := .bool _) rfl) ?_
      first
        | refine gsplitP 11 rfl rfl (fun g1_11 p1_11 => ?_) (fun g1_11 p1_11 => ?_)
        | refine gsplitB 11 rfl rfl (fun g1_11 p1_11 => ?_) (fun g1_11 p1_11 => ?_)
      · refine y1 rfl rfl g1_11 rfl (lop_move (v := .int _ _) rfl) ?_
        refine y1 rfl rfl g1_11 rfl (lop_move (v := .int _ _) rfl) ?_
        refine y1 rfl rfl g1_11 rfl (lop_move (v := .int _ _) rfl) ?_
        refine y1 rfl rfl g1_11 rfl (lop_bop rfl rfl rfl (bop_sub (by have := hs.1; have := hs.2; omega) (by have := hs.1; have := hs.2; omega))) ?_
        refine y1 rfl rfl g1_11 rfl (lop_leq rfl rfl) ?_
        first
          | refine s1 rfl (lop_pick_t (v := .bool _) rfl g1_2 rfl) ?_
          | refine s1 rfl (lop_pick_t (v := .bool _) rfl g1_6 rfl) ?_
          | refine s1 rfl (lop_pick_t (v := .bool _) rfl g1_11 rfl) ?_
          | refine s1 rfl (lop_pick_t (v := .bool _) rfl rfl rfl) ?_
          | refine s1 rfl (lop_pick_f (v := .bool _) rfl rfl rfl) ?_
          | refine s1 rfl (lop_pick rfl rfl rfl) ?_
        refine s1 rfl (lop_assign (v := .bool _) rfl) ?_
        refine ops_nil ?_
        refine ok_ret ?_
        exact ret_one rfl rfl rfl rfl (congrArg V.bool (by unfold withinB; first | (refine decide_eq_decide.2 ?_; omega) | (refine (decide_eq_false ?_).symm; omega)))
      · refine n1 rfl rfl g1_11 ?_
        refine n1 rfl rfl g1_11 ?_
        refine n1 rfl rfl g1_11 ?_
        refine n1 rfl rfl g1_11 ?_
        refine n1 rfl rfl g1_11 ?_
        first
          | refine s1 rfl (lop_pick_t (v := .bool _) rfl g1_2 rfl) ?_
          | refine s1 rfl (lop_pick_t (v := .bool _) rfl g1_6 rfl) ?_
          | refine s1 rfl (lop_pick_f (v := .bool _) rfl g1_11 rfl) ?_
          | refine s1 rfl (lop_pick_t (v := .bool _) rfl rfl rfl) ?_
          | refine s1 rfl (lop_pick_f (v := .bool _) rfl rfl rfl) ?_
          | refine s1 rfl (lop_pick rfl rfl rfl) ?_
        refine s1 rfl (lop_assign (v := .bool _) rfl) ?_
        refine ops_nil ?_
        refine ok_ret ?_
        exact ret_one rfl rfl rfl rfl (congrArg V.bool (by unfold withinB; first | (refine decide_eq_decide.2 ?_; omega) | (refine (decide_eq_false ?_).symm; omega)))
    · refine n1 rfl rfl g1_6 ?_
      refine n1 rfl rfl g1_6 ?_
      refine n1 rfl rfl g1_6 ?_
      first
        | refine s1 rfl (lop_pick_t (v := .bool _) rfl g1_2 rfl) ?_
        | refine s1 rfl (lop_pick_f (v := .bool _) rfl g1_6 rfl) ?_
        | refine s1 rfl (lop_pick_t (v := .bool _) rfl rfl rfl) ?_
        | refine s1 rfl (lop_pick_f (v := .bool _) rfl rfl rfl) ?_
        | refine s1 rfl (lop_pick rfl rfl rfl) ?_
      refine s1 rfl (lop_move (v := .bool _) rfl) ?_
      refine n1 rfl rfl rfl ?_
      refine n1 rfl rfl rfl ?_
      refine n1 rfl rfl rfl ?_
      refine n1 rfl rfl rfl ?_
      refine n1 rfl rfl rfl ?_
      first
        | refine s1 rfl (lop_pick_t (v := .bool _) rfl g1_2 rfl) ?_
        | refine s1 rfl (lop_pick_f (v := .bool _) rfl g1_6 rfl) ?_
        | refine s1 rfl (lop_pick_f (v := .bool _) rfl rfl rfl) ?_
        | refine s1 rfl (lop_pick_t (v := .bool _) rfl rfl rfl) ?_
        | refine s1 rfl (lop_pick_f (v := .bool _) rfl rfl rfl) ?_
        | refine s1 rfl (lop_pick rfl rfl rfl) ?_
      refine s1 rfl (lop_assign (v := .bool _) rfl) ?_
      refine ops_nil ?_
      refine ok_ret ?_
      exact ret_one rfl rfl rfl rfl (congrArg V.bool (by unfold withinB; first | (refine decide_eq_decide.2 ?_; omega) | (refine (decide_eq_false ?_).symm; omega)))
  · refine n1 rfl rfl g1_2 ?_
    refine n1 rfl rfl g1_2 ?_
    first
      | refine s1 rfl (lop_pick_f (v := .bool _) rfl g1_2 rfl) ?_
      | refine s1 rfl (lop_pick_t (v := .bool _) rfl rfl rfl) ?_
      | refine s1 rfl (lop_pick_f (v := .bool _) rfl rfl rfl) ?_
      | refine s1 rfl (lop_pick rfl rfl rfl) ?_
    refine s1 rfl (lop_move (v := .bool _) rfl) ?_
    refine n1 rfl rfl rfl ?_
    refine n1 rfl rfl rfl ?_
    refine n1 rfl rfl rfl ?_
    first
      | refine s1 rfl (lop_pick_f (v := .bool _) rfl g1_2 rfl) ?_
      | refine s1 rfl (lop_pick_f (v := .bool _) rfl rfl rfl) ?_
      | refine s1 rfl (lop_pick_t (v := .bool _) rfl rfl rfl) ?_
      | refine s1 rfl (lop_pick_f (v := .bool _) rfl rfl rfl) ?_
      | refine s1 rfl (lop_pick rfl rfl rfl) ?_
    refine s1 rfl (lop_move (v := .bool _) rfl) ?_
    refine n1 rfl rfl rfl ?_
    refine n1 rfl rfl rfl ?_
    refine n1 rfl rfl rfl ?_
    refine n1 rfl rfl rfl ?_
    refine n1 rfl rfl rfl ?_
    first
      | refine s1 rfl (lop_pick_f (v := .bool _) rfl g1_2 rfl) ?_
      | refine s1 rfl (lop_pick_f (v := .bool _) rfl rfl rfl) ?_
      | refine s1 rfl (lop_pick_f (v := .bool _) rfl rfl rfl) ?_
      | refine s1 rfl (lop_pick_t (v := .bool _) rfl rfl rfl) ?_
      | refine s1 rfl (lop_pick_f (v := .bool _) rfl rfl rfl) ?_
      | refine s1 rfl (lop_pick rfl rfl rfl) ?_
    refine s1 rfl (lop_assign (v := .bool _) rfl) ?_
    refine ops_nil ?_
    refine ok_ret ?_
    exact ret_one rfl rfl rfl rfl (congrArg V.bool (by unfold withinB; first | (refine decide_eq_decide.2 ?_; omega) | (refine (decide_eq_false ?_).symm; omega)))

theorem block_Lay_ac {n : Nat} (hn : n ≤ 65536) {ps : List PartD} (hp : ps.length ≤ 1048576) : AC Try.prog 44 [i64 n, rowOf PartD.enc ps] (.tup [.str (layF n ps).1, i64 (layF n ps).2]) := by
  refine AC.intro Try.func44 rfl (Nat.le_of_ble_eq_true rfl) ?_
  refine ok_reg ?_
  refine s1 rfl (lop_assign (v := .str _) rfl) ?_
  refine s1 rfl (lop_assign (v := .int _ _) rfl) ?_
  refine ops_nil ?_
  refine ok_seq ?_
  refine ok_reg ?_
  refine s1 rfl (lop_move (v := .int _ _) rfl) ?_
  refine s1 rfl (lop_lss rfl rfl) ?_
  refine s1 rfl (lop_move (v := .bool _) rfl) ?_
  first
    | refine gsplitP 2 rfl rfl (fun g1_2 p1_2 => ?_) (fun g1_2 p1_2 => ?_)
    | refine gsplitB 2 rfl rfl (fun g1_2 p1_2 => ?_) (fun g1_2 p1_2 => ?_)
  · exfalso; omega
  · refine y1 rfl rfl g1_2 rfl (lop_move (v := .int _ _) rfl) ?_
    refine y1 rfl rfl g1_2 rfl (lop_gtr rfl rfl) ?_
    first
      | refine s1 rfl (lop_pick_f (v := .bool _) rfl g1_2 rfl) ?_
      | refine s1 rfl (lop_pick_t (v := .bool _) rfl rfl rfl) ?_
      | refine s1 rfl (lop_pick_f (v := .bool _) rfl rfl rfl) ?_
      | refine s1 rfl (lop_pick rfl rfl rfl) ?_
    refine ops_nil ?_
    first
      | refine ok_if _ rfl rfl (fun h_t14 => ?_) (fun h_t14 => ?_)
      | refine ok_cond rfl rfl (fun h_t14 => ?_) (fun h_t14 => ?_)
    · exfalso; omega
    · refine ok_skip ?_
      refine ok_reg ?_
      refine s1 rfl (lop_move (v := .int _ _) rfl) ?_
      refine s1w rfl (lop_make2 (t := 16) (n := n) rfl rfl rfl rfl Try.underlying119 (info5) rfl (by omega) (by omega) (rep_row n)) rfl ?_
      first
        | refine s1 rfl (lop_assign (v := .sl _ _) rfl) ?_
        | refine s1 rfl (lop_assign (v := .os _ _ _ _) rfl) ?_
        | refine s1 rfl (lop_assign (v := .z0) rfl) ?_
      refine ops_nil ?_
      refine ok_seq ?_
      refine ok_reg ?_
      first
        | refine s1 rfl (lop_move (v := .sl _ _) rfl) ?_
        | refine s1 rfl (lop_move (v := .os _ _ _ _) rfl) ?_
        | refine s1 rfl (lop_move (v := .z0) rfl) ?_
      refine s1 rfl (lop_len rfl Try.underlying56 ⟨⟨_, rfl⟩, rfl⟩) ?_
      refine s1 rfl (lop_move (v := .int _ _) rfl) ?_
      refine ops_nil ?_
      refine ok_block ?_
      refine ok_loop (ι := {i : Nat // i ≤ ps.length ∧ ∀ j, (h : j < ps.length) → j < i → withinB ps[j].at_ ps[j].bytes.size n = true}) (fun i => ⟨[(0, i64 n), (6, .os 16 0 1 n), (17, rowOf PartD.enc ps), (18, i64 ps.length), (19, i64 i.1)], [(16, some (true, rowV (layB n (ps.take i.1))))], 41⟩) (fun i => ps.length - i.1) (⟨0, Nat.zero_le _, fun _ _ h => absurd h (Nat.not_lt_zero _)⟩) ?_ ?_
      · exact le_mk ⟨rfl, rfl, rfl, rfl, rfl, trivial⟩ ⟨.inr rfl, trivial⟩ rfl
      rintro ⟨i, hi, hn2⟩
      dsimp only
      have hlen := len_take hn2
      refine ok_reg ?_
      refine s1 rfl (lop_lss rfl rfl) ?_
      refine ops_nil ?_
      refine ok_seq ?_
      first
        | refine ok_if _ rfl rfl (fun h_t20 => ?_) (fun h_t20 => ?_)
        | refine ok_cond rfl rfl (fun h_t20 => ?_) (fun h_t20 => ?_)
      · have hri : i < ps.length := by omega
        refine ok_skip ?_
        refine ok_seq ?_
        refine ok_block ?_
        refine ok_reg ?_
        first
          | refine s1 rfl (lop_indexAddr_os rfl rfl Try.underlying56 Try.sizeOf62 rfl hri) ?_
          | refine s1 rfl (lop_indexAddr_sl rfl rfl Try.underlying56 Try.sizeOf62 rfl hri (flat_at PartD.len hri) (flat_ne PartD.len (by decide) hri)) ?_
        first
          | refine s1 rfl (lop_load_rf_agg rfl rfl Try.isAgg62 Try.sizeOf62 (by rw [List.length_append, PartD.len]; omega) (by rw [List.take_append_of_le_length (by rw [PartD.len]; omega), List.take_of_length_le (by rw [PartD.len]; omega)])) ?_
          | refine s1 rfl (lop_load_fp_agg rfl Try.isAgg62 Try.sizeOf62 (by rw [List.length_append, PartD.len]; omega) (by rw [List.take_append_of_le_length (by rw [PartD.len]; omega), List.take_of_length_le (by rw [PartD.len]; omega)])) ?_
        refine s1w rfl (lop_new (t := 8) (cs := [.int _ _, .str _]) Try.zeroValue62 rfl rfl rfl rfl) rfl ?_
        first
          | refine s0w rfl (lop_storeK (v := .agg [.int _ _, .str _]) (cs' := [.int _ _, .str _]) (f' := true) rfl rfl rfl Try.sizeOf62 rfl rfl rfl rfl rfl) ?_
          | refine s0w rfl (lop_storeK (v := .agg [.int _ _, .str _]) (cs' := [.int _ _, .str _]) (f' := false) rfl rfl rfl Try.sizeOf62 rfl rfl rfl rfl rfl) ?_
        refine ops_nil ?_
        refine ok_seq ?_
        refine ok_reg ?_
        first
          | refine s1 rfl (lop_fieldAddr_rf (fo := 0) rfl Try.underlying62 rfl rfl Try.sizeOf3 (by decide)) ?_
          | refine s1 rfl (lop_fieldAddr_fp (fo := 0) rfl Try.underlying62 rfl rfl Try.sizeOf3 (by decide) rfl) ?_
        first
          | refine s1 rfl (lop_load_rf rfl rfl Try.isAgg3 rfl) ?_
          | refine s1 rfl (lop_load_fp rfl Try.isAgg3 rfl) ?_
        first
          | refine s1 rfl (lop_fieldAddr_rf (fo := 1) rfl Try.underlying62 rfl rfl Try.sizeOf9 (by decide)) ?_
          | refine s1 rfl (lop_fieldAddr_fp (fo := 1) rfl Try.underlying62 rfl rfl Try.sizeOf9 (by decide) rfl) ?_
        first
          | refine s1 rfl (lop_load_rf rfl rfl Try.isAgg9 rfl) ?_
          | refine s1 rfl (lop_load_fp rfl Try.isAgg9 rfl) ?_
        refine s1 rfl (lop_len rfl Try.underlying9 ⟨rfl, rfl⟩) ?_
        refine s1 rfl (lop_move (v := .int _ _) rfl) ?_
        refine s1 rfl (lop_call rfl Try.call67 (FrzL.tf rfl) (.inl rfl) (within_ac (by unfold R64; omega))) ?_
        refine s1 rfl (lop_not rfl) ?_
        refine ops_nil ?_
        first
          | refine ok_if _ rfl rfl (fun h_t30 => ?_) (fun h_t30 => ?_)
          | refine ok_cond rfl rfl (fun h_t30 => ?_) (fun h_t30 => ?_)
        · have hw : withinB ps[i].at_ ps[i].bytes.size n = false := by simpa using h_t30
          refine ok_reg ?_
          refine s1 rfl (lop_assign (v := .str _) rfl) ?_
          refine s1 rfl (lop_assign (v := .int _ _) rfl) ?_
          refine ops_nil ?_
          refine ok_ret ?_
          rw [layF_no hri hw]
          exact ret_two rfl rfl rfl rfl rfl rfl rfl
        · have hw : withinB ps[i].at_ ps[i].bytes.size n = true := by simpa using h_t30
          have hw2 := within_at hw
          refine ok_skip ?_
          refine ok_draw Try.mixed ?_
          first
            | refine d1 rfl rfl (lop_move (v := .sl _ _) rfl) ?_
            | refine d1 rfl rfl (lop_move (v := .os _ _ _ _) rfl) ?_
            | refine d1 rfl rfl (lop_move (v := .z0) rfl) ?_
          first
            | refine d1 rfl rfl (lop_fieldAddr_rf (fo := 0) rfl Try.underlying62 rfl rfl Try.sizeOf3 (by decide)) ?_
            | refine d1 rfl rfl (lop_fieldAddr_fp (fo := 0) rfl Try.underlying62 rfl rfl Try.sizeOf3 (by decide) rfl) ?_
          first
            | refine d1 rfl rfl (lop_load_rf rfl rfl Try.isAgg3 rfl) ?_
            | refine d1 rfl rfl (lop_load_fp rfl Try.isAgg3 rfl) ?_
          first
            | refine d1 rfl rfl (lop_slice_z0 rfl Try.underlying119 Try.sizeOf5 ⟨_, _, rfl, (Int.toNat_of_nonneg hw2.1).symm⟩ rfl) ?_
            | refine d1 rfl rfl (lop_slice_os (L := 0) rfl rfl Try.underlying119 Try.sizeOf5 ⟨_, _, rfl, (Int.toNat_of_nonneg hw2.1).symm⟩ rfl (by omega) (by rw [rowV_length, hlen]; omega) (by decide)) ?_
            | refine d1 rfl rfl (lop_slice_sl rfl Try.underlying119 Try.sizeOf5 rfl ⟨_, _, rfl, (Int.toNat_of_nonneg hw2.1).symm⟩ rfl (by omega) (by rw [rowV_length, hlen]; omega) rfl) ?_
          first
            | refine d1 rfl rfl (lop_fieldAddr_rf (fo := 1) rfl Try.underlying62 rfl rfl Try.sizeOf9 (by decide)) ?_
            | refine d1 rfl rfl (lop_fieldAddr_fp (fo := 1) rfl Try.underlying62 rfl rfl Try.sizeOf9 (by decide) rfl) ?_
          first
            | refine d1 rfl rfl (lop_load_rf rfl rfl Try.isAgg9 rfl) ?_
            | refine d1 rfl rfl (lop_load_fp rfl Try.isAgg9 rfl) ?_
          refine d1w rfl rfl (lop_copy (R := []) (k := ps[i].bytes.size) rfl rfl rfl (.str Try.underlying9 rfl) Try.underlying119 Try.sizeOf5 (by decide) (by omega) (by rw [rowV_length, hlen]; omega)) ?_
          refine dr_nil (by kernel_rfl) ?_
          refine ok_region ?_
          refine s1 rfl (lop_bop rfl rfl rfl (bop_add (by omega) (by omega))) ?_
          refine s1 rfl (lop_move (v := .int _ _) rfl) ?_
          refine ops_nil ?_
          exact ⟨⟨i + 1, by omega, all_step hn2 hri hw⟩, by simp only; omega, le_mk ⟨rfl, rfl, rfl, rfl, rfl, trivial⟩ ⟨.inr (by rw [layB_succ hri, ← write_row]; rfl), trivial⟩ rfl⟩
      · refine ok_exit ?_
        refine ok_reg ?_
        first
          | refine s1 rfl (lop_move (v := .sl _ _) rfl) ?_
          | refine s1 rfl (lop_move (v := .os _ _ _ _) rfl) ?_
          | refine s1 rfl (lop_move (v := .z0) rfl) ?_
        have e9 : i = ps.length := by omega
        refine s1 rfl (lop_str_os (l := layB n ps) rfl rfl (by rw [rowV_length, hlen]; omega) (by rw [List.drop_zero, List.take_of_length_le (by rw [rowV_length, hlen]; omega), e9, List.take_length]) rfl Try.underlying119 Try.underlying5 Try.underlying9) ?_
        refine s1 rfl (lop_assign (v := .str _) rfl) ?_
        refine s1 rfl (lop_assign (v := .int _ _) rfl) ?_
        refine ops_nil ?_
        refine ok_ret ?_
        rw [layF_yes (fun j h1 h2 => hn2 j h1 (by omega))]
        exact ret_two rfl rfl rfl rfl rfl rfl rfl

end Go.Proofs
