/- Chapter 15: walks. Printed by gen.py. -/
import Derived.Test.YtajlkpogccbboaaT15c
set_option linter.unusedVariables false
set_option linter.unusedSimpArgs false
set_option maxRecDepth 100000
namespace Go.Proofs
open Go.Hg

theorem rotateLeft_Name_ac {A B : List V} {L1 L2 : List NameD} {off n r : Nat} (ho : A.length = off) (hr : L1.length = r) (hn : L1.length + L2.length = n) (h0 : 0 < n) (hb : n ≤ 549755813888) : ACHk Try.prog 81 [.os 500 off 5 n, i64 r] 500 true (A ++ (L1 ++ L2).flatMap NameD.enc ++ B) (.tup []) true (A ++ (L2 ++ L1).flatMap NameD.enc ++ B) := by
  refine ACHk.intro Try.func81 rfl (Nat.le_of_ble_eq_true rfl) (Nat.le_of_ble_eq_true rfl) ?_
  refine ok_reg ?_
  first
    | refine s1 rfl (lop_move (v := .sl _ _) rfl) ?_
    | refine s1 rfl (lop_move (v := .os _ _ _ _) rfl) ?_
    | refine s1 rfl (lop_move (v := .z0) rfl) ?_
  refine s1 rfl (lop_move (v := .int _ _) rfl) ?_
  first
    | refine s1 rfl (lop_slice_z0 rfl Try.underlying23 Try.sizeOf47 rfl ⟨_, _, rfl, rfl⟩) ?_
    | refine s1 rfl (lop_slice_os (L := 0) rfl rfl Try.underlying23 Try.sizeOf47 rfl ⟨_, _, rfl, rfl⟩ (by omega) (by simp only [List.length_append, flat_length NameD.len]; omega) (by decide)) ?_
    | refine s1 rfl (lop_slice_sl rfl Try.underlying23 Try.sizeOf47 rfl rfl ⟨_, _, rfl, rfl⟩ (by omega) (by simp only [List.length_append, flat_length NameD.len]; omega) rfl) ?_
  refine ops_le (T := ⟨[(0, .os 500 off 5 n), (1, i64 r), (1048576, .rf 500 0), (6, .os 500 off 5 r)], [(500, some (true, A ++ L1.flatMap NameD.enc ++ (L2.flatMap NameD.enc ++ B)))], 14⟩) (le_mk ⟨rfl, rfl, rfl, rfl, trivial⟩ ⟨.inr (congrArg (fun c => some (true, c)) (by simp only [List.flatMap_append, List.append_assoc])), trivial⟩ rfl) ?_
  refine op_callK (t := 500) (fl := true) (fl' := true) (cs := A ++ L1.flatMap NameD.enc ++ (L2.flatMap NameD.enc ++ B)) (cs' := A ++ L1.reverse.flatMap NameD.enc ++ (L2.flatMap NameD.enc ++ B)) rfl rfl Try.call82 rfl (reverse_Name_ac ho hr (by omega)) rfl (by intro e; have e1 := congrArg List.length e; simp only [List.length_append, flat_length NameD.len, List.length_reverse, List.length_nil] at e1; omega) rfl rfl rfl ?_
  refine ops_nil ?_
  refine ok_reg ?_
  first
    | refine s1 rfl (lop_move (v := .sl _ _) rfl) ?_
    | refine s1 rfl (lop_move (v := .os _ _ _ _) rfl) ?_
    | refine s1 rfl (lop_move (v := .z0) rfl) ?_
  refine s1 rfl (lop_move (v := .int _ _) rfl) ?_
  first
    | refine s1 rfl (lop_slice_z0 rfl Try.underlying23 Try.sizeOf47 ⟨_, _, rfl, rfl⟩ rfl) ?_
    | refine s1 rfl (lop_slice_os (L := 0) rfl rfl Try.underlying23 Try.sizeOf47 ⟨_, _, rfl, rfl⟩ rfl (by omega) (by simp only [List.length_append, flat_length NameD.len, List.length_reverse]; omega) (by decide)) ?_
    | refine s1 rfl (lop_slice_sl rfl Try.underlying23 Try.sizeOf47 rfl ⟨_, _, rfl, rfl⟩ rfl (by omega) (by simp only [List.length_append, flat_length NameD.len, List.length_reverse]; omega) rfl) ?_
  refine ops_le (T := ⟨[(0, .os 500 off 5 n), (1, i64 r), (1048576, .rf 500 0), (10, .os 500 (off + r * 5) 5 (n - r))], [(500, some (true, (A ++ L1.reverse.flatMap NameD.enc) ++ L2.flatMap NameD.enc ++ B))], 14⟩) (le_mk ⟨rfl, rfl, rfl, rfl, trivial⟩ ⟨.inr (congrArg (fun c => some (true, c)) (by simp only [List.append_assoc])), trivial⟩ rfl) ?_
  refine op_callK (t := 500) (fl := true) (fl' := true) (cs := (A ++ L1.reverse.flatMap NameD.enc) ++ L2.flatMap NameD.enc ++ B) (cs' := (A ++ L1.reverse.flatMap NameD.enc) ++ L2.reverse.flatMap NameD.enc ++ B) rfl rfl Try.call82 rfl (reverse_Name_ac (by rw [List.length_append, flat_length NameD.len, List.length_reverse]; omega) (by omega) (by omega)) rfl (by intro e; have e1 := congrArg List.length e; simp only [List.length_append, flat_length NameD.len, List.length_reverse, List.length_nil] at e1; omega) rfl rfl rfl ?_
  refine ops_nil ?_
  refine ok_region ?_
  first
    | refine s1 rfl (lop_move (v := .sl _ _) rfl) ?_
    | refine s1 rfl (lop_move (v := .os _ _ _ _) rfl) ?_
    | refine s1 rfl (lop_move (v := .z0) rfl) ?_
  refine ops_le (T := ⟨[(0, .os 500 off 5 n), (1048576, .rf 500 0), (12, .os 500 off 5 n)], [(500, some (true, A ++ (L1.reverse ++ L2.reverse).flatMap NameD.enc ++ B))], 14⟩) (le_mk ⟨rfl, rfl, rfl, trivial⟩ ⟨.inr (congrArg (fun c => some (true, c)) (by simp only [List.flatMap_append, List.append_assoc])), trivial⟩ rfl) ?_
  refine op_callK (t := 500) (fl := true) (fl' := true) (cs := A ++ (L1.reverse ++ L2.reverse).flatMap NameD.enc ++ B) (cs' := A ++ (L1.reverse ++ L2.reverse).reverse.flatMap NameD.enc ++ B) rfl rfl Try.call82 rfl (reverse_Name_ac ho (by rw [List.length_append, List.length_reverse, List.length_reverse]; omega) hb) rfl (by intro e; have e1 := congrArg List.length e; simp only [List.length_append, flat_length NameD.len, List.length_reverse, List.length_nil] at e1; omega) rfl rfl rfl ?_
  refine ops_nil ?_
  exact ⟨[], ⟨[(1048576, .rf 500 0)], [(500, some (true, A ++ (L2 ++ L1).flatMap NameD.enc ++ B))], 14⟩, le_mk ⟨rfl, trivial⟩ ⟨.inr (congrArg (fun c => some (true, c)) (by rw [List.reverse_append, List.reverse_reverse, List.reverse_reverse])), trivial⟩ rfl, rfl, rfl, rfl, rfl⟩

theorem rotateRight_Name_ac {A B : List V} {L1 L2 : List NameD} {off n m : Nat} (ho : A.length = off) (hm : L2.length = m) (hn : L1.length + L2.length = n) (h0 : 0 < n) (hb : n ≤ 549755813888) : ACHk Try.prog 78 [.os 500 off 5 n, i64 m] 500 true (A ++ (L1 ++ L2).flatMap NameD.enc ++ B) (.tup []) true (A ++ (L2 ++ L1).flatMap NameD.enc ++ B) := by
  refine ACHk.intro Try.func78 rfl (Nat.le_of_ble_eq_true rfl) (Nat.le_of_ble_eq_true rfl) ?_
  refine ok_region ?_
  first
    | refine s1 rfl (lop_move (v := .sl _ _) rfl) ?_
    | refine s1 rfl (lop_move (v := .os _ _ _ _) rfl) ?_
    | refine s1 rfl (lop_move (v := .z0) rfl) ?_
  first
    | refine s1 rfl (lop_move (v := .sl _ _) rfl) ?_
    | refine s1 rfl (lop_move (v := .os _ _ _ _) rfl) ?_
    | refine s1 rfl (lop_move (v := .z0) rfl) ?_
  refine s1 rfl (lop_len rfl Try.underlying23 ⟨⟨_, rfl⟩, rfl⟩) ?_
  refine s1 rfl (lop_move (v := .int _ _) rfl) ?_
  refine s1 rfl (lop_bop rfl rfl rfl (show bop _ _ _ _ = ((L1.length : Nat) : Int) from (bop_sub (by omega) (by omega)).trans (by omega))) ?_
  refine op_callK (t := 500) (fl := true) (fl' := true) (cs := A ++ (L1 ++ L2).flatMap NameD.enc ++ B) (cs' := A ++ (L2 ++ L1).flatMap NameD.enc ++ B) rfl rfl Try.call81 rfl (rotateLeft_Name_ac ho rfl hn h0 hb) rfl (by intro e; have e1 := congrArg List.length e; simp only [List.length_append, flat_length NameD.len, List.length_reverse, List.length_nil] at e1; omega) rfl rfl rfl ?_
  refine ops_nil ?_
  exact ⟨[], ⟨[(1048576, .rf 500 0)], [(500, some (true, A ++ (L2 ++ L1).flatMap NameD.enc ++ B))], 10⟩, le_mk ⟨rfl, trivial⟩ ⟨.inr rfl, trivial⟩ rfl, rfl, rfl, rfl, rfl⟩

def insG {α : Type} (l : List α) (i : Nat) (x : α) : List α := l.take i ++ [x] ++ l.drop i
theorem rep_flat {zs : List V} {sz : Nat} (h : zs.length = sz) (k : Nat) : (List.replicate k zs).flatten.length = k * sz := by
  induction k with
  | zero => simp
  | succ k ih => rw [List.replicate_succ, List.flatten_cons, List.length_append, ih, h, Nat.add_mul]; omega

theorem insG_len {α : Type} {l : List α} {n i : Nat} {x : α} (hi : i ≤ n) (hn : l.length = n) : (insG l i x).length = n + 1 := by
  unfold insG
  simp only [List.length_append, List.length_take, List.length_drop, List.length_singleton]
  omega
theorem overlaps_Name : ∀ a b w, (callFunc 77 #[a, b]).run Try.prog w = ((Extern.SlicesOverlaps.overlaps #[23, 23] #[4] #[a, b]).run Try.prog w).andThen fun v w' => .ok (.value v) w' := fun a b w =>
  run_callFunc_extern Try.func77 (by kernel_rfl) (by kernel_rfl) (by kernel_rfl) (by kernel_rfl) _ w
theorem RetH_le {P : Program} {fn : Func} {v : V} {H' : Heap} {args' : List V} {S T : St} (h : Le S T) (h2 : RetH P fn v H' args' .ret T) : RetH P fn v H' args' .ret S := by
  obtain ⟨vs, U, h3, h4⟩ := h2
  exact ⟨vs, U, fun w0 F a w r => h3 w0 F a w (h w0 F a w r), h4⟩
section
variable {α : Type} {enc : α → List V} {sz : Nat}
theorem ins_grow (hs : ∀ x, (enc x).length = sz) {L : List α} {n i : Nat} (hn : L.length = n) (hin : i < n) {U : List V} : (((L.flatMap enc ++ U).drop (0 + i * sz)).take ((n - i) * sz)).take ((n - i) * sz) = (L.drop i).flatMap enc := by
  have e : i * sz ≤ (L.flatMap enc).length := by rw [flat_length hs, hn]; exact Nat.mul_le_mul_right _ (Nat.le_of_lt hin)
  have e2 : ((L.drop i).flatMap enc).length = (n - i) * sz := by rw [flat_length hs, List.length_drop, hn]
  rw [Nat.zero_add, List.drop_append_of_le_length e, flat_drop hs, List.take_take, Nat.min_self, ← e2, List.take_append_of_le_length (Nat.le_refl _), List.take_length]
theorem ins_shift (hs : ∀ x, (enc x).length = sz) {L : List α} {n i : Nat} (hn : L.length = n) (hin : i < n) {U : List V} : vsplice (L.flatMap enc ++ U) (0 + (i + 1) * sz) ((((L.flatMap enc ++ U).drop (0 + i * sz)).take ((n + 1 - i) * sz)).take ((n - i) * sz)) = (L.take i).flatMap enc ++ enc L[i] ++ (L.drop i).flatMap enc ++ U.drop sz := by
  have e : i * sz ≤ (L.flatMap enc).length := by rw [flat_length hs, hn]; exact Nat.mul_le_mul_right _ (Nat.le_of_lt hin)
  have e2 : ((L.drop i).flatMap enc).length = (n - i) * sz := by rw [flat_length hs, List.length_drop, hn]
  have e3 : (n - i) * sz ≤ (n + 1 - i) * sz := Nat.mul_le_mul_right _ (by omega)
  have e4 : (((L.flatMap enc ++ U).drop (0 + i * sz)).take ((n + 1 - i) * sz)).take ((n - i) * sz) = (L.drop i).flatMap enc := by
    rw [Nat.zero_add, List.drop_append_of_le_length e, flat_drop hs, List.take_take, Nat.min_eq_left e3, ← e2, List.take_append_of_le_length (Nat.le_refl _), List.take_length]
  have e5 : L.flatMap enc ++ U = ((L.take i).flatMap enc ++ enc L[i]) ++ ((L.drop (i + 1)).flatMap enc ++ U) := by
    conv => lhs; rw [← List.take_append_drop i L, List.drop_eq_getElem_cons (show i < L.length by omega), List.flatMap_append, List.flatMap_cons]
    simp only [List.append_assoc]
  have e6 : ((L.take i).flatMap enc ++ enc L[i]).length = 0 + (i + 1) * sz := by rw [List.length_append, hs, flat_length hs, List.length_take, Nat.min_eq_left (by omega), Nat.add_mul]; omega
  have e7 : ((L.drop (i + 1)).flatMap enc).length + sz = (n - i) * sz := by
    rw [flat_length hs, List.length_drop, hn, show n - i = (n - (i + 1)) + 1 by omega, Nat.add_mul]; omega
  rw [e4, e5, vs_app e6, e2, List.drop_append, List.drop_of_length_le (show ((L.drop (i + 1)).flatMap enc).length ≤ (n - i) * sz by omega), List.nil_append, show (n - i) * sz - ((L.drop (i + 1)).flatMap enc).length = sz by omega]
end

theorem insert_Name_ac {L : List NameD} {n i : Nat} (hn : L.length = n) (hi : i ≤ n) (hb : n < 549755813888) (x : NameD) : ACH Try.prog 66 [.os 500 0 5 n, i64 i, .os 501 0 5 1] [(500, some (true, L.flatMap NameD.enc)), (501, some (true, x.enc))] (.os 502 0 5 (n + 1)) [(502, some (true, (insG L i x).flatMap NameD.enc))] [.undef, .undef, .undef] := by
  have hfl := flat_length NameD.len L
  refine ACH.intro Try.func66 rfl (Nat.le_of_ble_eq_true rfl) (Nat.le_of_ble_eq_true rfl) rfl ?_
  refine ok_reg ?_
  first
    | refine s1 rfl (lop_assign (v := .sl _ _) rfl) ?_
    | refine s1 rfl (lop_assign (v := .os _ _ _ _) rfl) ?_
    | refine s1 rfl (lop_assign (v := .z0) rfl) ?_
  refine ops_nil ?_
  refine ok_reg ?_
  first
    | refine s1 rfl (lop_move (v := .sl _ _) rfl) ?_
    | refine s1 rfl (lop_move (v := .os _ _ _ _) rfl) ?_
    | refine s1 rfl (lop_move (v := .z0) rfl) ?_
  refine s1 rfl (lop_move (v := .int _ _) rfl) ?_
  first
    | refine s1 rfl (lop_slice_z0 rfl Try.underlying23 Try.sizeOf47 ⟨_, _, rfl, rfl⟩ rfl) ?_
    | refine s1 rfl (lop_slice_os (L := 0) rfl rfl Try.underlying23 Try.sizeOf47 ⟨_, _, rfl, rfl⟩ rfl hi (by rw [hfl]; omega) (by decide)) ?_
    | refine s1 rfl (lop_slice_sl rfl Try.underlying23 Try.sizeOf47 rfl ⟨_, _, rfl, rfl⟩ rfl hi (by rw [hfl]; omega) rfl) ?_
  refine ops_nil ?_
  refine ok_reg ?_
  first
    | refine s1 rfl (lop_move (v := .sl _ _) rfl) ?_
    | refine s1 rfl (lop_move (v := .os _ _ _ _) rfl) ?_
    | refine s1 rfl (lop_move (v := .z0) rfl) ?_
  refine s1 rfl (lop_len rfl Try.underlying23 ⟨⟨_, rfl⟩, rfl⟩) ?_
  refine s1 rfl (lop_assign (v := .int _ _) rfl) ?_
  refine ops_nil ?_
  refine ok_seq ?_
  refine ok_reg ?_
  refine s1 rfl (lop_move (v := .int _ _) rfl) ?_
  refine s1 rfl (lop_eql rfl rfl) ?_
  refine ops_nil ?_
  first
    | refine ok_if _ rfl rfl (fun h_t16 => ?_) (fun h_t16 => ?_)
    | refine ok_cond rfl rfl (fun h_t16 => ?_) (fun h_t16 => ?_)
  · exact absurd h_t16 (by decide)
  · refine ok_skip ?_
    refine ok_reg ?_
    first
      | refine s1 rfl (lop_move (v := .sl _ _) rfl) ?_
      | refine s1 rfl (lop_move (v := .os _ _ _ _) rfl) ?_
      | refine s1 rfl (lop_move (v := .z0) rfl) ?_
    refine s1 rfl (lop_len rfl Try.underlying23 ⟨⟨_, rfl⟩, rfl⟩) ?_
    refine s1 rfl (lop_assign (v := .int _ _) rfl) ?_
    refine ops_nil ?_
    refine ok_seq ?_
    refine ok_reg ?_
    refine s1 rfl (lop_move (v := .int _ _) rfl) ?_
    refine s1 rfl (lop_move (v := .int _ _) rfl) ?_
    refine s1 rfl (lop_eql rfl rfl) ?_
    refine ops_nil ?_
    first
      | refine ok_if _ rfl rfl (fun h_t22 => ?_) (fun h_t22 => ?_)
      | refine ok_cond rfl rfl (fun h_t22 => ?_) (fun h_t22 => ?_)
    · refine ok_reg ?_
      first
        | refine s1 rfl (lop_move (v := .sl _ _) rfl) ?_
        | refine s1 rfl (lop_move (v := .os _ _ _ _) rfl) ?_
        | refine s1 rfl (lop_move (v := .z0) rfl) ?_
      first
        | refine s1 rfl (lop_move (v := .sl _ _) rfl) ?_
        | refine s1 rfl (lop_move (v := .os _ _ _ _) rfl) ?_
        | refine s1 rfl (lop_move (v := .z0) rfl) ?_
      first
        | refine s2w rfl (lop_append_os (t' := 25) rfl rfl rfl (by rw [hfl, hn]) (.os Try.underlying23 (List.mem_singleton.2 rfl) rfl (Nat.le_of_ble_eq_true rfl) rfl) Try.underlying23 info47 rfl (by omega) (by omega)) rfl ?_
        | refine s1w rfl (lop_append_z0 (t' := 25) rfl rfl (.os Try.underlying23 (List.mem_singleton.2 rfl) rfl (Nat.le_of_ble_eq_true rfl) rfl) Try.underlying23 info47 rfl (by omega) (by omega)) rfl ?_
      first
        | refine s1 rfl (lop_assign (v := .sl _ _) rfl) ?_
        | refine s1 rfl (lop_assign (v := .os _ _ _ _) rfl) ?_
        | refine s1 rfl (lop_assign (v := .z0) rfl) ?_
      refine ops_nil ?_
      refine ok_ret ?_
      have hin : i = n := by omega
      exact ⟨[.os 502 0 5 (n + 1)], ⟨[(6, .os 502 0 5 (n + 1))], [(502, some (true, (insG L i x).flatMap NameD.enc))], 95⟩, le_ren [(502, some 25)] ⟨rfl, trivial⟩ rfl ⟨⟨_, rfl, by show _ = List.flatMap _ _; unfold insG; subst hin; rw [← hn, List.take_length, List.drop_length, List.append_nil, List.flatMap_append, List.flatMap_singleton]; rfl⟩, trivial⟩ rfl rfl rfl, ⟨_, _, rfl, ⟨rfl, rfl⟩, rfl⟩, rfl, rfl, fun i v h => by match i with
                                                                                                                                                                           | 0 => simp at h; subst h; rfl
                                                                                                                                                                           | 1 => simp at h; subst h; rfl
                                                                                                                                                                           | 2 => simp at h; subst h; rfl
                                                                                                                                                                           | i + 3 => simp at h⟩
    · have hin : i < n := by omega
      refine ok_skip ?_
      refine ok_seq ?_
      refine ok_reg ?_
      refine s1 rfl (lop_move (v := .int _ _) rfl) ?_
      refine s1 rfl (lop_move (v := .int _ _) rfl) ?_
      refine s1 rfl (lop_bop rfl rfl rfl (bop_add (by omega) (by omega))) ?_
      first
        | refine s1 rfl (lop_move (v := .sl _ _) rfl) ?_
        | refine s1 rfl (lop_move (v := .os _ _ _ _) rfl) ?_
        | refine s1 rfl (lop_move (v := .z0) rfl) ?_
      refine op_cap (g := 1048590) rfl rfl (by rw [hfl, hn]) (by omega) Try.underlying23 rfl (fun c hc => ?_)
      refine s1 rfl (lop_gtr rfl rfl) ?_
      refine ops_nil ?_
      first
        | refine ok_if _ rfl rfl (fun h_t31 => ?_) (fun h_t31 => ?_)
        | refine ok_cond rfl rfl (fun h_t31 => ?_) (fun h_t31 => ?_)
      · have hcn : c = n := by omega
        refine ok_reg ?_
        first
          | refine s1 rfl (lop_move (v := .sl _ _) rfl) ?_
          | refine s1 rfl (lop_move (v := .os _ _ _ _) rfl) ?_
          | refine s1 rfl (lop_move (v := .z0) rfl) ?_
        refine s1 rfl (lop_move (v := .int _ _) rfl) ?_
        first
          | refine s1 rfl (lop_slice_z0 rfl Try.underlying23 Try.sizeOf47 rfl ⟨_, _, rfl, rfl⟩) ?_
          | refine s1 rfl (lop_slice_os (L := 0) rfl rfl Try.underlying23 Try.sizeOf47 rfl ⟨_, _, rfl, rfl⟩ (by omega) (by simp only [List.length_append, flat_length NameD.len, List.length_replicate]; have h9 : i * 5 ≤ n * 5 := Nat.mul_le_mul_right _ hi; have h7 := Nat.sub_mul c n 5; have h8 : n * 5 ≤ c * 5 := Nat.mul_le_mul_right _ hc; omega) (by decide)) ?_
          | refine s1 rfl (lop_slice_sl rfl Try.underlying23 Try.sizeOf47 rfl rfl ⟨_, _, rfl, rfl⟩ (by omega) (by simp only [List.length_append, flat_length NameD.len, List.length_replicate]; have h9 : i * 5 ≤ n * 5 := Nat.mul_le_mul_right _ hi; have h7 := Nat.sub_mul c n 5; have h8 : n * 5 ≤ c * 5 := Nat.mul_le_mul_right _ hc; omega) rfl) ?_
        refine s1 rfl (lop_move (v := .int _ _) rfl) ?_
        refine s1 rfl (lop_move (v := .int _ _) rfl) ?_
        refine s1 rfl (lop_bop rfl rfl rfl (bop_add (by omega) (by omega))) ?_
        refine s1 rfl (lop_move (v := .int _ _) rfl) ?_
        refine s1 rfl (lop_bop rfl rfl rfl (show bop _ _ _ _ = ((n + 1 - i : Nat) : Int) from (bop_sub (by omega) (by omega)).trans (by omega))) ?_
        refine op_append0 (t' := 40) (k := n + 1 - i) (c := c) (g := 1048590) rfl rfl rfl rfl rfl (by simp only [List.length_append, flat_length NameD.len, List.length_replicate]; have h9 : i * 5 ≤ n * 5 := Nat.mul_le_mul_right _ hi; have h7 := Nat.sub_mul c n 5; have h8 : n * 5 ≤ c * 5 := Nat.mul_le_mul_right _ hc; omega) (by omega) (by omega) Try.underlying23 Try.underlying3 info47 rfl (by omega) (by omega) rfl rfl ?_
        first
          | refine s1 rfl (lop_assign (v := .sl _ _) rfl) ?_
          | refine s1 rfl (lop_assign (v := .os _ _ _ _) rfl) ?_
          | refine s1 rfl (lop_assign (v := .z0) rfl) ?_
        refine ops_nil ?_
        refine ok_reg ?_
        have hZ : ((List.replicate (n + 1 - i) (ofC (.agg #[(.string ByteArray.empty), (.int .i64 0), (.int .i64 0), (.int .i64 0), (.int .u32 0)])).cells).flatten).length = (n + 1 - i) * 5 := rep_flat (by rfl) _
        refine ops_le (T := ⟨[(0, .os 500 0 5 n), (2, .os 501 0 5 1), (9, .os 40 0 5 (i + (n + 1 - i))), (1, i64 i), (7, i64 1), (8, i64 n)], [(40, some (true, (L.take i).flatMap NameD.enc ++ ((List.replicate (n + 1 - i) (ofC (.agg #[(.string ByteArray.empty), (.int .i64 0), (.int .i64 0), (.int .i64 0), (.int .u32 0)])).cells).flatten))), (500, some (true, (L.flatMap NameD.enc ++ List.replicate ((c - n) * 5) V.undef))), (501, some (true, x.enc))], 95⟩) (le_mk ⟨rfl, rfl, rfl, rfl, rfl, rfl, trivial⟩ ⟨.inr (by refine congrArg (fun c => some (true, c)) (?_ : _ = (L.take i).flatMap NameD.enc ++ ((List.replicate (n + 1 - i) (ofC (.agg #[(.string ByteArray.empty), (.int .i64 0), (.int .i64 0), (.int .i64 0), (.int .u32 0)])).cells).flatten)); rw [show (i - 0) * 5 = i * 5 by rw [Nat.sub_zero], List.take_append_of_le_length (by rw [hfl, hn]; exact Nat.mul_le_mul_right _ hi), flat_take NameD.len]), .inr rfl, .inr rfl, trivial⟩ rfl) ?_
        first
          | refine s1 rfl (lop_move (v := .sl _ _) rfl) ?_
          | refine s1 rfl (lop_move (v := .os _ _ _ _) rfl) ?_
          | refine s1 rfl (lop_move (v := .z0) rfl) ?_
        refine s1 rfl (lop_move (v := .int _ _) rfl) ?_
        first
          | refine s1 rfl (lop_slice_z0 rfl Try.underlying23 Try.sizeOf47 ⟨_, _, rfl, rfl⟩ rfl) ?_
          | refine s1 rfl (lop_slice_os (L := 0) rfl rfl Try.underlying23 Try.sizeOf47 ⟨_, _, rfl, rfl⟩ rfl (by omega) (by rw [List.length_append, hZ, flat_length NameD.len, List.length_take]; omega) (by decide)) ?_
          | refine s1 rfl (lop_slice_sl rfl Try.underlying23 Try.sizeOf47 rfl ⟨_, _, rfl, rfl⟩ rfl (by omega) (by rw [List.length_append, hZ, flat_length NameD.len, List.length_take]; omega) rfl) ?_
        first
          | refine s1 rfl (lop_move (v := .sl _ _) rfl) ?_
          | refine s1 rfl (lop_move (v := .os _ _ _ _) rfl) ?_
          | refine s1 rfl (lop_move (v := .z0) rfl) ?_
        refine s1w rfl (lop_copy (R := [501]) (k := 1) rfl rfl rfl (.os Try.underlying23 (List.mem_singleton.2 rfl) rfl (Nat.le_of_ble_eq_true rfl) rfl) Try.underlying23 Try.sizeOf47 (by decide) (by omega) (by rw [List.length_append, hZ, flat_length NameD.len, List.length_take]; omega)) rfl ?_
        refine ops_le (T := ⟨[(0, .os 500 0 5 n), (9, .os 40 0 5 (i + (n + 1 - i))), (1, i64 i), (7, i64 1)], [(40, some (true, ((L.take i).flatMap NameD.enc ++ x.enc) ++ ((List.replicate (n + 1 - i) (ofC (.agg #[(.string ByteArray.empty), (.int .i64 0), (.int .i64 0), (.int .i64 0), (.int .u32 0)])).cells).flatten).drop 5)), (500, some (true, (L.flatMap NameD.enc ++ List.replicate ((c - n) * 5) V.undef)))], 95⟩) (le_mk ⟨rfl, rfl, rfl, rfl, trivial⟩ ⟨.inr (by refine congrArg (fun c => some (true, c)) (?_ : _ = ((L.take i).flatMap NameD.enc ++ x.enc) ++ ((List.replicate (n + 1 - i) (ofC (.agg #[(.string ByteArray.empty), (.int .i64 0), (.int .i64 0), (.int .i64 0), (.int .u32 0)])).cells).flatten).drop 5); show vsplice _ _ x.enc = _; rw [vs_app (by rw [flat_length NameD.len, List.length_take]; omega)]; rfl), .inr rfl, trivial⟩ rfl) ?_
        refine ops_nil ?_
        refine ok_drw Try.mixed ?_
        first
          | refine d1 rfl rfl (lop_move (v := .sl _ _) rfl) ?_
          | refine d1 rfl rfl (lop_move (v := .os _ _ _ _) rfl) ?_
          | refine d1 rfl rfl (lop_move (v := .z0) rfl) ?_
        refine d1 rfl rfl (lop_move (v := .int _ _) rfl) ?_
        refine d1 rfl rfl (lop_move (v := .int _ _) rfl) ?_
        refine d1 rfl rfl (lop_bop rfl rfl rfl (bop_add (by omega) (by omega))) ?_
        first
          | refine d1 rfl rfl (lop_slice_z0 rfl Try.underlying23 Try.sizeOf47 ⟨_, _, rfl, (show _ = ((i + 1 : Nat) : Int) by omega)⟩ rfl) ?_
          | refine d1 rfl rfl (lop_slice_os (L := 0) rfl rfl Try.underlying23 Try.sizeOf47 ⟨_, _, rfl, (show _ = ((i + 1 : Nat) : Int) by omega)⟩ rfl (by omega) (by simp only [List.length_append, List.length_drop, hZ, flat_length NameD.len, List.length_take, NameD.len]; omega) (by decide)) ?_
          | refine d1 rfl rfl (lop_slice_sl rfl Try.underlying23 Try.sizeOf47 rfl ⟨_, _, rfl, (show _ = ((i + 1 : Nat) : Int) by omega)⟩ rfl (by omega) (by simp only [List.length_append, List.length_drop, hZ, flat_length NameD.len, List.length_take, NameD.len]; omega) rfl) ?_
        first
          | refine d1 rfl rfl (lop_move (v := .sl _ _) rfl) ?_
          | refine d1 rfl rfl (lop_move (v := .os _ _ _ _) rfl) ?_
          | refine d1 rfl rfl (lop_move (v := .z0) rfl) ?_
        refine d1 rfl rfl (lop_move (v := .int _ _) rfl) ?_
        first
          | refine d1 rfl rfl (lop_slice_z0 rfl Try.underlying23 Try.sizeOf47 ⟨_, _, rfl, rfl⟩ rfl) ?_
          | refine d1 rfl rfl (lop_slice_os (L := 0) rfl rfl Try.underlying23 Try.sizeOf47 ⟨_, _, rfl, rfl⟩ rfl (by omega) (by rw [List.length_append, hfl]; omega) (by decide)) ?_
          | refine d1 rfl rfl (lop_slice_sl rfl Try.underlying23 Try.sizeOf47 rfl ⟨_, _, rfl, rfl⟩ rfl (by omega) (by rw [List.length_append, hfl]; omega) rfl) ?_
        refine d1w rfl rfl (lop_copy (R := [500]) (k := n - i) rfl rfl rfl (.os Try.underlying23 (List.mem_singleton.2 rfl) rfl (by rw [List.length_append, hfl]; omega) rfl) Try.underlying23 Try.sizeOf47 (by decide) (by omega) (by simp only [List.length_append, List.length_drop, hZ, flat_length NameD.len, List.length_take, NameD.len]; omega)) ?_
        refine dr_nil (by kernel_rfl) ?_
        refine ok_reg ?_
        refine ops_le (T := ⟨[(9, .os 40 0 5 (n + 1))], [(40, some (true, (insG L i x).flatMap NameD.enc))], 95⟩) (le_mk ⟨congrArg (V.os 40 0 5) (by omega), trivial⟩ ⟨.inr (by refine congrArg (fun c => some (true, c)) (?_ : _ = (insG L i x).flatMap NameD.enc); show vsplice _ _ _ = _; have eD : (((List.replicate (n + 1 - i) (ofC (.agg #[(.string ByteArray.empty), (.int .i64 0), (.int .i64 0), (.int .i64 0), (.int .u32 0)])).cells).flatten).drop 5).drop ((L.drop i).flatMap NameD.enc).length = [] := List.drop_of_length_le (by rw [List.length_drop, hZ, flat_length NameD.len, List.length_drop]; omega); rw [ins_grow NameD.len hn hin, vs_app (by rw [List.length_append, NameD.len, flat_length NameD.len, List.length_take]; omega), eD, List.append_nil, insG, List.flatMap_append, List.flatMap_append, List.flatMap_singleton]), trivial⟩ rfl) ?_
        first
          | refine s1 rfl (lop_move (v := .sl _ _) rfl) ?_
          | refine s1 rfl (lop_move (v := .os _ _ _ _) rfl) ?_
          | refine s1 rfl (lop_move (v := .z0) rfl) ?_
        first
          | refine s1 rfl (lop_assign (v := .sl _ _) rfl) ?_
          | refine s1 rfl (lop_assign (v := .os _ _ _ _) rfl) ?_
          | refine s1 rfl (lop_assign (v := .z0) rfl) ?_
        refine ops_nil ?_
        refine ok_ret ?_
        exact ⟨[.os 502 0 5 (n + 1)], ⟨[(6, .os 502 0 5 (n + 1))], [(502, some (true, (insG L i x).flatMap NameD.enc))], 95⟩, le_ren [(502, some 40)] ⟨rfl, trivial⟩ rfl ⟨⟨_, rfl, rfl⟩, trivial⟩ rfl rfl rfl, ⟨_, _, rfl, ⟨rfl, rfl⟩, rfl⟩, rfl, rfl, fun i v h => by match i with
                                                                                                                                                                             | 0 => simp at h; subst h; rfl
                                                                                                                                                                             | 1 => simp at h; subst h; rfl
                                                                                                                                                                             | 2 => simp at h; subst h; rfl
                                                                                                                                                                             | i + 3 => simp at h⟩
      · have hcn : n + 1 ≤ c := by omega
        refine ok_skip ?_
        refine ok_reg ?_
        first
          | refine s1 rfl (lop_move (v := .sl _ _) rfl) ?_
          | refine s1 rfl (lop_move (v := .os _ _ _ _) rfl) ?_
          | refine s1 rfl (lop_move (v := .z0) rfl) ?_
        refine s1 rfl (lop_move (v := .int _ _) rfl) ?_
        refine s1 rfl (lop_move (v := .int _ _) rfl) ?_
        refine s1 rfl (lop_bop rfl rfl rfl (bop_add (by omega) (by omega))) ?_
        first
          | refine s1 rfl (lop_slice_z0 rfl Try.underlying23 Try.sizeOf47 rfl ⟨_, _, rfl, (show _ = ((n + 1 : Nat) : Int) by omega)⟩) ?_
          | refine s1 rfl (lop_slice_os (L := 0) rfl rfl Try.underlying23 Try.sizeOf47 rfl ⟨_, _, rfl, (show _ = ((n + 1 : Nat) : Int) by omega)⟩ (by omega) (by simp only [List.length_append, hfl, List.length_replicate]; omega) (by decide)) ?_
          | refine s1 rfl (lop_slice_sl rfl Try.underlying23 Try.sizeOf47 rfl rfl ⟨_, _, rfl, (show _ = ((n + 1 : Nat) : Int) by omega)⟩ (by omega) (by simp only [List.length_append, hfl, List.length_replicate]; omega) rfl) ?_
        first
          | refine s1 rfl (lop_assign (v := .sl _ _) rfl) ?_
          | refine s1 rfl (lop_assign (v := .os _ _ _ _) rfl) ?_
          | refine s1 rfl (lop_assign (v := .z0) rfl) ?_
        refine ops_nil ?_
        refine ok_seq ?_
        refine ok_reg ?_
        first
          | refine s1 rfl (lop_move (v := .sl _ _) rfl) ?_
          | refine s1 rfl (lop_move (v := .os _ _ _ _) rfl) ?_
          | refine s1 rfl (lop_move (v := .z0) rfl) ?_
        first
          | refine s1 rfl (lop_move (v := .sl _ _) rfl) ?_
          | refine s1 rfl (lop_move (v := .os _ _ _ _) rfl) ?_
          | refine s1 rfl (lop_move (v := .z0) rfl) ?_
        refine s1 rfl (lop_move (v := .int _ _) rfl) ?_
        refine s1 rfl (lop_move (v := .int _ _) rfl) ?_
        refine s1 rfl (lop_bop rfl rfl rfl (bop_add (by omega) (by omega))) ?_
        first
          | refine s1 rfl (lop_slice_z0 rfl Try.underlying23 Try.sizeOf47 ⟨_, _, rfl, (show _ = ((i + 1 : Nat) : Int) by omega)⟩ rfl) ?_
          | refine s1 rfl (lop_slice_os (L := 0) rfl rfl Try.underlying23 Try.sizeOf47 ⟨_, _, rfl, (show _ = ((i + 1 : Nat) : Int) by omega)⟩ rfl (by omega) (by simp only [List.length_append, hfl, List.length_replicate]; omega) (by decide)) ?_
          | refine s1 rfl (lop_slice_sl rfl Try.underlying23 Try.sizeOf47 rfl ⟨_, _, rfl, (show _ = ((i + 1 : Nat) : Int) by omega)⟩ rfl (by omega) (by simp only [List.length_append, hfl, List.length_replicate]; omega) rfl) ?_
        refine op_overlaps (t1 := 501) (t2 := 500) rfl overlaps_Name Try.underlying23 Try.sizeOf47 rfl rfl (by decide) rfl rfl (Nat.le_of_ble_eq_true rfl) rfl (fun b => ?_)
        refine s1 rfl (lop_not rfl) ?_
        refine ops_nil ?_
        first
          | refine ok_if _ rfl rfl (fun h_t68 => ?_) (fun h_t68 => ?_)
          | refine ok_cond rfl rfl (fun h_t68 => ?_) (fun h_t68 => ?_)
        · refine ok_drw Try.mixed ?_
          first
            | refine d1 rfl rfl (lop_move (v := .sl _ _) rfl) ?_
            | refine d1 rfl rfl (lop_move (v := .os _ _ _ _) rfl) ?_
            | refine d1 rfl rfl (lop_move (v := .z0) rfl) ?_
          refine d1 rfl rfl (lop_move (v := .int _ _) rfl) ?_
          refine d1 rfl rfl (lop_move (v := .int _ _) rfl) ?_
          refine d1 rfl rfl (lop_bop rfl rfl rfl (bop_add (by omega) (by omega))) ?_
          first
            | refine d1 rfl rfl (lop_slice_z0 rfl Try.underlying23 Try.sizeOf47 ⟨_, _, rfl, (show _ = ((i + 1 : Nat) : Int) by omega)⟩ rfl) ?_
            | refine d1 rfl rfl (lop_slice_os (L := 0) rfl rfl Try.underlying23 Try.sizeOf47 ⟨_, _, rfl, (show _ = ((i + 1 : Nat) : Int) by omega)⟩ rfl (by omega) (by simp only [List.length_append, hfl, List.length_replicate]; omega) (by decide)) ?_
            | refine d1 rfl rfl (lop_slice_sl rfl Try.underlying23 Try.sizeOf47 rfl ⟨_, _, rfl, (show _ = ((i + 1 : Nat) : Int) by omega)⟩ rfl (by omega) (by simp only [List.length_append, hfl, List.length_replicate]; omega) rfl) ?_
          first
            | refine d1 rfl rfl (lop_move (v := .sl _ _) rfl) ?_
            | refine d1 rfl rfl (lop_move (v := .os _ _ _ _) rfl) ?_
            | refine d1 rfl rfl (lop_move (v := .z0) rfl) ?_
          refine d1 rfl rfl (lop_move (v := .int _ _) rfl) ?_
          first
            | refine d1 rfl rfl (lop_slice_z0 rfl Try.underlying23 Try.sizeOf47 ⟨_, _, rfl, rfl⟩ rfl) ?_
            | refine d1 rfl rfl (lop_slice_os (L := 0) rfl rfl Try.underlying23 Try.sizeOf47 ⟨_, _, rfl, rfl⟩ rfl (by omega) (by simp only [List.length_append, hfl, List.length_replicate]; omega) (by decide)) ?_
            | refine d1 rfl rfl (lop_slice_sl rfl Try.underlying23 Try.sizeOf47 rfl ⟨_, _, rfl, rfl⟩ rfl (by omega) (by simp only [List.length_append, hfl, List.length_replicate]; omega) rfl) ?_
          refine d1w rfl rfl (lop_copy (R := [500]) (k := n - i) rfl rfl rfl (.os Try.underlying23 (List.mem_singleton.2 rfl) rfl (by simp only [List.length_append, hfl, List.length_replicate]; omega) rfl) Try.underlying23 Try.sizeOf47 (by decide) (by omega) (by simp only [List.length_append, hfl, List.length_replicate]; omega)) ?_
          refine dr_nil (by kernel_rfl) ?_
          refine ok_reg ?_
          refine ops_le (T := ⟨[(0, .os 500 0 5 (n + 1)), (2, .os 501 0 5 1), (1, i64 i)], [(500, some (true, (L.take i).flatMap NameD.enc ++ (NameD.enc L[i] ++ ((L.drop i).flatMap NameD.enc ++ (List.replicate ((c - n) * 5) V.undef).drop 5)))), (501, some (true, x.enc))], 95⟩) (le_mk ⟨rfl, rfl, rfl, trivial⟩ ⟨.inr (by refine congrArg (fun c => some (true, c)) (?_ : _ = (L.take i).flatMap NameD.enc ++ (NameD.enc L[i] ++ ((L.drop i).flatMap NameD.enc ++ (List.replicate ((c - n) * 5) V.undef).drop 5))); show vsplice _ _ _ = _; rw [Nat.sub_zero, ins_shift NameD.len hn hin]; simp only [List.append_assoc]), .inr rfl, trivial⟩ rfl) ?_
          first
            | refine s1 rfl (lop_move (v := .sl _ _) rfl) ?_
            | refine s1 rfl (lop_move (v := .os _ _ _ _) rfl) ?_
            | refine s1 rfl (lop_move (v := .z0) rfl) ?_
          refine s1 rfl (lop_move (v := .int _ _) rfl) ?_
          first
            | refine s1 rfl (lop_slice_z0 rfl Try.underlying23 Try.sizeOf47 ⟨_, _, rfl, rfl⟩ rfl) ?_
            | refine s1 rfl (lop_slice_os (L := 0) rfl rfl Try.underlying23 Try.sizeOf47 ⟨_, _, rfl, rfl⟩ rfl (by omega) (by simp only [List.length_append, flat_length NameD.len, List.length_take, List.length_drop, List.length_replicate, NameD.len]; omega) (by decide)) ?_
            | refine s1 rfl (lop_slice_sl rfl Try.underlying23 Try.sizeOf47 rfl ⟨_, _, rfl, rfl⟩ rfl (by omega) (by simp only [List.length_append, flat_length NameD.len, List.length_take, List.length_drop, List.length_replicate, NameD.len]; omega) rfl) ?_
          first
            | refine s1 rfl (lop_move (v := .sl _ _) rfl) ?_
            | refine s1 rfl (lop_move (v := .os _ _ _ _) rfl) ?_
            | refine s1 rfl (lop_move (v := .z0) rfl) ?_
          refine s1w rfl (lop_copy (R := [501]) (k := 1) rfl rfl rfl (.os Try.underlying23 (List.mem_singleton.2 rfl) rfl (Nat.le_of_ble_eq_true rfl) rfl) Try.underlying23 Try.sizeOf47 (by decide) (by omega) (by simp only [List.length_append, flat_length NameD.len, List.length_take, List.length_drop, List.length_replicate, NameD.len]; omega)) rfl ?_
          refine ops_nil ?_
          refine ok_reg ?_
          refine ops_le (T := ⟨[(0, .os 500 0 5 (n + 1))], [(500, some (true, (insG L i x).flatMap NameD.enc ++ (List.replicate ((c - n) * 5) V.undef).drop 5))], 95⟩) (le_mk ⟨rfl, trivial⟩ ⟨.inr (by refine congrArg (fun c => some (true, c)) (?_ : _ = (insG L i x).flatMap NameD.enc ++ (List.replicate ((c - n) * 5) V.undef).drop 5); show vsplice _ _ x.enc = _; rw [vs_app (by rw [flat_length NameD.len, List.length_take]; omega), List.drop_append, List.drop_of_length_le (by rw [NameD.len, NameD.len]; exact Nat.le_refl _), NameD.len, NameD.len, Nat.sub_self, List.drop_zero, insG, List.flatMap_append, List.flatMap_append, List.flatMap_singleton]; simp only [List.append_assoc, List.nil_append]), trivial⟩ rfl) ?_
          first
            | refine s1 rfl (lop_move (v := .sl _ _) rfl) ?_
            | refine s1 rfl (lop_move (v := .os _ _ _ _) rfl) ?_
            | refine s1 rfl (lop_move (v := .z0) rfl) ?_
          first
            | refine s1 rfl (lop_assign (v := .sl _ _) rfl) ?_
            | refine s1 rfl (lop_assign (v := .os _ _ _ _) rfl) ?_
            | refine s1 rfl (lop_assign (v := .z0) rfl) ?_
          refine ops_nil ?_
          refine ok_ret ?_
          refine RetH_le (le_take (t := 500) (k := (n + 1) * 5) rfl (by rw [List.take_append_of_le_length (by rw [flat_length NameD.len, insG_len hi hn]; exact Nat.le_refl _), List.take_of_length_le (by rw [flat_length NameD.len, insG_len hi hn]; exact Nat.le_refl _)])) ?_
          exact ⟨[.os 502 0 5 (n + 1)], ⟨[(6, .os 502 0 5 (n + 1))], [(502, some (true, (insG L i x).flatMap NameD.enc))], 95⟩, le_ren [(502, some 500)] ⟨rfl, trivial⟩ rfl ⟨⟨_, rfl, rfl⟩, trivial⟩ rfl rfl rfl, ⟨_, _, rfl, ⟨rfl, rfl⟩, rfl⟩, rfl, rfl, fun i v h => by match i with
                                                                                                                                                                               | 0 => simp at h; subst h; rfl
                                                                                                                                                                               | 1 => simp at h; subst h; rfl
                                                                                                                                                                               | 2 => simp at h; subst h; rfl
                                                                                                                                                                               | i + 3 => simp at h⟩
        · refine ok_skip ?_
          refine ok_reg ?_
          first
            | refine s1 rfl (lop_move (v := .sl _ _) rfl) ?_
            | refine s1 rfl (lop_move (v := .os _ _ _ _) rfl) ?_
            | refine s1 rfl (lop_move (v := .z0) rfl) ?_
          refine s1 rfl (lop_move (v := .int _ _) rfl) ?_
          first
            | refine s1 rfl (lop_slice_z0 rfl Try.underlying23 Try.sizeOf47 ⟨_, _, rfl, rfl⟩ rfl) ?_
            | refine s1 rfl (lop_slice_os (L := 0) rfl rfl Try.underlying23 Try.sizeOf47 ⟨_, _, rfl, rfl⟩ rfl (by omega) (by simp only [List.length_append, hfl, List.length_replicate]; omega) (by decide)) ?_
            | refine s1 rfl (lop_slice_sl rfl Try.underlying23 Try.sizeOf47 rfl ⟨_, _, rfl, rfl⟩ rfl (by omega) (by simp only [List.length_append, hfl, List.length_replicate]; omega) rfl) ?_
          first
            | refine s1 rfl (lop_move (v := .sl _ _) rfl) ?_
            | refine s1 rfl (lop_move (v := .os _ _ _ _) rfl) ?_
            | refine s1 rfl (lop_move (v := .z0) rfl) ?_
          refine s1w rfl (lop_copy (R := [501]) (k := 1) rfl rfl rfl (.os Try.underlying23 (List.mem_singleton.2 rfl) rfl (Nat.le_of_ble_eq_true rfl) rfl) Try.underlying23 Try.sizeOf47 (by decide) (by omega) (by simp only [List.length_append, hfl, List.length_replicate]; omega)) rfl ?_
          refine ops_nil ?_
          refine ok_reg ?_
          refine ops_le (T := ⟨[(0, .os 500 0 5 (n + 1)), (1, i64 i), (7, i64 1)], [(500, some (true, (L.take i).flatMap NameD.enc ++ (L.drop i ++ [x]).flatMap NameD.enc ++ (List.replicate ((c - n) * 5) V.undef).drop 5))], 95⟩) (le_mk ⟨rfl, rfl, rfl, trivial⟩ ⟨.inr (by refine congrArg (fun c => some (true, c)) (?_ : _ = (L.take i).flatMap NameD.enc ++ (L.drop i ++ [x]).flatMap NameD.enc ++ (List.replicate ((c - n) * 5) V.undef).drop 5); show vsplice _ _ x.enc = _; rw [vs_app (by rw [hfl, hn]; omega), NameD.len, List.flatMap_append, List.flatMap_singleton, ← List.append_assoc, ← List.flatMap_append, List.take_append_drop]), trivial⟩ rfl) ?_
          first
            | refine s1 rfl (lop_move (v := .sl _ _) rfl) ?_
            | refine s1 rfl (lop_move (v := .os _ _ _ _) rfl) ?_
            | refine s1 rfl (lop_move (v := .z0) rfl) ?_
          refine s1 rfl (lop_move (v := .int _ _) rfl) ?_
          first
            | refine s1 rfl (lop_slice_z0 rfl Try.underlying23 Try.sizeOf47 ⟨_, _, rfl, rfl⟩ rfl) ?_
            | refine s1 rfl (lop_slice_os (L := 0) rfl rfl Try.underlying23 Try.sizeOf47 ⟨_, _, rfl, rfl⟩ rfl (by omega) (by simp only [List.length_append, flat_length NameD.len, List.length_take, List.length_drop, List.length_replicate, List.length_singleton]; omega) (by decide)) ?_
            | refine s1 rfl (lop_slice_sl rfl Try.underlying23 Try.sizeOf47 rfl ⟨_, _, rfl, rfl⟩ rfl (by omega) (by simp only [List.length_append, flat_length NameD.len, List.length_take, List.length_drop, List.length_replicate, List.length_singleton]; omega) rfl) ?_
          refine s1 rfl (lop_move (v := .int _ _) rfl) ?_
          refine op_callK (t := 500) (fl := true) (fl' := true) (cs := (L.take i).flatMap NameD.enc ++ (L.drop i ++ [x]).flatMap NameD.enc ++ (List.replicate ((c - n) * 5) V.undef).drop 5) (cs' := (L.take i).flatMap NameD.enc ++ ([x] ++ L.drop i).flatMap NameD.enc ++ (List.replicate ((c - n) * 5) V.undef).drop 5) rfl rfl Try.call78 rfl (rotateRight_Name_ac (by rw [flat_length NameD.len, List.length_take]; omega) rfl (by rw [List.length_drop, List.length_singleton]; omega) (by omega) (by omega)) rfl (mid_ne NameD.len (by decide) (by rw [List.length_append, List.length_singleton]; omega)) rfl rfl rfl ?_
          refine ops_nil ?_
          refine ok_reg ?_
          refine ops_le (T := ⟨[(0, .os 500 0 5 (n + 1))], [(500, some (true, (insG L i x).flatMap NameD.enc ++ (List.replicate ((c - n) * 5) V.undef).drop 5))], 95⟩) (le_mk ⟨rfl, trivial⟩ ⟨.inr (by refine congrArg (fun c => some (true, c)) (?_ : _ = (insG L i x).flatMap NameD.enc ++ (List.replicate ((c - n) * 5) V.undef).drop 5); unfold insG; simp only [List.flatMap_append, List.append_assoc]), trivial⟩ rfl) ?_
          first
            | refine s1 rfl (lop_move (v := .sl _ _) rfl) ?_
            | refine s1 rfl (lop_move (v := .os _ _ _ _) rfl) ?_
            | refine s1 rfl (lop_move (v := .z0) rfl) ?_
          first
            | refine s1 rfl (lop_assign (v := .sl _ _) rfl) ?_
            | refine s1 rfl (lop_assign (v := .os _ _ _ _) rfl) ?_
            | refine s1 rfl (lop_assign (v := .z0) rfl) ?_
          refine ops_nil ?_
          refine ok_ret ?_
          refine RetH_le (le_take (t := 500) (k := (n + 1) * 5) rfl (by rw [List.take_append_of_le_length (by rw [flat_length NameD.len, insG_len hi hn]; exact Nat.le_refl _), List.take_of_length_le (by rw [flat_length NameD.len, insG_len hi hn]; exact Nat.le_refl _)])) ?_
          exact ⟨[.os 502 0 5 (n + 1)], ⟨[(6, .os 502 0 5 (n + 1))], [(502, some (true, (insG L i x).flatMap NameD.enc))], 95⟩, le_ren [(502, some 500)] ⟨rfl, trivial⟩ rfl ⟨⟨_, rfl, rfl⟩, trivial⟩ rfl rfl rfl, ⟨_, _, rfl, ⟨rfl, rfl⟩, rfl⟩, rfl, rfl, fun i v h => by match i with
                                                                                                                                                                               | 0 => simp at h; subst h; rfl
                                                                                                                                                                               | 1 => simp at h; subst h; rfl
                                                                                                                                                                               | 2 => simp at h; subst h; rfl
                                                                                                                                                                               | i + 3 => simp at h⟩

end Go.Proofs
