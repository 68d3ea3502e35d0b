/- Chapter 15: what holds of every index that commands make. Plain laws. -/
import Derived.Test.YtajlkpogccbboaaP15a
set_option linter.unusedVariables false
set_option linter.unusedSimpArgs false
set_option linter.unnecessarySimpa false
namespace Go.Proofs
open Go.Hg
/-! ### strings' order -/
theorem bl_irrefl : ∀ a : List UInt8, Op.bytesLess a a = false
  | [] => rfl
  | a :: x => by simp [Op.bytesLess, bl_irrefl x]
theorem u8_lt {a b : UInt8} : a < b ↔ a.toNat < b.toNat := UInt8.lt_iff_toNat_lt
theorem u8_eq {a b : UInt8} : a = b ↔ a.toNat = b.toNat := UInt8.toNat_inj.symm
theorem bl_trans : ∀ {a b c : List UInt8}, Op.bytesLess a b = true → Op.bytesLess b c = true → Op.bytesLess a c = true
  | _, [], _, h, _ => by simp [Op.bytesLess] at h
  | _, _ :: _, [], _, h => by simp [Op.bytesLess] at h
  | [], _ :: _, _ :: _, _, _ => by simp [Op.bytesLess]
  | a :: x, b :: y, c :: z, h, h' => by
    simp only [Op.bytesLess, Bool.or_eq_true, Bool.and_eq_true, decide_eq_true_eq, beq_iff_eq] at h h' ⊢
    rcases h with h | ⟨rfl, h⟩ <;> rcases h' with h' | ⟨rfl, h'⟩
    · left; rw [u8_lt] at *; omega
    · exact .inl h
    · exact .inl h'
    · exact .inr ⟨rfl, bl_trans h h'⟩
theorem bl_total : ∀ a b : List UInt8, Op.bytesLess a b = true ∨ a = b ∨ Op.bytesLess b a = true
  | [], [] => .inr (.inl rfl)
  | [], _ :: _ => .inl (by simp [Op.bytesLess])
  | _ :: _, [] => .inr (.inr (by simp [Op.bytesLess]))
  | a :: x, b :: y => by
    simp only [Op.bytesLess, Bool.or_eq_true, Bool.and_eq_true, decide_eq_true_eq, beq_iff_eq, List.cons.injEq]
    rcases Nat.lt_trichotomy a.toNat b.toNat with h | h | h
    · exact .inl (.inl (u8_lt.2 h))
    · have e := u8_eq.2 h
      rcases bl_total x y with h1 | h1 | h1
      · exact .inl (.inr ⟨e, h1⟩)
      · exact .inr (.inl ⟨e, h1⟩)
      · exact .inr (.inr (.inr ⟨e.symm, h1⟩))
    · exact .inr (.inr (.inl (u8_lt.2 h)))
theorem slt_irrefl (a : ByteArray) : slt a a = false := bl_irrefl _
theorem slt_trans {a b c : ByteArray} (h : slt a b = true) (h' : slt b c = true) : slt a c = true := bl_trans h h'
theorem slt_total (a b : ByteArray) : slt a b = true ∨ a = b ∨ slt b a = true := by
  rcases bl_total a.data.toList b.data.toList with h | h | h
  · exact .inl h
  · refine .inr (.inl ?_)
    apply ByteArray.ext
    apply Array.ext'
    exact h
  · exact .inr (.inr h)
theorem sgt_yes {a b : ByteArray} (h : sgt a b = true) : slt b a = true := by
  unfold sgt at h
  simp only [Bool.not_eq_true', Bool.or_eq_false_iff, decide_eq_false_iff_not] at h
  rcases slt_total a b with h1 | h1 | h1
  · rw [h.1] at h1; cases h1
  · exact absurd h1 h.2
  · exact h1
theorem sgt_no {a b : ByteArray} (h : sgt a b = false) (hne : a ≠ b) : slt a b = true := by
  unfold sgt at h
  simp only [Bool.not_eq_false', Bool.or_eq_true, decide_eq_true_eq] at h
  exact h.resolve_right hne

/-! ### places -/
theorem whole_iff {l : List PlD} {r : Int} : wholeF l r = true ↔ l.length = 14 ∧ (∀ p ∈ l, p.r = r) ∧ l.Nodup := by
  unfold wholeF
  rw [Bool.and_eq_true, List.all_eq_true, decide_eq_true_eq]
  constructor
  · rintro ⟨h, h14⟩
    have h' : ∀ i, (hi : i < l.length) → l[i].r = r ∧ ∀ p ∈ l.take i, l[i] ≠ p := fun i hi => by
      have := h i (List.mem_range.2 hi)
      unfold wholeP at this
      rw [getD_at l hi] at this
      simp only [Bool.and_eq_true, decide_eq_true_eq, Bool.not_eq_true', List.any_eq_false] at this
      exact this
    refine ⟨h14, fun p hp => ?_, ?_⟩
    · obtain ⟨i, hi, rfl⟩ := List.getElem_of_mem hp
      exact (h' i hi).1
    · unfold List.Nodup
      rw [List.pairwise_iff_getElem]
      intro i j hi hj hij e
      exact (h' j hj).2 l[i] (List.mem_iff_getElem.2 ⟨i, by rw [List.length_take]; omega, by rw [List.getElem_take]⟩) e.symm
  · rintro ⟨h14, hr, hn⟩
    refine ⟨fun i hi => ?_, h14⟩
    have hi' := List.mem_range.1 hi
    unfold wholeP
    rw [getD_at l hi']
    simp only [Bool.and_eq_true, decide_eq_true_eq, Bool.not_eq_true', List.any_eq_false]
    refine ⟨hr _ (List.getElem_mem hi'), fun p hp e => ?_⟩
    obtain ⟨j, hj, rfl⟩ := List.getElem_of_mem hp
    rw [List.length_take] at hj
    rw [List.getElem_take] at e
    unfold List.Nodup at hn
    rw [List.pairwise_iff_getElem] at hn
    exact hn j i (by omega) hi' (by omega) e.symm
theorem whole_set {l : List PlD} {r : Int} {i : Nat} {p : PlD} (h : wholeF l r = true) (hi : i < l.length) (hr : p.r = r) (hn : ∀ q ∈ l, p ≠ q) : wholeF (l.set i p) r = true := by
  rw [whole_iff] at h ⊢
  refine ⟨by rw [List.length_set]; exact h.1, fun q hq => ?_, ?_⟩
  · rcases List.mem_or_eq_of_mem_set hq with hq | rfl
    · exact h.2.1 q hq
    · exact hr
  · have h3 := h.2.2
    unfold List.Nodup at h3 ⊢
    rw [List.pairwise_iff_getElem] at h3 ⊢
    intro j k hj hk hjk
    rw [List.length_set] at hj hk
    rw [List.getElem_set, List.getElem_set]
    split
    · split
      · omega
      · exact hn _ (List.getElem_mem hk)
    · split
      · exact fun e => hn _ (List.getElem_mem hj) e.symm
      · exact h3 j k hj hk hjk

/-! ### volumes rise -/
structure Up (a b : VolD) : Prop where
  id : b.id = a.id
  home : b.home = a.home
  phase : a.phase ≤ b.phase
  used : a.used ≤ b.used
  parts : ∀ p ∈ a.parts, p ∈ b.parts
  len : a.parts.length ≤ b.parts.length
  fixed : 2 ≤ a.phase → b.parts.length = a.parts.length
theorem Up.refl (a : VolD) : Up a a := ⟨rfl, rfl, Int.le_refl _, Int.le_refl _, fun _ h => h, Nat.le_refl _, fun _ => rfl⟩
theorem Up.trans {a b c : VolD} (h : Up a b) (k : Up b c) : Up a c := ⟨k.id.trans h.id, k.home.trans h.home, Int.le_trans h.phase k.phase, Int.le_trans h.used k.used, fun p hp => k.parts p (h.parts p hp), Nat.le_trans h.len k.len, fun hp => (k.fixed (Int.le_trans hp h.phase)).trans (h.fixed hp)⟩
def VUp (l l' : List VolD) : Prop := ∀ (i : Nat) (a : VolD), l[i]? = some a → ∃ b, l'[i]? = some b ∧ Up a b
theorem VUp.refl (l : List VolD) : VUp l l := fun i a h => ⟨a, h, Up.refl a⟩
theorem VUp.trans {l m n : List VolD} (h : VUp l m) (k : VUp m n) : VUp l n := fun i a ha => by
  obtain ⟨b, hb, h1⟩ := h i a ha
  obtain ⟨c, hc, h2⟩ := k i b hb
  exact ⟨c, hc, h1.trans h2⟩
theorem VUp.app (l : List VolD) (v : VolD) : VUp l (l ++ [v]) := fun i a h => ⟨a, by rw [List.getElem?_append_left (List.getElem?_eq_some_iff.1 h).1]; exact h, Up.refl a⟩
theorem setL_pos {α : Type} {l : List α} {i : Int} {x : α} (h : 0 ≤ i) : setL l i x = l.set i.toNat x := by unfold setL; rw [if_neg (by omega)]
theorem VUp.set {l : List VolD} {i : Nat} {v v' : VolD} (hv : l[i]? = some v) (h : Up v v') : VUp l (l.set i v') := fun j a ha => by
  by_cases e : i = j
  · subst e
    rw [hv] at ha; injection ha with ha; subst ha
    exact ⟨v', by rw [List.getElem?_set, if_pos rfl, if_pos (List.getElem?_eq_some_iff.1 hv).1], h⟩
  · exact ⟨a, by rw [List.getElem?_set, if_neg e]; exact ha, Up.refl a⟩
theorem VUp.setV {x : IdxD} {id : Int} (h : ¬ (volF x id).2 < 0) {v' : VolD} (hu : Up (volF x id).1 v') : VUp x.vols (setL x.vols (volF x id).2 v') := by
  rw [setL_pos (volF_mem h).2.2.1]
  exact VUp.set (volF_mem h).2.2.2.2 hu
theorem pair_up {x : IdxD} {c : CmdD} : VUp x.vols (pairF x c).1.vols := by
  unfold pairF
  split
  · exact VUp.refl _
  · rename_i h1
    have va := volF_mem (x := x) (id := c.vol) (by omega)
    have vb := volF_mem (x := x) (id := c.mate) (by omega)
    split
    · exact VUp.refl _
    · split
      · exact VUp.refl _
      · split
        · exact VUp.refl _
        · rename_i hp _ _
          refine VUp.trans ?_ (VUp.app _ _)
          refine VUp.trans (VUp.setV (x := x) (id := c.vol) (v' := { (volF x c.vol).1 with phase := 4, pair := (volF x c.mate).1.id, sum := sumId (volF x c.vol).1.id (volF x c.mate).1.id }) (by omega) ⟨rfl, rfl, by simp only; omega, Int.le_refl _, fun _ h => h, Nat.le_refl _, fun _ => rfl⟩) ?_
          rw [setL_pos vb.2.2.1, setL_pos va.2.2.1]
          have hne : (volF x c.vol).2.toNat ≠ (volF x c.mate).2.toNat := fun e => by
            have h3 := va.2.2.2.2
            rw [e, vb.2.2.2.2] at h3
            injection h3 with h3
            have : (volF x c.vol).1.home = (volF x c.mate).1.home := by rw [h3]
            omega
          exact VUp.set (v := (volF x c.mate).1) (v' := { (volF x c.mate).1 with phase := 4, pair := (volF x c.vol).1.id, sum := sumId (volF x c.vol).1.id (volF x c.mate).1.id }) (by rw [List.getElem?_set, if_neg hne]; exact vb.2.2.2.2) ⟨rfl, rfl, by simp only; omega, Int.le_refl _, fun _ h => h, Nat.le_refl _, fun _ => rfl⟩
theorem does_up {x : IdxD} {c : CmdD} (hm : May c) : VUp x.vols (doesF x c).1.vols := by
  have hn := hm.n
  unfold doesF
  split
  · unfold openF
    split
    · exact VUp.refl _
    · split
      · exact VUp.refl _
      · exact VUp.app _ _
  split
  · unfold reserveF
    split
    · exact VUp.refl _
    · rename_i h1
      split
      · exact VUp.refl _
      · split
        · exact VUp.refl _
        · split
          · exact VUp.refl _
          · exact VUp.setV h1 ⟨rfl, rfl, Int.le_refl _, by simp only; omega, fun _ h => h, Nat.le_refl _, fun _ => rfl⟩
  split
  · unfold putF
    split
    · exact VUp.refl _
    · split
      · exact VUp.refl _
      · rename_i h1
        split
        · exact VUp.refl _
        · rename_i hp
          split
          · exact VUp.refl _
          · split
            · exact VUp.refl _
            · exact VUp.setV h1 ⟨rfl, rfl, Int.le_refl _, Int.le_refl _, fun p h => List.mem_append_left _ h, by simp, fun h2 => by omega⟩
  split
  · unfold dropF
    split <;> exact VUp.refl _
  split
  · unfold getF
    split <;> exact VUp.refl _
  split
  · unfold lockF
    split
    · exact VUp.refl _
    · rename_i h1
      split
      · exact VUp.refl _
      · exact VUp.setV h1 ⟨rfl, rfl, by simp only; omega, Int.le_refl _, fun _ h => h, Nat.le_refl _, fun _ => rfl⟩
  split
  · unfold sealF
    split
    · exact VUp.refl _
    · rename_i h1
      split
      · exact VUp.refl _
      · split
        · exact VUp.refl _
        · exact VUp.setV h1 ⟨rfl, rfl, by simp only; omega, Int.le_refl _, fun _ h => h, Nat.le_refl _, fun _ => rfl⟩
  split
  · exact pair_up
  · unfold moveF
    split
    · exact VUp.refl _
    · rename_i h1
      split
      · exact VUp.refl _
      · split
        · exact VUp.refl _
        · exact VUp.setV h1 ⟨rfl, rfl, Int.le_refl _, Int.le_refl _, fun _ h => h, Nat.le_refl _, fun _ => rfl⟩
theorem do_up {x : IdxD} {c : CmdD} : VUp x.vols (doF x c).1.vols := by
  unfold doF
  split
  · exact VUp.refl _
  · rename_i h1
    have hm := may_of (by simpa using h1)
    split
    · exact VUp.refl _
    · split
      · exact VUp.refl _
      · split <;> exact does_up hm
end Go.Proofs
