/- Chapter 15: an index that commands made is good: names, all commands. Plain laws. -/
import Derived.Test.YtajlkpogccbboaaP15c
set_option linter.unusedVariables false
set_option linter.unusedSimpArgs false
set_option linter.unnecessarySimpa false
namespace Go.Proofs
open Go.Hg
theorem ins_sorted {L : List ByteArray} {s : ByteArray} {p : Nat} (hL : L.Pairwise (fun a b => slt a b = true)) (h1 : ∀ a ∈ L.take p, slt a s = true) (h2 : ∀ a, L[p]? = some a → slt s a = true) : (L.take p ++ [s] ++ L.drop p).Pairwise (fun a b => slt a b = true) := by
  have h3 : ∀ a ∈ L.drop p, slt s a = true := by
    have hd : (L.drop p).Pairwise (fun a b => slt a b = true) := hL.sublist (List.drop_sublist _ _)
    cases hc : L.drop p with
    | nil => intro a ha; cases ha
    | cons b r =>
      have hb : L[p]? = some b := by
        have := List.getElem?_drop (xs := L) (i := p) (j := 0)
        rw [hc] at this
        simpa using this.symm
      rw [hc] at hd
      intro a ha
      rcases List.mem_cons.1 ha with rfl | ha
      · exact h2 _ hb
      · exact slt_trans (h2 _ hb) ((List.pairwise_cons.1 hd).1 a ha)
  rw [List.pairwise_append, List.pairwise_append]
  refine ⟨⟨hL.sublist (List.take_sublist _ _), by simp, fun a ha b hb => ?_⟩, hL.sublist (List.drop_sublist _ _), fun a ha b hb => ?_⟩
  · rw [List.mem_singleton.1 hb]; exact h1 a ha
  · rcases List.mem_append.1 ha with ha | ha
    · exact slt_trans (h1 a ha) (h3 b hb)
    · rw [List.mem_singleton.1 ha]; exact h3 b hb
theorem nameF_none {x : IdxD} {s : ByteArray} (h : (nameF x s).2 < 0) : ∀ n ∈ x.names, n.name ≠ s := by
  unfold nameF at h
  rw [findG_idx] at h
  rcases idxOf_cases (fun v : NameD => decide (v.name = s)) x.names with ⟨_, h2⟩ | ⟨j, hj, h1, _⟩
  · intro n hn; simpa using h2 n hn
  · omega
theorem put_good {x : IdxD} (hx : Good x) {c : CmdD} (hm : May c) : Good (putF x c).1 := by
  unfold putF
  split
  · exact hx
  · rename_i hnm
    split
    · exact hx
    · rename_i h1
      have hv := hx.vi _ (volF_mem h1).1
      split
      · exact hx
      · rename_i hp
        split
        · exact hx
        · rename_i hc
          split
          · exact hx
          · have hu : Up (volF x c.vol).1 { (volF x c.vol).1 with parts := (volF x c.vol).1.parts ++ [⟨c.off, c.n⟩] } := ⟨rfl, rfl, Int.le_refl _, Int.le_refl _, fun p h => List.mem_append_left _ h, by simp, fun h2 => by omega⟩
            have hG := Good.setV (v' := { (volF x c.vol).1 with parts := (volF x c.vol).1.parts ++ [⟨c.off, c.n⟩] }) (ci_same rfl hx h1) ⟨hv.used, hv.low, hv.high⟩ hu hx h1
            have hnew : NE (setL x.vols (volF x c.vol).2 { (volF x c.vol).1 with parts := (volF x c.vol).1.parts ++ [⟨c.off, c.n⟩] }) ⟨c.name, c.vol, c.off, c.n, c.sum⟩ := by
              have hmm := volF_mem h1
              refine ⟨hnm, hm.off, hm.n, (volF x c.vol).2.toNat, { (volF x c.vol).1 with parts := (volF x c.vol).1.parts ++ [⟨c.off, c.n⟩] }, ?_, hmm.2.2.2.1, List.mem_append_right _ (List.mem_singleton.2 rfl), by simp only; omega⟩
              rw [setL_pos hmm.2.2.1, List.getElem?_set, if_pos rfl, if_pos (List.getElem?_eq_some_iff.1 hmm.2.2.2.2).1]
            refine ⟨hG.ci, hG.vi, ?_, ?_⟩
            · simp only
              split
              · rename_i hk
                have hkm := nameF_mem (x := x) (s := c.name) (by omega)
                rw [setL_pos hkm.2.2.1, List.map_set]
                have : (x.names.map NameD.name)[(nameF x c.name).2.toNat]? = some c.name := by
                  rw [List.getElem?_map, hkm.2.2.2.2]
                  show some (nameF x c.name).1.name = _
                  rw [hkm.2.2.2.1]
                have e : (x.names.map NameD.name).set (nameF x c.name).2.toNat c.name = x.names.map NameD.name := by
                  apply List.ext_getElem?
                  intro j
                  rw [List.getElem?_set]
                  split
                  · rename_i e
                    subst e
                    rw [if_pos (List.getElem?_eq_some_iff.1 this).1, this]
                  · rfl
                show List.Pairwise _ ((x.names.map NameD.name).set _ c.name)
                rw [e]
                exact hx.sorted
              · rename_i hk
                have hno := nameF_none (x := x) (s := c.name) (by omega)
                unfold insL
                rw [List.map_append, List.map_append, List.map_take, List.map_drop]
                refine ins_sorted (s := c.name) hx.sorted (fun a ha => ?_) (fun a ha => ?_)
                · obtain ⟨j, hj, rfl⟩ := List.getElem_of_mem ha
                  rw [List.length_take, List.length_map] at hj
                  rw [List.getElem_take, List.getElem_map]
                  refine sgt_no ?_ (hno _ (List.getElem_mem _))
                  unfold putAt at hj
                  rcases idxOf_cases (fun y : NameD => sgt y.name c.name) x.names with ⟨e1, e2⟩ | ⟨i, hi, e1, _, e3⟩
                  · exact e2 _ (List.getElem_mem _)
                  · rw [if_neg (by omega), e1] at hj
                    exact e3 j (by omega) (by simp at hj; omega)
                · unfold putAt at ha
                  rcases idxOf_cases (fun y : NameD => sgt y.name c.name) x.names with ⟨e1, e2⟩ | ⟨i, hi, e1, e2, e3⟩
                  · rw [if_pos (by omega), List.getElem?_eq_none (by rw [List.length_map]; exact Nat.le_refl _)] at ha
                    cases ha
                  · rw [if_neg (by omega), e1, List.getElem?_map] at ha
                    simp only [Int.toNat_natCast, List.getElem?_eq_getElem hi, Option.map_some, Option.some.injEq] at ha
                    subst ha
                    exact sgt_yes e2
            · simp only
              split
              · intro n hn
                rcases setL_mem hn with rfl | hn
                · exact hnew
                · exact hG.each n hn
              · intro n hn
                unfold insL at hn
                rcases List.mem_append.1 hn with hn | hn
                · rcases List.mem_append.1 hn with hn | hn
                  · exact hG.each n (List.mem_of_mem_take hn)
                  · rw [List.mem_singleton.1 hn]; exact hnew
                · exact hG.each n (List.mem_of_mem_drop hn)
theorem drop_good {x : IdxD} (hx : Good x) {c : CmdD} : Good (dropF x c).1 := by
  unfold dropF
  split
  · exact hx
  · have hs : (x.names.take (nameF x c.name).2.toNat ++ x.names.drop ((nameF x c.name).2.toNat + 1)).Sublist x.names := by
      rw [← List.eraseIdx_eq_take_drop_succ]
      exact List.eraseIdx_sublist _ _
    exact ⟨hx.ci, hx.vi, hx.sorted.sublist (hs.map _), fun n hn => hx.each n (hs.subset hn)⟩
theorem does_good {x : IdxD} (hx : Good x) {c : CmdD} (hm : May c) : Good (doesF x c).1 := by
  unfold doesF
  split
  · exact open_good hx
  split
  · exact reserve_good hx hm
  split
  · exact put_good hx hm
  split
  · exact drop_good hx
  split
  · unfold getF
    split <;> exact hx
  split
  · exact lock_good hx
  split
  · exact seal_good hx
  split
  · exact pair_good hx
  · exact move_good hx hm
theorem do_good {x : IdxD} (hx : Good x) {c : CmdD} : Good (doF x c).1 := by
  unfold doF
  split
  · exact hx
  · rename_i h1
    have hd := does_good hx (may_of (by simpa using h1))
    split
    · exact hx
    · split
      · exact hx
      · split
        · exact ⟨hd.ci, hd.vi, hd.sorted, hd.each⟩
        · exact hd
theorem runK_good (l : List CmdD) : ∀ i, i ≤ l.length → Good (runK l i)
  | 0, _ => Good.nil
  | i + 1, h => by
    rw [runK_succ h]
    exact do_good (runK_good l i (by omega))
theorem runs_good (l : List CmdD) : Good (runsF l) := runK_good l _ (by omega)
end Go.Proofs
