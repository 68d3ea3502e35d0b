/- Chapter 15: an index that commands made is good. Plain laws. -/
import Derived.Test.YtajlkpogccbboaaP15b
set_option linter.unusedVariables false
set_option linter.unusedSimpArgs false
set_option linter.unnecessarySimpa false
namespace Go.Proofs
open Go.Hg
structure VI (v : VolD) : Prop where
  used : v.used ≤ 160
  low : v.phase < 3 → v.places = []
  high : 3 ≤ v.phase → wholeF v.places v.home = true
structure NE (vols : List VolD) (m : NameD) : Prop where
  ne : m.name ≠ ⟨#[]⟩
  off : 0 ≤ m.off ∧ m.off ≤ 1048576
  n : 0 ≤ m.n ∧ m.n ≤ 1048576
  vol : ∃ (i : Nat) (v : VolD), vols[i]? = some v ∧ v.id = m.vol ∧ (⟨m.off, m.n⟩ : SpanD) ∈ v.parts ∧ m.off + m.n ≤ v.used
structure Good (x : IdxD) : Prop where
  ci : CI (x.vols.map VolD.core)
  vi : ∀ v ∈ x.vols, VI v
  sorted : (x.names.map NameD.name).Pairwise (fun a b => slt a b = true)
  each : ∀ n ∈ x.names, NE x.vols n
theorem NE.up {l l' : List VolD} {n : NameD} (h : NE l n) (hu : VUp l l') : NE l' n := by
  obtain ⟨i, v, h1, h2, h3, h4⟩ := h.vol
  obtain ⟨w, h5, h6⟩ := hu i v h1
  exact ⟨h.ne, h.off, h.n, i, w, h5, h6.id.trans h2, h6.parts _ h3, Int.le_trans h4 h6.used⟩
theorem Good.nil : Good idx0 := ⟨CI.nil, by simp [idx0], by simp [idx0], by simp [idx0]⟩
theorem core_at {l : List VolD} {i : Nat} {v : VolD} (h : l[i]? = some v) : (l.map VolD.core)[i]? = some v.core := by rw [List.getElem?_map, h]; rfl
theorem at_core {l : List VolD} {i : Nat} {c : CoreD} (h : (l.map VolD.core)[i]? = some c) : ∃ v, l[i]? = some v ∧ v.core = c := by
  rw [List.getElem?_map] at h
  cases hv : l[i]? with
  | none => rw [hv] at h; cases h
  | some v => rw [hv] at h; injection h with h; exact ⟨v, rfl, h⟩
/-- A volume is found by its number. -/
theorem volF_uniq {x : IdxD} (h : CI (x.vols.map VolD.core)) {i : Nat} {v : VolD} (hv : x.vols[i]? = some v) : volF x v.id = (v, (i : Int)) := by
  unfold volF
  have hn : ¬ idxOf (fun u : VolD => decide (u.id = v.id)) x.vols < 0 := by
    intro hlt
    rcases idxOf_cases (fun u : VolD => decide (u.id = v.id)) x.vols with ⟨_, h2⟩ | ⟨j, hj, h1, _⟩
    · have := h2 v (List.mem_of_getElem? hv)
      simp at this
    · omega
  obtain ⟨j, hj, h1, h2, h3⟩ := findG_at (z := VolD.zero) hn
  have hjv : x.vols[j]? = some x.vols[j] := List.getElem?_eq_getElem hj
  have := h.c4 j i _ _ (core_at hjv) (core_at hv) (by simpa [VolD.core] using h3)
  subst this
  rw [hv] at hjv; injection hjv with hjv
  rw [h2, ← hjv]
theorem same_core {l : List VolD} {i : Nat} {v v' : VolD} (hv : l[i]? = some v) (he : v'.core = v.core) : (l.set i v').map VolD.core = l.map VolD.core := by
  rw [List.map_set, he]
  apply List.ext_getElem?
  intro j
  rw [List.getElem?_set]
  split
  · rename_i e
    subst e
    split
    · rw [core_at hv]
    · rename_i hl; rw [List.getElem?_eq_none (by omega)]
  · rfl
section
variable {x : IdxD} (hx : Good x) {id : Int} (h : ¬ (volF x id).2 < 0)
/-- A volume is set. -/
theorem Good.setV {v' : VolD} (hc : CI ((setL x.vols (volF x id).2 v').map VolD.core)) (hv : VI v') (hu : Up (volF x id).1 v') (hx : Good x) (h : ¬ (volF x id).2 < 0) : Good ⟨setL x.vols (volF x id).2 v', x.names, x.last⟩ :=
  ⟨hc, fun u hu' => (setL_mem hu').elim (fun e => e ▸ hv) (hx.vi u), hx.sorted, fun n hn => (hx.each n hn).up (VUp.setV h hu)⟩
theorem ci_same {v' : VolD} (he : v'.core = (volF x id).1.core) (hx : Good x) (h : ¬ (volF x id).2 < 0) : CI ((setL x.vols (volF x id).2 v').map VolD.core) := by
  rw [setL_pos (volF_mem h).2.2.1, same_core (volF_mem h).2.2.2.2 he]
  exact hx.ci
theorem ci_rise {v' : VolD} {p : Int} (he : v'.core = { (volF x id).1.core with phase := p }) (hx : Good x) (h : ¬ (volF x id).2 < 0) (h4 : (volF x id).1.phase ≠ 4) (h5 : (volF x id).1.phase ≠ 5) (hp : 1 ≤ p) (hp3 : p ≤ 3) : CI ((setL x.vols (volF x id).2 v').map VolD.core) := by
  rw [setL_pos (volF_mem h).2.2.1, List.map_set, he]
  exact hx.ci.rise (core_at (volF_mem h).2.2.2.2) h4 h5 hp hp3
end
theorem third_ok {a b : Int} (h : ¬ (thirdF a b).2 ≠ 0) : 1 ≤ a ∧ a ≤ 3 ∧ 1 ≤ b ∧ b ≤ 3 ∧ a ≠ b ∧ thirdF a b = (6 - a - b, 0) := by
  unfold thirdF at h ⊢
  split
  · rename_i h1; exact ⟨h1.1, h1.2.1, h1.2.2.1, h1.2.2.2.1, h1.2.2.2.2, rfl⟩
  · rename_i h1; rw [if_neg h1] at h; exact absurd (by simp) h
theorem open_good {x : IdxD} (hx : Good x) {c : CmdD} : Good (openF x c).1 := by
  unfold openF
  split
  · exact hx
  · rename_i h1
    split
    · exact hx
    · rename_i h2
      have ht := third_ok h1
      refine ⟨?_, fun v hv => ?_, hx.sorted, fun n hn => (hx.each n hn).up (VUp.app _ _)⟩
      · have := hx.ci.open (hm := c.region) (by rw [List.length_map]; omega) ht.1 ht.2.1
        rw [List.length_map] at this
        simpa [VolD.core] using this
      · rcases List.mem_append.1 hv with hv | hv
        · exact hx.vi v hv
        · rw [List.mem_singleton.1 hv]
          exact ⟨by simp, fun _ => rfl, fun h => by simp at h⟩
theorem reserve_good {x : IdxD} (hx : Good x) {c : CmdD} (hm : May c) : Good (reserveF x c).1 := by
  unfold reserveF
  split
  · exact hx
  · rename_i h1
    have hv := hx.vi _ (volF_mem h1).1
    split
    · exact hx
    · split
      · exact hx
      · split
        · exact hx
        · exact Good.setV (v' := { (volF x c.vol).1 with used := (volF x c.vol).1.used + c.n }) (ci_same rfl hx h1) ⟨by simp only; omega, hv.low, hv.high⟩ ⟨rfl, rfl, Int.le_refl _, by simp only; omega, fun _ h => h, Nat.le_refl _, fun _ => rfl⟩ hx h1
theorem lock_good {x : IdxD} (hx : Good x) {c : CmdD} : Good (lockF x c).1 := by
  unfold lockF
  split
  · exact hx
  · rename_i h1
    have hv := hx.vi _ (volF_mem h1).1
    split
    · exact hx
    · exact Good.setV (v' := { (volF x c.vol).1 with phase := 2 }) (ci_rise (p := 2) rfl hx h1 (by omega) (by omega) (by omega) (by omega)) ⟨hv.used, fun _ => hv.low (by omega), fun h => by simp at h⟩ ⟨rfl, rfl, by simp only; omega, Int.le_refl _, fun _ h => h, Nat.le_refl _, fun _ => rfl⟩ hx h1
theorem seal_good {x : IdxD} (hx : Good x) {c : CmdD} : Good (sealF x c).1 := by
  unfold sealF
  split
  · exact hx
  · rename_i h1
    have hv := hx.vi _ (volF_mem h1).1
    split
    · exact hx
    · split
      · exact hx
      · rename_i hw
        exact Good.setV (v' := { (volF x c.vol).1 with phase := 3, places := c.places }) (ci_rise (p := 3) rfl hx h1 (by omega) (by omega) (by omega) (by omega)) ⟨hv.used, fun h => by simp at h, fun _ => by simpa using hw⟩ ⟨rfl, rfl, by simp only; omega, Int.le_refl _, fun _ h => h, Nat.le_refl _, fun _ => rfl⟩ hx h1
theorem move_good {x : IdxD} (hx : Good x) {c : CmdD} (hm : May c) : Good (moveF x c).1 := by
  unfold moveF
  split
  · exact hx
  · rename_i h1
    have hv := hx.vi _ (volF_mem h1).1
    split
    · exact hx
    · split
      · exact hx
      · rename_i hp hc
        have hidx := hm.idx
        refine Good.setV (v' := { (volF x c.vol).1 with places := setL (volF x c.vol).1.places c.idx (c.places.headD ⟨0, 0⟩) }) (ci_same rfl hx h1) ⟨hv.used, fun h => by simp only at h; omega, fun _ => ?_⟩ ⟨rfl, rfl, Int.le_refl _, Int.le_refl _, fun _ h => h, Nat.le_refl _, fun _ => rfl⟩ hx h1
        simp only [not_or] at hc
        obtain ⟨c1, c2, c3, c4⟩ := hc
        simp only
        rw [setL_pos hidx.1]
        refine whole_set (hv.high (by omega)) (by omega) (by simpa using c3) (fun q hq e => c4 (List.any_eq_true.2 ⟨q, hq, by simpa using e⟩))
theorem sumId_eq {a b : Int} (ha : 1 ≤ a ∧ a ≤ 48) (hb : 1 ≤ b ∧ b ≤ 48) : sumId a b = 1000 + 64 * a + b := by
  unfold sumId
  rw [bop_mul (by omega) (by omega), bop_add (a := 1000) (b := 64 * a) (by omega) (by omega), bop_add (by omega) (by omega)]
theorem pair_good {x : IdxD} (hx : Good x) {c : CmdD} : Good (pairF x c).1 := by
  have hup := pair_up (x := x) (c := c)
  unfold pairF at hup ⊢
  split
  · exact hx
  · rename_i h1
    have va := volF_mem (x := x) (id := c.vol) (by omega)
    have vb := volF_mem (x := x) (id := c.mate) (by omega)
    rw [if_neg h1] at hup
    split
    · exact hx
    · rename_i h2
      rw [if_neg h2] at hup
      split
      · exact hx
      · rename_i h3
        rw [if_neg h3] at hup
        split
        · exact hx
        · rename_i h4
          rw [if_neg h4] at hup
          simp only [not_or] at h3
          have ht := third_ok h3.1
          have ca := core_at va.2.2.2.2
          have cb := core_at vb.2.2.2.2
          have la := hx.ci.low ca (by simp only [VolD.core]; omega)
          have lb := hx.ci.low cb (by simp only [VolD.core]; omega)
          have hs := sumId_eq (a := (volF x c.vol).1.id) (b := (volF x c.mate).1.id) la lb
          refine ⟨?_, fun v hv => ?_, hx.sorted, fun n hn => (hx.each n hn).up hup⟩
          · have := hx.ci.pairs (by rw [List.length_map]; omega) ca cb (by simp only [VolD.core]; omega) (by simp only [VolD.core]; omega) (by simp only [VolD.core]; omega)
            simp only
            rw [setL_pos vb.2.2.1, setL_pos va.2.2.1, List.map_append, List.map_set, List.map_set, hs, ht.2.2.2.2.2]
            exact this
          · have hva := hx.vi _ va.1
            have hvb := hx.vi _ vb.1
            simp only at hv
            rcases List.mem_append.1 hv with hv | hv
            · rcases setL_mem hv with rfl | hv
              · exact ⟨hvb.used, fun h => by simp at h, fun _ => hvb.high (by omega)⟩
              · rcases setL_mem hv with rfl | hv
                · exact ⟨hva.used, fun h => by simp at h, fun _ => hva.high (by omega)⟩
                · exact hx.vi v hv
            · rw [List.mem_singleton.1 hv]
              exact ⟨by simp, fun h => by simp at h, fun _ => by simpa using h3.2⟩
end Go.Proofs
