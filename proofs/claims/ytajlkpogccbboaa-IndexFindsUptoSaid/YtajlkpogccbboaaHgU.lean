/- Operations that are passed over because their guard was passed over. No condition. -/
import Derived.Test.YtajlkpogccbboaaHgT
set_option linter.unusedVariables false
set_option linter.unusedSimpArgs false
namespace Go.Hg
open Go.RowKit
section
variable {P : Program} {ops : Array Oper} {o : Oper} {rest : List Oper} {S : St} {K : St → Prop}

theorem yielded_none {w0 : World} {ok0 : Fr} {e : EF} {h : HF} {sz : Nat} {a : Act} {w : World} {j t : Nat} (r : RelF w0 ok0 e h sz a w) (hj : guardSlot ops j = some t) (ht : e t = .raw undef) : yielded ops a.tmps j = none := by
  obtain ⟨ok, G, hs, hr, h1, h2⟩ := r
  have h3 := hr t
  obtain ⟨hj, hjb⟩ := guardSlot_out hj
  rw [ht, slot_lt _ _ hjb] at h3
  simp only [Rep] at h3
  unfold yielded
  rw [hj]
  cases h5 : a.tmps[t]? with
  | none => simp [h5]
  | some u =>
    simp [h5] at h3
    subst h3
    simp [h5, undef]

theorem rel_put_raw {w0 : World} {ok0 : Fr} {e : EF} {h : HF} {sz : Nat} {a : Act} {w : World} (r : RelF w0 ok0 e h sz a w) (dst : Option Nat) (hd : ∀ d, dst = some d → Nat.blt d 1048576 = true) : RelF w0 ok0 (putF e dst (.raw undef)) h sz (a.put dst undef) w := by
  obtain ⟨ok, G, hs, hr, h1, h2⟩ := r
  cases dst with
  | none => exact ⟨ok, G, hs, hr, h1, h2⟩
  | some d =>
    refine ⟨ok, G, hs, fun x => ?_, by simpa [Act.put] using h1, by simpa [Act.put] using h2⟩
    simp only [putF]
    cases hx : Nat.beq x d with
    | true =>
      have : x = d := Nat.eq_of_beq_eq_true hx
      subst this
      simp only [cond_true, Rep]
      rw [slot_lt _ _ (hd x rfl)]
      simp only [Act.put]
      rcases Nat.lt_or_ge x a.tmps.size with hlt | hge
      · simp [hlt]
      · rw [Array.getD_eq_getD_getElem?, Array.getElem?_eq_none (by simpa using hge)]
        rfl
    | false =>
      have : d ≠ x := fun e => by subst e; simp at hx
      rw [slot_put_ne this]
      simpa using hr x

theorem op_pass {g : Option Bool} {j t : Nat} {want : Bool} (hg : o.guard = some (j, want)) (hj : guardSlot ops j = some t) (ht : get S.env t = .raw undef ∨ get S.env t = .bool (!want)) (hd : ∀ d, o.dst = some d → Nat.blt d 1048576 = true)
    (hr : OpsOk P ops rest ⟨put S.env o.dst (.raw undef), S.H, S.sz⟩ K) : OpsOk P ops (o :: rest) S K := by
  intro w0 ok0 a w r Q hq
  unfold wpList
  rw [if_neg (by
    rcases ht with ht | ht
    · simp [Region.wanted, hg, yielded_none (ops := ops) r hj ht]
    · simp [Region.wanted, hg, yielded_of r hj ht])]
  have := rel_put_raw r o.dst hd
  refine hr w0 ok0 _ w ?_ Q hq
  unfold Rel
  rw [get_put]
  exact this
theorem rec_pass {env : Env} {h : HF} {sz : Nat} {j t : Nat} {want : Bool} (hg : o.guard = some (j, want)) (hj : guardSlot ops j = some t) (ht : get env t = .raw undef ∨ get env t = .bool (!want)) (hd : ∀ d, o.dst = some d → Nat.blt d 1048576 = true) :
    RecOk P ops sz o (get env) h ⟨[t], o.dst, .raw undef, [], [], []⟩ := by
  refine ⟨rfl, fun e' h' he hR hf w0 ok0 a w r K Q hK => ?_⟩
  have he' : e' t = get env t := he t (by simp)
  rw [if_neg (by
    rcases ht with ht | ht
    · simp [Region.wanted, hg, yielded_none (ops := ops) r hj (he'.trans ht)]
    · have hy : yielded ops a.tmps j = some (!want) := by
        obtain ⟨ok, G, hs, hr, h1, h2⟩ := r
        have h3 := hr t
        obtain ⟨hj, hjb⟩ := guardSlot_out hj
        rw [he', ht, slot_lt _ _ hjb] at h3
        simp only [Rep] at h3
        have h4 : a.tmps[t]? = some (.bool (!want)) := by
          cases h5 : a.tmps[t]? with
          | none => simp [h5, undef] at h3
          | some u => simp [h5] at h3; rw [h3]
        unfold yielded
        rw [hj]
        simp [h4]
      simp [Region.wanted, hg, hy])]
  exact hK _ _ (rel_put_raw r o.dst hd)
end
section
variable {P : Program} {ops : Array Oper} {rest : List Oper} {env : Env} {H : Heap} {sz : Nat} {K : St → Prop} {S0 : St} {acc : List Rec} {op : Op} {ty : TypeId} {ps : String} {af : Array Edge} {j g d : Nat} {want : Bool}
/-- The guard says no, or was passed over itself; its slot is told to be empty. -/
theorem p1 (hj : guardSlot ops j = some g) (ht : get env g = .raw undef ∨ get env g = .bool (!want)) (hd : Nat.blt d 1048576 = true) (hr : OpsOk P ops rest ⟨(d, .raw undef) :: env, H, sz⟩ K) : OpsOk P ops (⟨some d, op, ty, ps, af, some (j, want)⟩ :: rest) ⟨env, H, sz⟩ K :=
  op_pass (g := none) rfl hj ht (fun d' h => by simp at h; subst h; exact hd) hr
theorem p0 (hj : guardSlot ops j = some g) (ht : get env g = .raw undef ∨ get env g = .bool (!want)) (hr : OpsOk P ops rest ⟨env, H, sz⟩ K) : OpsOk P ops (⟨none, op, ty, ps, af, some (j, want)⟩ :: rest) ⟨env, H, sz⟩ K :=
  op_pass (g := none) rfl hj ht (fun d' h => by simp at h) hr
theorem dp1 (hj : guardSlot ops j = some g) (ht : get env g = .raw undef ∨ get env g = .bool (!want)) (hd : Nat.blt d 1048576 = true) (hs : sz = S0.sz) (hr : DR P ops S0 rest (acc ++ [⟨[g], some d, .raw undef, [], [], []⟩]) ⟨(d, .raw undef) :: env, H, sz⟩ K) : DR P ops S0 (⟨some d, op, ty, ps, af, some (j, want)⟩ :: rest) acc ⟨env, H, sz⟩ K :=
  dr_rec hs (rec_pass rfl hj ht (fun d' h => by simp at h; subst h; exact hd)) hr
theorem dp0 (hj : guardSlot ops j = some g) (ht : get env g = .raw undef ∨ get env g = .bool (!want)) (hs : sz = S0.sz) (hr : DR P ops S0 rest (acc ++ [⟨[g], none, .raw undef, [], [], []⟩]) ⟨env, H, sz⟩ K) : DR P ops S0 (⟨none, op, ty, ps, af, some (j, want)⟩ :: rest) acc ⟨env, H, sz⟩ K :=
  dr_rec hs (rec_pass rfl hj ht (fun d' h => by simp at h)) hr
end
end Go.Hg
