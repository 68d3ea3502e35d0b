/- Chapter 16: what PlanTells takes, told as plain data. -/
import Derived.Test.YtikikdgfebbcmaaE16f
import Derived.Test.YtikikdgfebbcmaaT16jd
set_option linter.unusedVariables false
set_option linter.unusedSimpArgs false
set_option maxRecDepth 100000
namespace Go.Proofs
open Go.Hg
section
variable {H : Type}
theorem dec67 (y : DataW H) (h : Has td67 y) (hk : bulk y ≤ 1048576) : ∃ (x : IdxD) (v : VolD) (ps : List PartD) (inv : List InvD) (p : PlD) (k : KeyD) (n : Int), dV y = tellEnc x v ps inv p k n ∧ VolsOk x.vols ∧ v.ok ∧ ps.length ≤ 1048576 ∧ InvsOk inv := by
  unfold td67 at h
  simp only [Has, HasL] at h
  obtain ⟨_, rfl, a, _, rfl, ha, b, _, rfl, hb, c, _, rfl, hc, d, _, rfl, hd, e, _, rfl, he, f, _, rfl, hf, g, _, rfl, hg, rfl⟩ := h
  simp only [bulk, bulkAll] at hk
  obtain ⟨x, a1, a2, _⟩ := dec26 a ha (by omega)
  obtain ⟨v, b1, b2, _⟩ := dec39 b hb (by omega)
  obtain ⟨ps, c1, c2⟩ := dec56 hc (by omega)
  obtain ⟨inv, d1, d2⟩ := dec27 hd (by omega)
  obtain ⟨p, e1, _⟩ := dec41 e he (by omega)
  obtain ⟨k, f1, _⟩ := dec32 f hf (by omega)
  obtain ⟨n, g1, _⟩ := dec3 hg
  exact ⟨x, v, ps, inv, p, k, n, by simp only [dV, dVL, a1, b1, c1, d1, e1, f1, g1]; rfl, a2, b2, c2, d2⟩
end
end Go.Proofs
