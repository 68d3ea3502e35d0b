/- Chapter 16: parts, told as plain data. -/
import Derived.Test.YtikikdgfebbcmaaE16
import Derived.Test.YtikikdgfebbcmaaT16ia
set_option linter.unusedVariables false
set_option linter.unusedSimpArgs false
set_option maxRecDepth 100000
namespace Go.Proofs
open Go.Hg
section
variable {H : Type}
theorem dec9 {x : DataW H} (h : Has td9 x) : ∃ s : ByteArray, dV x = [.str s] := by
  unfold td9 at h
  simp only [Has] at h
  obtain ⟨s, rfl, _⟩ := h
  exact ⟨s, rfl⟩
theorem dec62 (x : DataW H) (h : Has td62 x) (_ : bulk x ≤ 1048576) : ∃ p : PartD, dV x = p.enc ∧ R64 p.at_ := by
  unfold td62 at h
  simp only [Has, HasL] at h
  obtain ⟨_, rfl, a, _, rfl, ha, b, _, rfl, hb, rfl⟩ := h
  obtain ⟨r, h1, h2⟩ := dec3 ha
  obtain ⟨n, h3⟩ := dec9 hb
  exact ⟨⟨r, n⟩, by simp only [dV, dVL, h1, h3]; rfl, h2⟩
theorem dec56 {x : DataW H} (h : Has td56 x) (hk : bulk x ≤ 1048576) : ∃ l : List PartD, dV x = [rowOf PartD.enc l] ∧ l.length ≤ 1048576 := by
  obtain ⟨l, h1, h2, _⟩ := dec_sl dec62 h hk
  exact ⟨l, h1, by omega⟩
end
end Go.Proofs
