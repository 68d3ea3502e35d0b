/- Chapter 15: an index that comes in. -/
import Derived.Test.YtajlkpogccbboaaE15
set_option linter.unusedVariables false
set_option linter.unusedSimpArgs false
set_option maxRecDepth 100000
namespace Go.Proofs
open Go.Hg
section
variable {H : Type}
theorem dec4 {x : DataW H} (h : Has td4 x) : ∃ b : Bool, dV x = [.bool b] := by
  unfold td4 at h
  simp only [Has] at h
  obtain ⟨b, rfl⟩ := h
  exact ⟨b, rfl⟩
theorem dec54 (x : DataW H) (h : Has td54 x) (_ : bulk x ≤ 1048576) : ∃ p : SpanD, dV x = p.enc ∧ True := by
  unfold td54 at h
  simp only [Has, HasL] at h
  obtain ⟨_, rfl, a, _, rfl, ha, b, _, rfl, hb, rfl⟩ := h
  obtain ⟨r, h1, _⟩ := dec3 ha
  obtain ⟨n, h3, _⟩ := dec3 hb
  exact ⟨⟨r, n⟩, by simp only [dV, dVL, h1, h3]; rfl, trivial⟩
theorem dec47 (x : DataW H) (h : Has td47 x) (_ : bulk x ≤ 1048576) : ∃ p : NameD, dV x = p.enc ∧ True := by
  unfold td47 at h
  simp only [Has, HasL] at h
  obtain ⟨_, rfl, a, _, rfl, ha, b, _, rfl, hb, c, _, rfl, hc, d, _, rfl, hd, e, _, rfl, he, rfl⟩ := h
  obtain ⟨za, a1⟩ := dec9 ha
  obtain ⟨zb, b1, _⟩ := dec3 hb
  obtain ⟨zc, c1, _⟩ := dec3 hc
  obtain ⟨zd, d1, _⟩ := dec3 hd
  obtain ⟨ze, e1⟩ := dec27 he
  exact ⟨⟨za, zb, zc, zd, ze⟩, by simp only [dV, dVL, a1, b1, c1, d1, e1]; rfl, trivial⟩
theorem dec33 {x : DataW H} (h : Has td33 x) : ∃ z : Int, dV x = [i64 z] ∧ R64 z := by
  obtain ⟨z, h1, h2, h3⟩ := dec_int h
  exact ⟨z, h1, h2, h3⟩
theorem dec39 (x : DataW H) (h : Has td39 x) (_ : bulk x ≤ 1048576) : ∃ p : SessD, dV x = p.enc ∧ True := by
  unfold td39 td35 at h
  simp only [Has, HasL] at h
  obtain ⟨_, rfl, a, _, rfl, ha, b, _, rfl, hb, c, _, rfl, ⟨_, rfl, d, _, rfl, hd, e, _, rfl, he, f, _, rfl, hf, g, _, rfl, hg, i, _, rfl, hi, j, _, rfl, hj, rfl⟩, rfl⟩ := h
  obtain ⟨za, a1, _⟩ := dec3 ha
  obtain ⟨zb, b1, _⟩ := dec3 hb
  obtain ⟨zd, d1, _⟩ := dec33 hd
  obtain ⟨ze, e1, _⟩ := dec3 he
  obtain ⟨zf, f1, _⟩ := dec3 hf
  obtain ⟨zg, g1, _⟩ := dec3 hg
  obtain ⟨zi, i1⟩ := dec27 hi
  obtain ⟨zj, j1⟩ := dec4 hj
  exact ⟨⟨za, zb, ⟨zd, ze, zf, zg, zi, zj⟩⟩, by simp only [dV, dVL, a1, b1, d1, e1, f1, g1, i1, j1]; rfl, trivial⟩
structure VolOk (v : VolD) : Prop where
  parts : v.parts.length ≤ 1048576
  places : v.places.length ≤ 1048576
  used : R64 v.used
theorem dec50 (x : DataW H) (h : Has td50 x) (hk : bulk x ≤ 1048576) : ∃ v : VolD, dV x = v.enc ∧ VolOk v := by
  unfold td50 at h
  simp only [Has, HasL] at h
  obtain ⟨_, rfl, a, _, rfl, ha, b, _, rfl, hb, c, _, rfl, hc, d, _, rfl, hd, e, _, rfl, he, f, _, rfl, hf, g, _, rfl, hg, i, _, rfl, hi, j, _, rfl, hj, rfl⟩ := h
  simp only [bulk, bulkAll] at hk
  obtain ⟨za, a1, _⟩ := dec3 ha
  obtain ⟨zb, b1, _⟩ := dec3 hb
  obtain ⟨zc, c1, _⟩ := dec3 hc
  obtain ⟨zd, d1, d2⟩ := dec3 hd
  obtain ⟨ze, e1, _⟩ := dec3 he
  obtain ⟨zf, f1, f2, _⟩ := dec_sl dec54 hf (by omega)
  obtain ⟨zg, g1, g2, _⟩ := dec_sl dec57 hg (by omega)
  obtain ⟨zi, i1, _⟩ := dec3 hi
  obtain ⟨zj, j1, _⟩ := dec3 hj
  exact ⟨⟨za, zb, zc, zd, ze, zf, zg, zi, zj⟩, by simp only [dV, dVL, a1, b1, c1, d1, e1, f1, g1, i1, j1]; rfl, by simp only; omega, by simp only; omega, d2⟩
theorem dec26 {x : DataW H} (h : Has td26 x) (hk : bulk x ≤ 1048576) : ∃ v : IdxD, dV x = v.enc ∧ Fit 1048577 v := by
  unfold td26 at h
  simp only [Has, HasL] at h
  obtain ⟨_, rfl, a, _, rfl, ha, b, _, rfl, hb, c, _, rfl, hc, rfl⟩ := h
  simp only [bulk, bulkAll] at hk
  obtain ⟨za, a1, a2, a3⟩ := dec_sl dec50 ha (by omega)
  obtain ⟨zb, b1, b2, _⟩ := dec_sl dec47 hb (by omega)
  obtain ⟨zc, c1, c2, _⟩ := dec_sl dec39 hc (by omega)
  refine ⟨⟨za, zb, zc⟩, by simp only [dV, dVL, a1, b1, c1]; rfl, by simp only; omega, by simp only; omega, by simp only; omega, fun v hv => ?_, fun v hv => ?_, fun v hv => (a3 v hv).used⟩
  · have := (a3 v hv).parts; omega
  · have := (a3 v hv).places; omega
theorem dec65 (x : DataW H) (h : Has td65 x) (hk : bulk x ≤ 1048576) : ∃ (v : IdxD) (id : Int) (s : ByteArray) (w : IdxD), dV x = v.enc ++ ([i64 id, .str s] ++ w.enc) ∧ Fit 1048577 v ∧ Fit 1048577 w := by
  unfold td65 at h
  simp only [Has, HasL] at h
  obtain ⟨_, rfl, a, _, rfl, ha, b, _, rfl, hb, c, _, rfl, hc, d, _, rfl, hd, rfl⟩ := h
  simp only [bulk, bulkAll] at hk
  obtain ⟨za, a1, a2⟩ := dec26 ha (by omega)
  obtain ⟨zb, b1, _⟩ := dec3 hb
  obtain ⟨zc, c1⟩ := dec9 hc
  obtain ⟨zd, d1, d2⟩ := dec26 hd (by omega)
  exact ⟨za, zb, zc, zd, by simp only [dV, dVL, a1, b1, c1, d1]; rfl, a2, d2⟩
theorem dec60 (x : DataW H) (h : Has td60 x) (hk : bulk x ≤ 1048576) : ∃ (v : IdxD) (c : CmdD) (id : Int) (s : ByteArray), dV x = v.enc ++ (c.enc ++ [i64 id, .str s]) ∧ Fit 1048577 v ∧ c.places.length ≤ 1048576 := by
  unfold td60 at h
  simp only [Has, HasL] at h
  obtain ⟨_, rfl, a, _, rfl, ha, b, _, rfl, hb, c, _, rfl, hc, d, _, rfl, hd, rfl⟩ := h
  simp only [bulk, bulkAll] at hk
  obtain ⟨za, a1, a2⟩ := dec26 ha (by omega)
  obtain ⟨zb, b1, b2⟩ := dec30 b hb (by omega)
  obtain ⟨zc, c1, _⟩ := dec3 hc
  obtain ⟨zd, d1⟩ := dec9 hd
  exact ⟨za, zb, zc, zd, by simp only [dV, dVL, a1, b1, c1, d1]; rfl, a2, b2⟩
end
end Go.Proofs
