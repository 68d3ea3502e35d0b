/- Chapter 16: the arguments, told as plain data. -/
import Derived.Test.YtikikdgfebbcmaaTd16
import Derived.Test.YtikikdgfebbcmaaD16
set_option linter.unusedVariables false
set_option linter.unusedSimpArgs false
set_option maxRecDepth 100000
namespace Go.Proofs
open Go.Hg
section
variable {H : Type}
theorem dec3 {x : DataW H} (h : Has td3 x) : ∃ z : Int, dV x = [i64 z] ∧ R64 z := by
  obtain ⟨z, h1, h2, h3⟩ := dec_int h
  exact ⟨z, h1, h2, h3⟩
theorem dec41 (x : DataW H) (h : Has td41 x) (_ : bulk x ≤ 1048576) : ∃ p : PlD, dV x = p.enc ∧ R64 p.r ∧ R64 p.n := by
  unfold td41 at h
  simp only [Has, HasL] at h
  obtain ⟨_, rfl, a, _, rfl, ha, b, _, rfl, hb, rfl⟩ := h
  obtain ⟨r, h1, h2⟩ := dec3 ha
  obtain ⟨n, h3, h4⟩ := dec3 hb
  exact ⟨⟨r, n⟩, by simp only [dV, dVL, h1, h3]; rfl, h2, h4⟩
theorem dec32 (x : DataW H) (h : Has td32 x) (_ : bulk x ≤ 1048576) : ∃ p : KeyD, dV x = p.enc ∧ R64 p.vol ∧ R64 p.idx := by
  unfold td32 at h
  simp only [Has, HasL] at h
  obtain ⟨_, rfl, a, _, rfl, ha, b, _, rfl, hb, rfl⟩ := h
  obtain ⟨r, h1, h2⟩ := dec3 ha
  obtain ⟨n, h3, h4⟩ := dec3 hb
  exact ⟨⟨r, n⟩, by simp only [dV, dVL, h1, h3]; rfl, h2, h4⟩
theorem dec60 (x : DataW H) (h : Has td60 x) (_ : bulk x ≤ 1048576) : ∃ p : SpanD, dV x = p.enc ∧ R64 p.off ∧ R64 p.n := by
  unfold td60 at h
  simp only [Has, HasL] at h
  obtain ⟨_, rfl, a, _, rfl, ha, b, _, rfl, hb, rfl⟩ := h
  obtain ⟨r, h1, h2⟩ := dec3 ha
  obtain ⟨n, h3, h4⟩ := dec3 hb
  exact ⟨⟨r, n⟩, by simp only [dV, dVL, h1, h3]; rfl, h2, h4⟩
theorem dec44 (x : DataW H) (h : Has td44 x) (hk : bulk x ≤ 1048576) : ∃ p : InvD, dV x = p.enc ∧ R64 p.place.r ∧ R64 p.place.n ∧ p.keys.length ≤ 1048576 ∧ ∀ k ∈ p.keys, R64 k.vol ∧ R64 k.idx := by
  unfold td44 at h
  simp only [Has, HasL] at h
  obtain ⟨_, rfl, a, _, rfl, ha, b, _, rfl, hb, c, _, rfl, hc, rfl⟩ := h
  simp only [bulk, bulkAll] at hk
  obtain ⟨p, h1, h2, h3⟩ := dec41 a ha (by omega)
  obtain ⟨l, h4⟩ := dec_bool hb
  obtain ⟨ks, h5, h6, h7⟩ := dec_sl dec32 hc (by omega)
  exact ⟨⟨p, l, ks⟩, by simp only [dV, dVL, h1, h4, h5]; rfl, h2, h3, by simp only; omega, h7⟩
theorem dec39 (x : DataW H) (h : Has td39 x) (hk : bulk x ≤ 1048576) : ∃ v : VolD, dV x = v.enc ∧ v.ok ∧ (R64 v.mate ∧ R64 v.pair ∧ R64 v.sum ∧ (∀ s ∈ v.parts, R64 s.off ∧ R64 s.n) ∧ ∀ p ∈ v.places, R64 p.r ∧ R64 p.n) := by
  unfold td39 at h
  simp only [Has, HasL] at h
  obtain ⟨_, rfl, a, _, rfl, ha, b, _, rfl, hb, c, _, rfl, hc, d, _, rfl, hd, e, _, rfl, he, f, _, rfl, hf, g, _, rfl, hg, i, _, rfl, hi, j, _, rfl, hj, rfl⟩ := h
  simp only [bulk, bulkAll] at hk
  obtain ⟨za, a1, a2⟩ := dec3 ha
  obtain ⟨zb, b1, b2⟩ := dec3 hb
  obtain ⟨zc, c1, c2⟩ := dec3 hc
  obtain ⟨zd, d1, d2⟩ := dec3 hd
  obtain ⟨ze, e1, e2⟩ := dec3 he
  obtain ⟨zi, i1, i2⟩ := dec3 hi
  obtain ⟨zj, j1, j2⟩ := dec3 hj
  obtain ⟨ps, f1, f2, f3⟩ := dec_sl dec60 hf (by omega)
  obtain ⟨pl, g1, g2, g3⟩ := dec_sl dec41 hg (by omega)
  exact ⟨⟨za, zb, zc, zd, ze, ps, pl, zi, zj⟩, by simp only [dV, dVL, a1, b1, c1, d1, e1, f1, g1, i1, j1]; rfl, ⟨a2, b2, d2, e2, by simp only; omega, by simp only; omega, fun p hp => (g3 p hp).2⟩, c2, i2, j2, f3, g3⟩
theorem dec26 (x : DataW H) (h : Has td26 x) (hk : bulk x ≤ 1048576) : ∃ v : IdxD, dV x = v.enc ∧ VolsOk v.vols ∧ ∀ y ∈ v.vols, (R64 y.mate ∧ R64 y.pair ∧ R64 y.sum ∧ (∀ s ∈ y.parts, R64 s.off ∧ R64 s.n) ∧ ∀ p ∈ y.places, R64 p.r ∧ R64 p.n) := by
  unfold td26 at h
  simp only [Has, HasL] at h
  obtain ⟨_, rfl, a, _, rfl, ha, b, _, rfl, hb, c, _, rfl, hc, rfl⟩ := h
  simp only [bulk, bulkAll] at hk
  obtain ⟨vs, a1, a2, a3⟩ := dec_sl dec39 ha (by omega)
  obtain ⟨n, cs, b1⟩ := dec_sl_any hb
  obtain ⟨m, ds, c1⟩ := dec_sl_any hc
  exact ⟨⟨vs, n, cs, m, ds⟩, by simp only [dV, dVL, a1, b1, c1]; rfl, ⟨by simp only; omega, fun y hy => (a3 y hy).1⟩, fun y hy => (a3 y hy).2⟩
theorem dec27 {x : DataW H} (h : Has td27 x) (hk : bulk x ≤ 1048576) : ∃ l : List InvD, dV x = [rowOf InvD.enc l] ∧ InvsOk l := by
  obtain ⟨l, h1, h2, h3⟩ := dec_sl dec44 h hk
  exact ⟨l, h1, by omega, fun y hy => (h3 y hy).2.2.1⟩
end
end Go.Proofs
