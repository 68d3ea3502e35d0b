/- Chapter 15: the arguments, told as plain data. -/
import Derived.Test.YtajlkpogccbboaaTd15
import Derived.Test.YtajlkpogccbboaaT15m
set_option linter.unusedVariables false
set_option linter.unusedSimpArgs false
set_option maxRecDepth 100000
namespace Go.Proofs
open Go.Hg
section
variable {H : Type}
theorem dec3 {x : DataW H} (h : Has td3 x) : ∃ z : Int, dV x = [i64 z] ∧ R64 z := by
  obtain ⟨z, h1, h2, h3⟩ := dec_int h
  exact ⟨z, h1, h2, h3⟩
theorem dec9 {x : DataW H} (h : Has td9 x) : ∃ s : ByteArray, dV x = [.str s] := by
  unfold td9 at h
  simp only [Has] at h
  obtain ⟨s, rfl, _⟩ := h
  exact ⟨s, rfl⟩
theorem dec27 {x : DataW H} (h : Has td27 x) : ∃ z : Int, dV x = [.int .u32 z] := by
  unfold td27 at h
  simp only [Has] at h
  obtain ⟨n, rfl, _⟩ := h
  exact ⟨n, rfl⟩
theorem dec57 (x : DataW H) (h : Has td57 x) (_ : bulk x ≤ 1048576) : ∃ p : PlD, dV x = p.enc ∧ True := by
  unfold td57 at h
  simp only [Has, HasL] at h
  obtain ⟨_, rfl, a, _, rfl, ha, b, _, rfl, hb, rfl⟩ := h
  obtain ⟨r, h1, _⟩ := dec3 ha
  obtain ⟨n, h3, _⟩ := dec3 hb
  exact ⟨⟨r, n⟩, by simp only [dV, dVL, h1, h3]; rfl, trivial⟩
theorem dec30 (x : DataW H) (h : Has td30 x) (hk : bulk x ≤ 1048576) : ∃ c : CmdD, dV x = c.enc ∧ c.places.length ≤ 1048576 := by
  unfold td30 at h
  simp only [Has, HasL] at h
  obtain ⟨_, rfl, a, _, rfl, ha, b, _, rfl, hb, c, _, rfl, hc, d, _, rfl, hd, e, _, rfl, he, f, _, rfl, hf, g, _, rfl, hg, i, _, rfl, hi, j, _, rfl, hj, k, _, rfl, hkk, l, _, rfl, hl, m, _, rfl, hm, rfl⟩ := h
  simp only [bulk, bulkAll] at hk
  obtain ⟨za, a1, _⟩ := dec3 ha
  obtain ⟨zb, b1, _⟩ := dec3 hb
  obtain ⟨zc, c1, _⟩ := dec3 hc
  obtain ⟨zd, d1⟩ := dec9 hd
  obtain ⟨ze, e1, _⟩ := dec3 he
  obtain ⟨zf, f1, _⟩ := dec3 hf
  obtain ⟨zg, g1, _⟩ := dec3 hg
  obtain ⟨zi, i1⟩ := dec27 hi
  obtain ⟨zj, j1, _⟩ := dec3 hj
  obtain ⟨zk, k1, _⟩ := dec3 hkk
  obtain ⟨zl, l1, _⟩ := dec3 hl
  obtain ⟨zm, m1, m2, _⟩ := dec_sl dec57 hm (by omega)
  exact ⟨⟨za, zb, zc, zd, ze, zf, zg, zi, zj, zk, zl, zm⟩, by simp only [dV, dVL, a1, b1, c1, d1, e1, f1, g1, i1, j1, k1, l1, m1]; rfl, by simp only; omega⟩
theorem dec44 {x : DataW H} (h : Has td44 x) (hk : bulk x ≤ 1048576) : ∃ l : List CmdD, dV x = [rowOf CmdD.enc l] ∧ CmdsOk l := by
  obtain ⟨l, h1, h2, h3⟩ := dec_sl dec30 h hk
  exact ⟨l, h1, by omega, h3⟩
end
end Go.Proofs
