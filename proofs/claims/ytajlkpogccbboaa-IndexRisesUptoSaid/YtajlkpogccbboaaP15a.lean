/- Chapter 15: what volumes tell of one another. Plain laws. -/
import Derived.Test.YtajlkpogccbboaaT15m
set_option linter.unusedVariables false
set_option linter.unusedSimpArgs false
set_option linter.unnecessarySimpa false
namespace Go.Proofs
open Go.Hg
structure CoreD where
  id : Int
  home : Int
  phase : Int
  pair : Int
  sum : Int
def VolD.core (v : VolD) : CoreD := ⟨v.id, v.home, v.phase, v.pair, v.sum⟩
structure CI (C : List CoreD) : Prop where
  c1 : ∀ (i : Nat) (v : CoreD), C[i]? = some v → v.phase ≠ 5 → v.id = (i : Int) + 1
  c2 : ∀ (i : Nat) (v : CoreD), C[i]? = some v → v.phase = 5 → v.id = 1000 + 64 * v.pair + v.sum ∧ (∃ (j : Nat) (a : CoreD), C[j]? = some a ∧ a.id = v.pair ∧ a.phase = 4) ∧ ∃ (k : Nat) (b : CoreD), C[k]? = some b ∧ b.id = v.sum ∧ b.phase = 4
  c3 : C.length ≤ 48
  c5 : ∀ (i : Nat) (v : CoreD), C[i]? = some v → 1 ≤ v.phase ∧ v.phase ≤ 5 ∧ 1 ≤ v.home ∧ v.home ≤ 3
  c7 : ∀ (i : Nat) (v : CoreD), C[i]? = some v → v.phase = 4 → ∃ (j : Nat) (w : CoreD) (k : Nat) (s : CoreD), C[j]? = some w ∧ w.id = v.pair ∧ w.phase = 4 ∧ w.pair = v.id ∧ w.sum = v.sum ∧ w.home ≠ v.home ∧ C[k]? = some s ∧ s.id = v.sum ∧ s.phase = 5 ∧ s.home + v.home + w.home = 6 ∧ ((s.pair = v.id ∧ s.sum = w.id) ∨ (s.pair = w.id ∧ s.sum = v.id))
  c4 : ∀ (i j : Nat) (a b : CoreD), C[i]? = some a → C[j]? = some b → a.id = b.id → i = j
theorem CI.low {C : List CoreD} (h : CI C) {i : Nat} {v : CoreD} (hv : C[i]? = some v) (hp : v.phase ≠ 5) : 1 ≤ v.id ∧ v.id ≤ 48 := by
  have h1 := h.c1 i v hv hp
  have h2 := (List.getElem?_eq_some_iff.1 hv).1
  have h3 := h.c3
  omega
theorem CI.high {C : List CoreD} (h : CI C) {i : Nat} {v : CoreD} (hv : C[i]? = some v) (hp : v.phase = 5) : 1 ≤ v.pair ∧ v.pair ≤ 48 ∧ 1 ≤ v.sum ∧ v.sum ≤ 48 := by
  obtain ⟨_, ⟨j, a, h1, h2, h3⟩, k, b, h4, h5, h6⟩ := h.c2 i v hv hp
  have l1 := h.low h1 (by omega)
  have l2 := h.low h4 (by omega)
  omega
theorem CI.nil : CI [] := ⟨by simp, by simp, by simp, by simp, by simp, by simp⟩
theorem set_get {C : List CoreD} {i j : Nat} {v v' u : CoreD} (hv : C[i]? = some v) (h : (C.set i v')[j]? = some u) : (j = i ∧ u = v') ∨ (j ≠ i ∧ C[j]? = some u) := by
  have hi := (List.getElem?_eq_some_iff.1 hv).1
  rw [List.getElem?_set] at h
  by_cases e : i = j
  · rw [if_pos e, if_pos hi] at h
    injection h with h
    exact .inl ⟨e.symm, h.symm⟩
  · rw [if_neg e] at h
    exact .inr ⟨fun e' => e e'.symm, h⟩
theorem set_ne {C : List CoreD} {i j : Nat} {v' u : CoreD} (h : C[j]? = some u) (hn : j ≠ i) : (C.set i v')[j]? = some u := by
  rw [List.getElem?_set, if_neg (fun e => hn e.symm)]; exact h
theorem set_eq {C : List CoreD} {i : Nat} {v v' : CoreD} (hv : C[i]? = some v) : (C.set i v')[i]? = some v' := by
  rw [List.getElem?_set, if_pos rfl, if_pos (List.getElem?_eq_some_iff.1 hv).1]
/-- A volume's phase rises, below the paired ones. -/
theorem CI.rise {C : List CoreD} (h : CI C) {i : Nat} {v : CoreD} (hv : C[i]? = some v) (h4 : v.phase ≠ 4) (h5 : v.phase ≠ 5) {p : Int} (hp : 1 ≤ p) (hp3 : p ≤ 3) : CI (C.set i { v with phase := p }) := by
  have keep : ∀ {j : Nat} {a : CoreD}, C[j]? = some a → (a.phase = 4 ∨ a.phase = 5) → (C.set i { v with phase := p })[j]? = some a := fun {j a} ha hpa => set_ne ha (by rintro rfl; rw [hv] at ha; injection ha with ha; subst ha; omega)
  refine ⟨fun j u hu hn => ?_, fun j u hu hn => ?_, by rw [List.length_set]; exact h.c3, fun j u hu => ?_, fun j u hu hn => ?_, fun j k a b ha hb he => ?_⟩
  · rcases set_get hv hu with ⟨rfl, rfl⟩ | ⟨_, hu⟩
    · exact h.c1 j v hv h5
    · exact h.c1 j u hu hn
  · rcases set_get hv hu with ⟨rfl, rfl⟩ | ⟨_, hu⟩
    · simp only at hn; omega
    · obtain ⟨e1, ⟨j1, a, a1, a2, a3⟩, k, b, b1, b2, b3⟩ := h.c2 j u hu hn
      exact ⟨e1, ⟨j1, a, keep a1 (.inl a3), a2, a3⟩, k, b, keep b1 (.inl b3), b2, b3⟩
  · rcases set_get hv hu with ⟨rfl, rfl⟩ | ⟨_, hu⟩
    · have := h.c5 j v hv; exact ⟨hp, by simp only; omega, this.2.2⟩
    · exact h.c5 j u hu
  · rcases set_get hv hu with ⟨rfl, rfl⟩ | ⟨_, hu⟩
    · simp only at hn; omega
    · obtain ⟨j1, w, k, s, w1, w2, w3, w4, w5, w6, s1, s2, s3, s4⟩ := h.c7 j u hu hn
      exact ⟨j1, w, k, s, keep w1 (.inl w3), w2, w3, w4, w5, w6, keep s1 (.inr s3), s2, s3, s4⟩
  · rcases set_get hv ha with ⟨rfl, rfl⟩ | ⟨_, ha2⟩ <;> rcases set_get hv hb with ⟨rfl, rfl⟩ | ⟨_, hb2⟩
    · rfl
    · exact h.c4 _ _ _ _ hv hb2 he
    · exact h.c4 _ _ _ _ ha2 hv he
    · exact h.c4 _ _ _ _ ha2 hb2 he
theorem app_get {C : List CoreD} {j : Nat} {v u : CoreD} (h : (C ++ [v])[j]? = some u) : C[j]? = some u ∨ (j = C.length ∧ u = v) := by
  rcases Nat.lt_or_ge j C.length with hj | hj
  · rw [List.getElem?_append_left hj] at h; exact .inl h
  · rw [List.getElem?_append_right hj] at h
    have : j - C.length = 0 := by
      rcases Nat.eq_zero_or_pos (j - C.length) with e | e
      · exact e
      · rw [List.getElem?_eq_none (by simp; omega)] at h; cases h
    rw [this] at h
    injection h with h
    exact .inr ⟨by omega, h.symm⟩
theorem app_old {C : List CoreD} {j : Nat} {v u : CoreD} (h : C[j]? = some u) : (C ++ [v])[j]? = some u := by
  rw [List.getElem?_append_left (List.getElem?_eq_some_iff.1 h).1]; exact h
theorem app_new {C : List CoreD} {v : CoreD} : (C ++ [v])[C.length]? = some v := by simp
/-- A volume is opened. -/
theorem CI.open {C : List CoreD} (h : CI C) (hl : C.length < 48) {hm : Int} (h1 : 1 ≤ hm) (h3 : hm ≤ 3) : CI (C ++ [⟨(C.length : Int) + 1, hm, 1, 0, 0⟩]) := by
  refine ⟨fun j u hu hn => ?_, fun j u hu hn => ?_, by rw [List.length_append, List.length_singleton]; omega, fun j u hu => ?_, fun j u hu hn => ?_, fun j k a b ha hb he => ?_⟩
  · rcases app_get hu with hu | ⟨rfl, rfl⟩
    · exact h.c1 j u hu hn
    · rfl
  · rcases app_get hu with hu | ⟨rfl, rfl⟩
    · obtain ⟨e1, ⟨j1, a, a1, a2⟩, k, b, b1, b2⟩ := h.c2 j u hu hn
      exact ⟨e1, ⟨j1, a, app_old a1, a2⟩, k, b, app_old b1, b2⟩
    · simp at hn
  · rcases app_get hu with hu | ⟨rfl, rfl⟩
    · exact h.c5 j u hu
    · exact ⟨by simp, by simp, h1, h3⟩
  · rcases app_get hu with hu | ⟨rfl, rfl⟩
    · obtain ⟨j1, w, k, s, w1, w2, w3, w4, w5, w6, s1, s2⟩ := h.c7 j u hu hn
      exact ⟨j1, w, k, s, app_old w1, w2, w3, w4, w5, w6, app_old s1, s2⟩
    · simp at hn
  · have old : ∀ {j : Nat} {a : CoreD}, C[j]? = some a → a.id ≠ (C.length : Int) + 1 := fun {j a} ha e => by
      have hj := (List.getElem?_eq_some_iff.1 ha).1
      by_cases h5 : a.phase = 5
      · have := (h.c2 j a ha h5).1
        have := h.high ha h5
        omega
      · have := h.c1 j a ha h5
        omega
    rcases app_get ha with ha | ⟨rfl, rfl⟩ <;> rcases app_get hb with hb | ⟨rfl, rfl⟩
    · exact h.c4 _ _ _ _ ha hb he
    · exact absurd he (old ha)
    · exact absurd he.symm (old hb)
    · rfl
/-- Two volumes are paired; their sum is a volume. -/
theorem CI.pairs {C : List CoreD} (h : CI C) (hl : C.length < 48) {i k : Nat} {a b : CoreD} (ha : C[i]? = some a) (hb : C[k]? = some b) (pa : a.phase = 3) (pb : b.phase = 3) (hne : a.home ≠ b.home) :
    CI (((C.set i { a with phase := 4, pair := b.id, sum := 1000 + 64 * a.id + b.id }).set k { b with phase := 4, pair := a.id, sum := 1000 + 64 * a.id + b.id }) ++ [⟨1000 + 64 * a.id + b.id, 6 - a.home - b.home, 5, a.id, b.id⟩]) := by
  have hik : i ≠ k := by rintro rfl; rw [ha] at hb; injection hb with hb; subst hb; exact hne rfl
  have la := h.low ha (by omega)
  have lb := h.low hb (by omega)
  have ca := h.c5 i a ha
  have cb := h.c5 k b hb
  have hb1 : (C.set i { a with phase := 4, pair := b.id, sum := 1000 + 64 * a.id + b.id })[k]? = some b := set_ne hb (fun e => hik e.symm)
  generalize hA : ({ a with phase := 4, pair := b.id, sum := 1000 + 64 * a.id + b.id } : CoreD) = A at *
  generalize hB : ({ b with phase := 4, pair := a.id, sum := 1000 + 64 * a.id + b.id } : CoreD) = B at *
  generalize hS : (⟨1000 + 64 * a.id + b.id, 6 - a.home - b.home, 5, a.id, b.id⟩ : CoreD) = S at *
  have eA : A.id = a.id ∧ A.home = a.home ∧ A.phase = 4 ∧ A.pair = b.id ∧ A.sum = 1000 + 64 * a.id + b.id := by subst hA; exact ⟨rfl, rfl, rfl, rfl, rfl⟩
  have eB : B.id = b.id ∧ B.home = b.home ∧ B.phase = 4 ∧ B.pair = a.id ∧ B.sum = 1000 + 64 * a.id + b.id := by subst hB; exact ⟨rfl, rfl, rfl, rfl, rfl⟩
  have eS : S.id = 1000 + 64 * a.id + b.id ∧ S.home = 6 - a.home - b.home ∧ S.phase = 5 ∧ S.pair = a.id ∧ S.sum = b.id := by subst hS; exact ⟨rfl, rfl, rfl, rfl, rfl⟩
  clear hA hB hS
  have get : ∀ {j : Nat} {u : CoreD}, (((C.set i A).set k B) ++ [S])[j]? = some u → (j = i ∧ u = A) ∨ (j = k ∧ u = B) ∨ (j = C.length ∧ u = S) ∨ (j ≠ i ∧ j ≠ k ∧ C[j]? = some u) := fun {j u} hu => by
    rcases app_get hu with hu | ⟨e, rfl⟩
    · rcases set_get hb1 hu with ⟨rfl, rfl⟩ | ⟨n1, hu⟩
      · exact .inr (.inl ⟨rfl, rfl⟩)
      · rcases set_get ha hu with ⟨rfl, rfl⟩ | ⟨n2, hu⟩
        · exact .inl ⟨rfl, rfl⟩
        · exact .inr (.inr (.inr ⟨n2, n1, hu⟩))
    · exact .inr (.inr (.inl ⟨by simpa using e, rfl⟩))
  have gi : (((C.set i A).set k B) ++ [S])[i]? = some A := app_old (set_ne (set_eq ha) hik)
  have gk : (((C.set i A).set k B) ++ [S])[k]? = some B := app_old (set_eq hb1)
  have gs : (((C.set i A).set k B) ++ [S])[C.length]? = some S := by
    simp
  have keep : ∀ {j : Nat} {u : CoreD}, C[j]? = some u → (u.phase = 4 ∨ u.phase = 5) → (((C.set i A).set k B) ++ [S])[j]? = some u := fun {j u} hu hp => by
    refine app_old (set_ne (set_ne hu ?_) ?_)
    · rintro rfl; rw [ha] at hu; injection hu with hu; subst hu; omega
    · rintro rfl; rw [hb] at hu; injection hu with hu; subst hu; omega
  refine ⟨fun j u hu hn => ?_, fun j u hu hn => ?_, by simp; omega, fun j u hu => ?_, fun j u hu hn => ?_, ?_⟩
  · rcases get hu with ⟨rfl, rfl⟩ | ⟨rfl, rfl⟩ | ⟨rfl, rfl⟩ | ⟨_, _, hu⟩
    · have := h.c1 j a ha (by omega); omega
    · have := h.c1 j b hb (by omega); omega
    · omega
    · exact h.c1 j u hu hn
  · rcases get hu with ⟨rfl, rfl⟩ | ⟨rfl, rfl⟩ | ⟨rfl, rfl⟩ | ⟨_, _, hu⟩
    · omega
    · omega
    · exact ⟨by omega, ⟨i, A, gi, by omega, by omega⟩, k, B, gk, by omega, by omega⟩
    · obtain ⟨e1, ⟨j1, a1, x1, x2, x3⟩, k1, b1, y1, y2, y3⟩ := h.c2 j u hu hn
      exact ⟨e1, ⟨j1, a1, keep x1 (.inl x3), x2, x3⟩, k1, b1, keep y1 (.inl y3), y2, y3⟩
  · rcases get hu with ⟨rfl, rfl⟩ | ⟨rfl, rfl⟩ | ⟨rfl, rfl⟩ | ⟨_, _, hu⟩
    · omega
    · omega
    · omega
    · exact h.c5 j u hu
  · rcases get hu with ⟨rfl, rfl⟩ | ⟨rfl, rfl⟩ | ⟨rfl, rfl⟩ | ⟨_, _, hu⟩
    · exact ⟨k, B, C.length, S, gk, by omega, by omega, by omega, by omega, by omega, gs, by omega, by omega, by omega, .inl ⟨by omega, by omega⟩⟩
    · exact ⟨i, A, C.length, S, gi, by omega, by omega, by omega, by omega, by omega, gs, by omega, by omega, by omega, .inr ⟨by omega, by omega⟩⟩
    · omega
    · obtain ⟨j1, w, k1, s, w1, w2, w3, w4, w5, w6, s1, s2, s3, s4⟩ := h.c7 j u hu hn
      exact ⟨j1, w, k1, s, keep w1 (.inl w3), w2, w3, w4, w5, w6, keep s1 (.inr s3), s2, s3, s4⟩
  · have new : ∀ {j : Nat} {u : CoreD}, C[j]? = some u → u.id ≠ S.id := fun {j u} hu e => by
      by_cases h5 : u.phase = 5
      · obtain ⟨e1, ⟨j1, a1, x1, x2, x3⟩, _⟩ := h.c2 j u hu h5
        have hi := h.high hu h5
        have : a1.id = a.id := by omega
        have := h.c4 _ _ _ _ x1 ha this
        subst this
        rw [ha] at x1; injection x1 with x1; subst x1
        omega
      · have := h.low hu h5
        omega
    intro j1 j2 u v hu hv he
    rcases get hu with ⟨rfl, rfl⟩ | ⟨rfl, rfl⟩ | ⟨rfl, rfl⟩ | ⟨n1, n2, hu2⟩ <;> rcases get hv with ⟨rfl, rfl⟩ | ⟨rfl, rfl⟩ | ⟨rfl, rfl⟩ | ⟨m1, m2, hv2⟩
    · rfl
    · exact h.c4 _ _ _ _ ha hb (by omega)
    · exact absurd (by omega) (new ha)
    · exact h.c4 _ _ _ _ ha hv2 (by omega)
    · exact h.c4 _ _ _ _ hb ha (by omega)
    · rfl
    · exact absurd (by omega) (new hb)
    · exact h.c4 _ _ _ _ hb hv2 (by omega)
    · exact absurd (by omega) (new ha)
    · exact absurd (by omega) (new hb)
    · rfl
    · exact absurd (by omega) (new hv2)
    · exact h.c4 _ _ _ _ hu2 ha (by omega)
    · exact h.c4 _ _ _ _ hu2 hb (by omega)
    · exact absurd (by omega) (new hu2)
    · exact h.c4 _ _ _ _ hu2 hv2 he
end Go.Proofs
