/- States told under other names; a nil slice told as a row of the call's own that is still empty. No condition. -/
import Derived.Test.YtajlkpogccbboaaHgF
set_option linter.unusedVariables false
set_option linter.unusedSimpArgs false
namespace Go.Hg
open Go.RowKit

/-- A name's other name; 'some none': no block yet. -/
def alias : List (Nat × Option Nat) → Nat → Option Nat
  | [], t => some t
  | (a, b) :: r, t => bif Nat.beq t a then b else alias r t

mutual
def renV (ρ : List (Nat × Option Nat)) : V → V
  | .os t off sz n => match alias ρ t with | some t' => .os t' off sz n | none => .z0
  | .rf t off => match alias ρ t with | some t' => .rf t' off | none => .undef
  | .bsz t n => match alias ρ t with | some t' => .bsz t' n | none => .undef
  | .fn f caps => .fn f (renVL ρ caps)
  | .agg cs => .agg (renVL ρ cs)
  | .tup cs => .tup (renVL ρ cs)
  | v => v
def renVL (ρ : List (Nat × Option Nat)) : List V → List V
  | [] => []
  | v :: vs => renV ρ v :: renVL ρ vs
end
mutual
/-- What has no block yet is empty. -/
def okRen (ρ : List (Nat × Option Nat)) : V → Bool
  | .os t _ _ n => match alias ρ t with | some _ => true | none => Nat.beq n 0
  | .rf t _ => match alias ρ t with | some _ => true | none => false
  | .bsz t _ => match alias ρ t with | some _ => true | none => false
  | .fn _ caps => okRenL ρ caps
  | .agg cs => okRenL ρ cs
  | .tup cs => okRenL ρ cs
  | _ => true
def okRenL (ρ : List (Nat × Option Nat)) : List V → Bool
  | [] => true
  | v :: vs => okRen ρ v && okRenL ρ vs
end
def renG (ρ : List (Nat × Option Nat)) (G : Nat → Option Nat) : Nat → Option Nat := fun t => (alias ρ t).bind G

mutual
theorem Rep.ren {w : World} {ok : Nat → Prop} {G : Nat → Option Nat} {ρ : List (Nat × Option Nat)} : ∀ (v : V) (u : Value), okRen ρ v = true → Rep w ok G (renV ρ v) true u → Rep w ok (renG ρ G) v true u
  | .bool _, _, _, h => by simpa [Rep, renV] using h
  | .int _ _, _, _, h => by simpa [Rep, renV] using h
  | .str _, _, _, h => by simpa [Rep, renV] using h
  | .z0, _, _, h => by simpa [Rep, renV] using h
  | .raw _, _, _, h => by simpa [Rep, renV] using h
  | .undef, _, _, h => by simp [Rep]
  | .sl n cs, u, _, h => Rep.tf_any (tk := true) (.sl n cs) u rfl (by simpa only [renV] using h)
  | .fp cs, u, _, h => Rep.tf_any (tk := true) (.fp cs) u rfl (by simpa only [renV] using h)
  | .os t off sz n, u, hk, h => by
    simp only [renV] at h
    simp only [okRen] at hk
    cases ha : alias ρ t with
    | some t' =>
      rw [ha] at h
      simp only [Rep] at h ⊢
      have hg : renG ρ G t = G t' := by simp [renG, ha]
      rw [hg]
      exact h
    | none =>
      rw [ha] at h hk
      simp only [Rep] at h
      have hg : renG ρ G t = none := by simp [renG, ha]
      simp only [Rep]
      have hn : n = 0 := Nat.eq_of_beq_eq_true hk
      obtain ⟨A, rfl⟩ := h
      exact ⟨trivial, .inr ⟨hg, hn, A, rfl⟩⟩
  | .rf t off, u, hk, h => by
    simp only [renV] at h
    simp only [okRen] at hk
    cases ha : alias ρ t with
    | some t' =>
      rw [ha] at h
      simp only [Rep] at h ⊢
      have hg : renG ρ G t = G t' := by simp [renG, ha]
      rw [hg]
      exact h
    | none => rw [ha] at hk; cases hk
  | .bsz t n, u, hk, h => by
    simp only [renV] at h
    simp only [okRen] at hk
    cases ha : alias ρ t with
    | some t' =>
      rw [ha] at h
      simp only [Rep] at h ⊢
      have hg : renG ρ G t = G t' := by simp [renG, ha]
      rw [hg]
      exact h
    | none => rw [ha] at hk; cases hk
  | .fn f caps, u, hk, h => by
    simp only [renV, Rep] at h ⊢
    obtain ⟨us, h1, h2⟩ := h
    exact ⟨us, h1, RepT.ren caps us (by simpa [okRen] using hk) h2⟩
  | .agg cs, u, hk, h => by
    simp only [renV, Rep] at h ⊢
    obtain ⟨us, h1, h2⟩ := h
    exact ⟨us, h1, RepL.ren cs us (by simpa [okRen] using hk) h2⟩
  | .tup cs, u, hk, h => by
    simp only [renV, Rep] at h ⊢
    obtain ⟨us, h1, h2⟩ := h
    exact ⟨us, h1, RepT.ren cs us (by simpa [okRen] using hk) h2⟩
theorem RepL.ren {w : World} {ok : Nat → Prop} {G : Nat → Option Nat} {ρ : List (Nat × Option Nat)} : ∀ (vs : List V) (us : List Value), okRenL ρ vs = true → RepL w ok G (renVL ρ vs) true us → RepL w ok (renG ρ G) vs true us
  | [], _, _, h => by simpa [RepL, renVL] using h
  | v :: vs, us, hk, h => by
    simp only [okRenL, Bool.and_eq_true] at hk
    simp only [renVL, RepL] at h ⊢
    obtain ⟨u, us', h1, h2, h3, h4⟩ := h
    exact ⟨u, us', h1, h2, Rep.ren v u hk.1 h3, RepL.ren vs us' hk.2 h4⟩
theorem RepT.ren {w : World} {ok : Nat → Prop} {G : Nat → Option Nat} {ρ : List (Nat × Option Nat)} : ∀ (vs : List V) (us : List Value), okRenL ρ vs = true → RepT w ok G (renVL ρ vs) true us → RepT w ok (renG ρ G) vs true us
  | [], _, _, h => by simpa [RepT, renVL] using h
  | v :: vs, us, hk, h => by
    simp only [okRenL, Bool.and_eq_true] at hk
    simp only [renVL, RepT] at h ⊢
    obtain ⟨u, us', h1, h3, h4⟩ := h
    exact ⟨u, us', h1, Rep.ren v u hk.1 h3, RepT.ren vs us' hk.2 h4⟩
end

/-- Each slot of T holds what S holds under the other names. -/
def leEnvR (ρ : List (Nat × Option Nat)) (env : Env) : Env → Prop
  | [] => True
  | (x, v) :: r => get env x = renV ρ v ∧ leEnvR ρ env r
/-- Each block of T is S's under the other name, or an empty one that isn't there yet. -/
def leHeapR (ρ : List (Nat × Option Nat)) (H : Heap) : Heap → Prop
  | [] => True
  | (t, b) :: r => (match b, alias ρ t with
      | none, _ => True
      | some (f, cs), some t' => ∃ cs', hget H t' = some (f, cs') ∧ cs' = (bif f then cs else renVL ρ cs)
      | some (f, cs), none => f = true ∧ cs = []) ∧ leHeapR ρ H r
def okHeapR (ρ : List (Nat × Option Nat)) : Heap → Bool
  | [] => true
  | (_, some (false, cs)) :: r => okRenL ρ cs && okHeapR ρ r
  | _ :: r => okHeapR ρ r
/-- The names of T's blocks lead to S's blocks one to one. -/
def injR (ρ : List (Nat × Option Nat)) : Heap → List Nat → Bool
  | [], _ => true
  | (t, some _) :: r, l => match alias ρ t with
      | some t' => !(l.contains t') && injR ρ r (t' :: l)
      | none => injR ρ r l
  | (_, none) :: r, l => injR ρ r l

theorem leEnvR_get {ρ : List (Nat × Option Nat)} {env : Env} : ∀ {env' : Env}, leEnvR ρ env env' → ∀ x, get env' x = .undef ∨ (get env x = renV ρ (get env' x) ∧ (x, get env' x) ∈ env')
  | [], _, x => .inl rfl
  | (y, v) :: r, h, x => by
    simp only [get]
    cases hx : Nat.beq x y with
    | true =>
      have : x = y := Nat.eq_of_beq_eq_true hx
      subst this
      exact .inr ⟨h.1, by simp⟩
    | false =>
      rcases leEnvR_get h.2 x with h1 | ⟨h1, h2⟩
      · exact .inl h1
      · exact .inr ⟨h1, List.mem_cons_of_mem _ h2⟩
theorem leHeapR_get {ρ : List (Nat × Option Nat)} {H : Heap} : ∀ {H' : Heap}, leHeapR ρ H H' → okHeapR ρ H' = true → ∀ t f cs, hget H' t = some (f, cs) →
    (f = false → okRenL ρ cs = true) ∧ match alias ρ t with
      | some t' => ∃ cs', hget H t' = some (f, cs') ∧ cs' = (bif f then cs else renVL ρ cs)
      | none => f = true ∧ cs = []
  | [], _, _, t, f, cs, hh => by simp [hget] at hh
  | (y, b) :: r, h, hk, t, f, cs, hh => by
    simp only [hget] at hh
    have hk' : okHeapR ρ r = true := by
      match b with
      | none => simpa [okHeapR] using hk
      | some (true, cs) => simpa [okHeapR] using hk
      | some (false, cs) => simp only [okHeapR, Bool.and_eq_true] at hk; exact hk.2
    cases hx : Nat.beq t y with
    | true =>
      have : t = y := Nat.eq_of_beq_eq_true hx
      subst this
      rw [hx] at hh
      simp only [cond_true] at hh
      subst hh
      refine ⟨fun hf => ?_, ?_⟩
      · subst hf
        simp only [okHeapR, Bool.and_eq_true] at hk
        exact hk.1
      · have h1 := h.1
        cases ha : alias ρ t with
        | some t' => rw [ha] at h1; exact h1
        | none => rw [ha] at h1; exact h1
    | false =>
      rw [hx] at hh
      exact leHeapR_get h.2 hk' t f cs hh
theorem injR_get {ρ : List (Nat × Option Nat)} : ∀ {H' : Heap} {l : List Nat}, injR ρ H' l = true → ∀ t t' a, hget H' t ≠ none → hget H' t' ≠ none → alias ρ t = some a → alias ρ t' = some a → t = t' ∧ ¬ a ∈ l
  | [], l, _, t, t', a, h1, _, _, _ => by simp [hget] at h1
  | (y, none) :: r, l, h, t, t', a, h1, h2, h3, h4 => by
    have key : ∀ x, hget ((y, none) :: r) x ≠ none → hget r x ≠ none := fun x hx => by
      simp only [hget] at hx
      cases hb : Nat.beq x y with
      | true => rw [hb] at hx; simp at hx
      | false => rw [hb] at hx; simpa using hx
    exact injR_get (by simpa [injR] using h) t t' a (key t h1) (key t' h2) h3 h4
  | (y, some b) :: r, l, h, t, t', a, h1, h2, h3, h4 => by
    have key : ∀ x, x ≠ y → hget ((y, some b) :: r) x ≠ none → hget r x ≠ none := fun x hne hx => by
      simp only [hget] at hx
      cases hb : Nat.beq x y with
      | true => exact absurd (Nat.eq_of_beq_eq_true hb) hne
      | false => rw [hb] at hx; simpa using hx
    simp only [injR] at h
    cases ha : alias ρ y with
    | none =>
      rw [ha] at h
      have ht : t ≠ y := fun e => by subst e; rw [ha] at h3; cases h3
      have ht' : t' ≠ y := fun e => by subst e; rw [ha] at h4; cases h4
      exact injR_get h t t' a (key t ht h1) (key t' ht' h2) h3 h4
    | some c =>
      rw [ha] at h
      simp only [Bool.and_eq_true, Bool.not_eq_true'] at h
      have hcl : ¬ c ∈ l := by simpa using h.1
      by_cases e1 : t = y
      · by_cases e2 : t' = y
        · subst e1
          rw [ha] at h3
          injection h3 with h3
          subst h3
          exact ⟨e2.symm, hcl⟩
        · subst e1
          rw [ha] at h3
          injection h3 with h3
          subst h3
          have := (injR_get h.2 t' t' c (key t' e2 h2) (key t' e2 h2) h4 h4).2
          exact absurd List.mem_cons_self this
      · by_cases e2 : t' = y
        · subst e2
          rw [ha] at h4
          injection h4 with h4
          subst h4
          have := (injR_get h.2 t t c (key t e1 h1) (key t e1 h1) h3 h3).2
          exact absurd List.mem_cons_self this
        · have := injR_get h.2 t t' a (key t e1 h1) (key t' e2 h2) h3 h4
          exact ⟨this.1, fun hm => this.2 (List.mem_cons_of_mem _ hm)⟩

theorem le_ren (ρ : List (Nat × Option Nat)) {S T : St} (he : leEnvR ρ S.env T.env) (hk : T.env.all (fun p => okRen ρ p.2) = true) (hh : leHeapR ρ S.H T.H) (hkh : okHeapR ρ T.H = true) (hi : injR ρ T.H [] = true) (hs : S.sz = T.sz) : Le S T := by
  rintro w0 ok0 a w ⟨ok, G, hsim, hr, h1, h2⟩
  refine ⟨ok, renG ρ G, ⟨hsim.below, hsim.okb, hsim.okn, hsim.oko, ?_, ?_⟩, ?_, by rw [← hs]; exact h1, h2⟩
  · intro t f cs ht
    obtain ⟨hf, hm⟩ := leHeapR_get hh hkh t f cs ht
    cases ha : alias ρ t with
    | none =>
      rw [ha] at hm
      exact .inl ⟨by simp [renG, ha], hm.2⟩
    | some t' =>
      rw [ha] at hm
      obtain ⟨cs', h3, h4⟩ := hm
      have hg : renG ρ G t = G t' := by simp [renG, ha]
      rcases hsim.tok t' f cs' h3 with h5 | ⟨b, hb, h6, h7, us, rest, ty, fr, h8, h9, h10⟩
      · refine .inl ⟨hg.trans h5.1, ?_⟩
        rw [h5.2] at h4
        cases f with
        | true => simpa using h4.symm
        | false =>
          cases cs with
          | nil => rfl
          | cons v vs => simp [renVL] at h4
      · refine .inr ⟨b, hg.trans hb, h6, h7, us, rest, ty, fr, h8, ?_, h10⟩
        cases f with
        | true =>
          simp only [cond_true] at h4
          subst h4
          exact RepL.mv (w := w) (ok := ok) (G := G) ⟨fun _ _ => rfl, fun _ h => h, fun _ cs _ fr h => ⟨cs, fr, h, rfl⟩⟩ _ _ us (fun hb => by cases hb) h9
        | false =>
          simp only [cond_false] at h4
          subst h4
          exact RepL.ren cs us (hf rfl) h9
  · intro t t' b h3 h4 h5 h6
    have key : ∀ x, hget T.H x ≠ none → renG ρ G x = some b → ∃ x', alias ρ x = some x' ∧ G x' = some b ∧ hget S.H x' ≠ none := fun x hx hg => by
      cases hh' : hget T.H x with
      | none => exact absurd hh' hx
      | some bl =>
        obtain ⟨f, cs⟩ := bl
        obtain ⟨_, hm⟩ := leHeapR_get hh hkh x f cs hh'
        cases ha : alias ρ x with
        | none => simp [renG, ha] at hg
        | some x' =>
          rw [ha] at hm
          obtain ⟨cs', h7, _⟩ := hm
          exact ⟨x', rfl, by simpa [renG, ha] using hg, by rw [h7]; simp⟩
    obtain ⟨x, hx1, hx2, hx3⟩ := key t h3 h5
    obtain ⟨y, hy1, hy2, hy3⟩ := key t' h4 h6
    have : x = y := hsim.inj x y b hx3 hy3 hx2 hy2
    subst this
    exact (injR_get hi t t' x h3 h4 hx1 hy1).1
  · intro x
    rcases leEnvR_get he x with h3 | ⟨h3, h4⟩
    · rw [h3]; simp [Rep]
    · have h5 := hr x
      rw [h3] at h5
      exact Rep.ren _ _ (List.all_eq_true.1 hk _ h4) h5
end Go.Hg
