/- append, copy. No condition. -/
import Derived.Test.YtajlkpogccbboaaHgI
import Derived.Deep.AppendSrc
import Derived.Deep.Upon
set_option linter.unusedVariables false
set_option linter.unusedSimpArgs false
namespace Go.Hg
open Go.RowKit

/-! ### names -/
/-- A new block, named t: what is told of its cells may name it by any name. -/
theorem Sim.alloc2 {w0 : World} {ok0 : Fr} {w : World} {ok : Nat → Prop} {G : Nat → Option Nat} {h : HF} {e : EF} (hs : Sim w0 ok0 w ok G h) {t : Nat} (hf : FreshF t e h)
    (us rest : List Value) (ty : TypeId) (fr : Nat × Nat) (f : Bool) (cs : List V) (hc : ∀ G' : Nat → Option Nat, (∀ x, x ≠ t → G' x = G x) → RepL w ok G' cs (!f) us) (h1 : ∀ u ∈ rest, u.oneCell' = true) (hfr : fr.2 ≤ fr.1 ∨ (us ++ rest).length ≤ fr.1) :
    let G' := fun x => if x = t then some w.heap.size else G x
    let w' := w.alloc (.cells (us ++ rest).toArray ty fr)
    Sim w0 ok0 w' ok G' (appF h [(t, some (f, cs))]) ∧ WS w ok w' ∧ (∀ (v : V) (u : Value), men t v = false → Rep w ok G v true u → Rep w' ok G' v true u) := by
  intro G' w'
  obtain ⟨hs1, hws, hmv⟩ := hs.alloc hf us rest ty fr true (List.replicate us.length .undef) (by
    have hl := hc G (fun _ _ => rfl)
    have h1 := hl.one
    clear hl hc hfr
    induction us with
    | nil => simp [RepL]
    | cons u us ih =>
      simp only [List.length_cons, List.replicate_succ, RepL]
      exact ⟨u, us, rfl, h1 u (by simp), by simp [Rep], ih fun x hx => h1 x (by simp [hx])⟩) (fun h => by cases h) h1 hfr
  refine ⟨⟨hs1.below, hs1.okb, hs1.okn, hs1.oko, ?_, ?_⟩, hws, hmv⟩
  · intro t' f' cs' ht'
    cases hx : Nat.beq t' t with
    | true =>
      have : t' = t := Nat.eq_of_beq_eq_true hx
      subst this
      simp only [appF, hx, cond_true, Option.some.injEq, Prod.mk.injEq] at ht'
      obtain ⟨rfl, rfl⟩ := ht'
      have hgt : G' t' = some w.heap.size := by simp [G']
      refine .inr ⟨_, hgt, .inr hs.below.size, fun hk => by have := hs.okb _ hk; omega, us, rest, ty, fr, heap_alloc_new w _, ?_, h1, hfr⟩
      exact RepL.mv (hws.mv fun _ h => h) cs _ us (fun _ _ _ => rfl) (hc G' fun x hx => by simp [G', hx])
    | false =>
      refine hs1.tok t' f' cs' ?_
      simpa only [appF, hx, cond_false] using ht'
  · intro a b c ha hb
    refine hs1.inj a b c ?_ ?_
    · simp only [appF] at ha ⊢
      cases hx : Nat.beq a t <;> simp_all
    · simp only [appF] at hb ⊢
      cases hx : Nat.beq b t <;> simp_all

/-- A row that isn't there yet. -/
theorem Sim.virt {w0 : World} {ok0 : Fr} {w : World} {ok : Nat → Prop} {G : Nat → Option Nat} {h : HF} {e : EF} (hs : Sim w0 ok0 w ok G h) {t : Nat} (hf : FreshF t e h) (f : Bool) :
    let G' := fun x => if x = t then none else G x
    Sim w0 ok0 w ok G' (appF h [(t, some (f, []))]) ∧ (∀ (v : V) (u : Value), men t v = false → Rep w ok G v true u → Rep w ok G' v true u) := by
  intro G'
  have hG : ∀ t', t' ≠ t → G' t' = G t' := fun t' ht => by simp [G', ht]
  have hmv : Mv w ok G w ok G' := ⟨fun _ _ => rfl, fun _ h => h, fun _ cs _ fr h => ⟨cs, fr, h, rfl⟩⟩
  refine ⟨⟨hs.below, hs.okb, hs.okn, hs.oko, ?_, ?_⟩, ?_⟩
  · intro t' f' cs' ht'
    simp only [appF] at ht'
    cases hx : Nat.beq t' t with
    | true =>
      have : t' = t := Nat.eq_of_beq_eq_true hx
      subst this
      rw [hx] at ht'
      simp only [cond_true, Option.some.injEq, Prod.mk.injEq] at ht'
      exact .inl ⟨by simp [G'], ht'.2.symm⟩
    | false =>
      have hne : t' ≠ t := fun e => by subst e; simp at hx
      rw [hx] at ht'
      simp only [cond_false] at ht'
      rcases hs.tok t' f' cs' ht' with h0 | ⟨b, hb, h2, h3, us', rest', ty', fr', h4, h5, h6, h7⟩
      · exact .inl ⟨(hG t' hne).trans h0.1, h0.2⟩
      refine .inr ⟨b, (hG t' hne).trans hb, h2, h3, us', rest', ty', fr', h4, RepL.mv hmv cs' _ us' (fun hb t2 ht2 => hG t2 ?_) h5, h6, h7⟩
      rintro rfl
      rw [hf.2 t' cs' (by rw [ht']; congr; simpa using hb) hne] at ht2
      cases ht2
  · intro t1 t2 b h1 h2 he1 he2
    simp only [G'] at he1 he2
    by_cases e1 : t1 = t
    · rw [if_pos e1] at he1; cases he1
    · by_cases e2 : t2 = t
      · rw [if_pos e2] at he2; cases he2
      · rw [if_neg e1] at he1
        rw [if_neg e2] at he2
        have key : ∀ x, x ≠ t → appF h [(t, some (f, []))] x ≠ none → h x ≠ none := fun x hx hn => by
          simp only [appF] at hn
          cases hb : Nat.beq x t with
          | true => exact absurd (Nat.eq_of_beq_eq_true hb) hx
          | false => rw [hb] at hn; simpa using hn
        exact hs.inj t1 t2 b (key t1 e1 h1) (key t2 e2 h2) he1 he2
  · intro v u hv hr
    refine Rep.mv hmv v true u (fun _ t2 ht2 => hG t2 ?_) hr
    rintro rfl
    rw [hv] at ht2
    cases ht2

/-- A block by another name. -/
theorem Sim.rename {w0 : World} {ok0 : Fr} {w : World} {ok : Nat → Prop} {G : Nat → Option Nat} {h : HF} {e : EF} (hs : Sim w0 ok0 w ok G h) {t t' : Nat} (hf : FreshF t' e h) {f : Bool} {cs : List V} (ht : h t = some (f, cs)) :
    let G' := fun x => if x = t' then G t else G x
    Sim w0 ok0 w ok G' (appF h [(t', some (f, cs)), (t, none)]) ∧ (∀ (v : V) (u : Value), men t' v = false → Rep w ok G v true u → Rep w ok G' v true u) := by
  intro G'
  have hG : ∀ x, x ≠ t' → G' x = G x := fun x hx => by simp [G', hx]
  have hmv : Mv w ok G w ok G' := ⟨fun _ _ => rfl, fun _ h => h, fun _ cs _ fr h => ⟨cs, fr, h, rfl⟩⟩
  have hcell : ∀ (x : Nat) (f1 : Bool) (cs1 : List V) (us : List Value), h x = some (f1, cs1) → x ≠ t' → RepL w ok G cs1 (!f1) us → RepL w ok G' cs1 (!f1) us := fun x f1 cs1 us hx hne hr => by
    refine RepL.mv hmv cs1 _ us (fun hb t2 ht2 => hG t2 ?_) hr
    rintro rfl
    rw [hf.2 x cs1 (by rw [hx]; congr; simpa using hb) hne] at ht2
    cases ht2
  have hself : t = t' → G' = G := fun e => funext fun x => by
    simp only [G']
    split
    · rename_i hx; rw [hx, e]
    · rfl
  have hown : RepL w ok G cs (!f) = RepL w ok G cs (!f) := rfl
  refine ⟨⟨hs.below, hs.okb, hs.okn, hs.oko, ?_, ?_⟩, ?_⟩
  · intro x f1 cs1 hx
    simp only [appF] at hx
    cases hb : Nat.beq x t' with
    | true =>
      have : x = t' := Nat.eq_of_beq_eq_true hb
      subst this
      rw [hb] at hx
      simp only [cond_true, Option.some.injEq, Prod.mk.injEq] at hx
      obtain ⟨rfl, rfl⟩ := hx
      have hg : G' x = G t := by simp [G']
      rcases hs.tok t f cs ht with h0 | ⟨b, hb', h2, h3, us', rest', ty', fr', h4, h5, h6, h7⟩
      · exact .inl ⟨hg.trans h0.1, h0.2⟩
      · refine .inr ⟨b, hg.trans hb', h2, h3, us', rest', ty', fr', h4, ?_, h6, h7⟩
        by_cases e1 : t = x
        · rw [hself e1]; exact h5
        · exact hcell t f cs us' ht e1 h5
    | false =>
      have hne : x ≠ t' := fun e => by subst e; simp at hb
      rw [hb] at hx
      simp only [cond_false] at hx
      cases hb2 : Nat.beq x t with
      | true => rw [hb2] at hx; simp at hx
      | false =>
        rw [hb2] at hx
        simp only [cond_false] at hx
        rcases hs.tok x f1 cs1 hx with h0 | ⟨b, hb', h2, h3, us', rest', ty', fr', h4, h5, h6, h7⟩
        · exact .inl ⟨(hG x hne).trans h0.1, h0.2⟩
        · exact .inr ⟨b, (hG x hne).trans hb', h2, h3, us', rest', ty', fr', h4, hcell x f1 cs1 us' hx hne h5, h6, h7⟩
  · have key : ∀ x, appF h [(t', some (f, cs)), (t, none)] x ≠ none → (x = t' ∨ (x ≠ t' ∧ x ≠ t ∧ h x ≠ none)) := fun x hn => by
      simp only [appF] at hn
      cases hb : Nat.beq x t' with
      | true => exact .inl (Nat.eq_of_beq_eq_true hb)
      | false =>
        rw [hb] at hn
        have hne : x ≠ t' := fun e => by subst e; simp at hb
        cases hb2 : Nat.beq x t with
        | true => rw [hb2] at hn; simp at hn
        | false =>
          rw [hb2] at hn
          exact .inr ⟨hne, fun e => by subst e; simp at hb2, by simpa using hn⟩
    have htn : h t ≠ none := by rw [ht]; simp
    intro t1 t2 b h1 h2 he1 he2
    simp only [G'] at he1 he2
    rcases key t1 h1 with e1 | ⟨e1, e1', e1''⟩ <;> rcases key t2 h2 with e2 | ⟨e2, e2', e2''⟩
    · rw [e1, e2]
    · rw [if_pos e1] at he1
      rw [if_neg e2] at he2
      exact absurd (hs.inj t t2 b htn e2'' he1 he2).symm e2'
    · rw [if_neg e1] at he1
      rw [if_pos e2] at he2
      exact absurd (hs.inj t t1 b htn e1'' he2 he1).symm e1'
    · rw [if_neg e1] at he1
      rw [if_neg e2] at he2
      exact hs.inj t1 t2 b e1'' e2'' he1 he2
  · intro v u hv hr
    refine Rep.mv hmv v true u (fun _ t2 ht2 => hG t2 ?_) hr
    rintro rfl
    rw [hv] at ht2
    cases ht2

/-! ### what is appended -/
def bytesV (s : ByteArray) : List V := s.data.toList.map fun b => .int .u8 b.toNat
theorem bytesV_length (s : ByteArray) : (bytesV s).length = s.size := by
  unfold bytesV
  rw [List.length_map, Array.length_toList]
  rfl
theorem repL_bytes {w : World} {ok : Nat → Prop} {G : Nat → Option Nat} {tk : Bool} (s : ByteArray) : RepL w ok G (bytesV s) tk (byteCells s) := by
  unfold bytesV byteCells
  generalize s.data.toList = l
  induction l with
  | nil => simp [RepL]
  | cons b l ih =>
    simp only [List.map_cons, RepL]
    exact ⟨_, _, rfl, rfl, by simp [Rep], ih⟩

/-- What a value yields as the source of an append or a copy. -/
inductive SrcV (P : Program) (H : Heap) (R : List Nat) (sz : Nat) (tx : TypeId) : V → Nat → Bool → List V → Prop
  | sl {e' m : Nat} {ys : List V} : P.underlying tx = some (.slice e') → ys.length = m * sz → SrcV P H R sz tx (.sl m ys) m true ys
  | z0 {e' : Nat} : P.underlying tx = some (.slice e') → SrcV P H R sz tx .z0 0 true []
  | os {e' s off m : Nat} {f : Bool} {blk ys : List V} : P.underlying tx = some (.slice e') → s ∈ R → hget H s = some (f, blk) → off + m * sz ≤ blk.length → (blk.drop off).take (m * sz) = ys → SrcV P H R sz tx (.os s off sz m) m f ys
  | str {s : ByteArray} : P.underlying tx = some .string → sz = 1 → SrcV P H R sz tx (.str s) s.size true (bytesV s)

theorem src_at {P : Program} {w : World} {ok : Nat → Prop} {sz e' tx : Nat} {A : Option Addr} {m c : Nat} {us : List Value} (hk : P.underlying tx = some (.slice e')) (h0 : 0 < sz) (ha : At w ok A us) (hl : us.length = m * sz) (h1 : ∀ u ∈ us, u.oneCell' = true) :
    Src P sz tx (.slice A m c) m us w := by
  rcases ha with rfl | ⟨ad, rfl, _, h⟩
  · have hm : m = 0 := by
      rcases Nat.eq_zero_or_pos m with h | h
      · exact h
      · have := Nat.mul_pos h h0
        simp at hl
        omega
    subst hm
    cases A with
    | none => exact Src.ofNil w hk c
    | some ad => exact Src.ofSlice w hk ad 0 c [] hl (by simp) (by simp)
  · exact Src.ofSlice w hk ad m c us hl h h1

theorem SrcV.sound {P : Program} {H : Heap} {R : List Nat} {sz tx : Nat} {v : V} {m : Nat} {f : Bool} {ys : List V} (hv : SrcV P H R sz tx v m f ys) (h0 : 0 < sz) {w : World} {ok : Nat → Prop} {G : Nat → Option Nat} (hs : Sees w ok G H R) {u : Value} (hr : Rep w ok G v true u) :
    ∃ news, Src P sz tx u m news w ∧ RepL w ok G ys (!f) news ∧ ys.length = m * sz := by
  cases hv with
  | sl hk hl =>
    simp only [Rep] at hr
    obtain ⟨A, c, us, rfl, h2, h3, h4⟩ := hr
    exact ⟨us, src_at hk h0 h3 (by rw [h4.length, hl]) h4.one, h4, hl⟩
  | z0 hk =>
    simp only [Rep] at hr
    obtain ⟨A, rfl⟩ := hr
    exact ⟨[], src_at (ok := ok) hk h0 (.inl rfl) (by simp) (by simp), by simp [RepL], by simp⟩
  | @os e' s off _ f blk _ hk hR hH hl hy =>
    subst hy
    simp only [Rep] at hr
    have hlen : ((blk.drop off).take (m * sz)).length = m * sz := by rw [List.length_take, List.length_drop]; omega
    obtain ⟨_, ⟨b, c, o', cs, ty, fr, hb, rfl, h3, h4, h5, h6, h7⟩ | ⟨hg, rfl, A, rfl⟩⟩ := hr
    · rcases hs.tok s hR f blk hH with h8 | ⟨b', hb', us, rest, ty', fr', h9, h10, h11, h12⟩
      · rw [h8.1] at hb; cases hb
      rw [hb] at hb'; injection hb' with hb'; subst hb'
      have h13 := (h10.drop off).take (m * sz)
      refine ⟨_, ?_, h13, hlen⟩
      have hul : ((us.drop off).take (m * sz)).length = m * sz := by rw [h13.length, hlen]
      rcases h7 with h7 | h7
      · have hm : m = 0 := by omega
        subst hm
        simp only [Nat.zero_mul, List.take_zero] at hul ⊢
        exact src_at (ok := fun _ => True) hk h0 (.inl rfl) (by simp) (by simp)
      · subst h7
        exact src_at (ok := fun _ => True) hk h0 ((at_block h9 trivial).take _) hul h13.one
    · simp only [Nat.zero_mul, List.take_zero]
      exact ⟨[], src_at (ok := ok) hk h0 (.inl rfl) (by simp) (by simp), by simp [RepL], by simp⟩
  | str hk h1 =>
    subst h1
    simp only [Rep] at hr
    subst hr
    exact ⟨byteCells _, Src.ofString w hk _, repL_bytes _, by rw [bytesV_length, Nat.mul_one]⟩
end Go.Hg
