/- Regions whose order is drawn: the check suffices. The program follows 'mixedOrders'. -/
import Derived.Test.YtajlkpogccbboaaHgL
set_option linter.unusedVariables false
set_option linter.unusedSimpArgs false
namespace Go.Hg
open Go.RowKit

theorem memN_iff {x : Nat} {l : List Nat} : memN x l = true ↔ x ∈ l := by
  unfold memN
  rw [List.any_eq_true]
  constructor
  · rintro ⟨y, hy, he⟩
    rw [Nat.eq_of_beq_eq_true he]; exact hy
  · intro h; exact ⟨x, h, by simp⟩

theorem ancsGo_get : ∀ (l : List Oper) (acc : List Nat) (k : Nat), k < acc.length → (ancsGo l acc)[k]? = acc[k]?
  | [], acc, k, _ => rfl
  | o :: r, acc, k, h => by
    simp only [ancsGo]
    rw [ancsGo_get r _ k (by simp; omega), List.getElem?_append_left h]
theorem ancsGo_length : ∀ (l : List Oper) (acc : List Nat), (ancsGo l acc).length = acc.length + l.length
  | [], acc => rfl
  | o :: r, acc => by simp only [ancsGo]; rw [ancsGo_length r]; simp; omega

/-- Closed downwards: what is listed has what stands before it listed. -/
def DC (ops : Array Oper) (L : Nat → Bool) : Prop := ∀ k o, ops[k]? = some o → L k = true → ∀ j ∈ edges o, L j = true

theorem mask_sound {L : Nat → Bool} {acc : List Nat} (hacc : ∀ k m, acc[k]? = some m → L k = true → ∀ j, Nat.testBit m j = true → L j = true) :
    ∀ (es : List Nat) (m0 : Nat), (∀ j ∈ es, L j = true) → (∀ j, Nat.testBit m0 j = true → L j = true) → ∀ j, Nat.testBit (es.foldl (fun m j => m ||| (1 <<< j) ||| acc.getD j 0) m0) j = true → L j = true
  | [], m0, _, h, j, hj => h j hj
  | e :: es, m0, he, h, j, hj => by
    refine mask_sound hacc es _ (fun x hx => he x (by simp [hx])) (fun x hx => ?_) j hj
    simp only [Nat.testBit_or, Bool.or_eq_true] at hx
    rcases hx with (hx | hx) | hx
    · exact h x hx
    · rw [Nat.one_shiftLeft, Nat.testBit_two_pow] at hx
      have : e = x := by simpa using hx
      subst this
      exact he e (by simp)
    · cases hg : acc[e]? with
      | none =>
        have : acc.getD e 0 = 0 := by rw [List.getD_eq_getElem?_getD, hg]; rfl
        rw [this] at hx
        simp at hx
      | some m =>
        have : acc.getD e 0 = m := by rw [List.getD_eq_getElem?_getD, hg]; rfl
        rw [this] at hx
        exact hacc e m hg (he e (by simp)) x hx

theorem anc_sound {ops : Array Oper} {L : Nat → Bool} (hd : DC ops L) : ∀ (l : List Oper) (acc : List Nat), (∀ i o, l[i]? = some o → ops[acc.length + i]? = some o) → (∀ k m, acc[k]? = some m → L k = true → ∀ j, Nat.testBit m j = true → L j = true) →
    ∀ k m, (ancsGo l acc)[k]? = some m → L k = true → ∀ j, Nat.testBit m j = true → L j = true
  | [], acc, _, hacc => hacc
  | o :: r, acc, hops, hacc => by
    simp only [ancsGo]
    refine anc_sound hd r _ (fun i o' hi => ?_) ?_
    · have := hops (i + 1) o' (by simpa using hi)
      rw [List.length_append, List.length_singleton, Nat.add_assoc, Nat.add_comm 1 i]
      exact this
    · intro k m hk hL j hj
      rcases Nat.lt_or_ge k acc.length with h | h
      · rw [List.getElem?_append_left h] at hk
        exact hacc k m hk hL j hj
      · have hk2 : k = acc.length := by
          have := (List.getElem?_eq_some_iff.1 hk).1
          simp at this
          omega
        subst hk2
        simp at hk
        subst hk
        refine mask_sound hacc _ 0 (fun e he => hd _ o (hops 0 o rfl) hL e he) (fun x hx => by simp at hx) j hj

/-- What stands before a ready one is listed. -/
theorem anc_ready {ops : Array Oper} {L : Nat → Bool} (hd : DC ops L) {i : Nat} {o : Oper} (ho : ops[i]? = some o) (hr : ∀ j ∈ edges o, L j = true) {m : Nat} (hm : (ancsGo ops.toList [])[i]? = some m) {j : Nat} (hj : Nat.testBit m j = true) : L j = true ∨ j = i := by
  have hd' : DC ops (fun k => L k || Nat.beq k i) := by
    intro k o' ho' hk e he
    simp only [Bool.or_eq_true] at hk ⊢
    rcases hk with hk | hk
    · exact .inl (hd k o' ho' hk e he)
    · have := Nat.eq_of_beq_eq_true hk
      subst this
      rw [ho] at ho'
      injection ho' with ho'
      subst ho'
      exact .inl (hr e he)
  have := anc_sound hd' ops.toList [] (fun i o h => by simpa using h) (fun k m h => by simp at h) i m hm (by simp) j hj
  simp only [Bool.or_eq_true] at this
  exact this.imp id Nat.eq_of_beq_eq_true

theorem lkE_ne {r : Rec} {x : Nat} (h : lkE r x ≠ none) : r.dst = some x := by
  unfold lkE at h
  cases hd : r.dst with
  | none => rw [hd] at h; exact absurd rfl h
  | some d =>
    rw [hd] at h
    simp only at h
    cases hx : Nat.beq x d with
    | true => rw [Nat.eq_of_beq_eq_true hx]
    | false => rw [hx] at h; exact absurd rfl h
theorem hlk_ne : ∀ {W : Heap} {t : Nat}, hlk W t ≠ none → t ∈ keys W
  | [], t, h => absurd rfl h
  | (y, v) :: W, t, h => by
    simp only [hlk] at h
    cases hx : Nat.beq t y with
    | true => rw [Nat.eq_of_beq_eq_true hx]; simp [keys]
    | false =>
      rw [hx] at h
      have := hlk_ne (by simpa using h)
      exact List.mem_cons_of_mem _ this

theorem clash_of {r s : Rec} (h : clash r s = false) : (∀ x, lkE r x ≠ none → lkE s x = none) ∧ (∀ x ∈ s.rd, lkE r x = none) ∧ (∀ x ∈ r.rd, lkE s x = none) ∧ (∀ t, lkH r t ≠ none → lkH s t = none) ∧ (∀ t ∈ s.R, lkH r t = none) ∧ (∀ t ∈ r.R, lkH s t = none) ∧ (∀ t ∈ r.nw, freshRec t s = true) := by
  simp only [clash, Bool.or_eq_false_iff] at h
  obtain ⟨⟨⟨⟨⟨h1, h2⟩, h3⟩, h4⟩, h5⟩, h6⟩ := h
  rw [List.any_eq_false] at h4 h5 h6
  refine ⟨fun x hx => ?_, fun x hx => ?_, fun x hx => ?_, fun t ht => ?_, fun t ht => ?_, fun t ht => ?_, fun t ht => ?_⟩
  · refine Decidable.byContradiction fun hn => ?_
    have e1 := lkE_ne hx
    have e2 := lkE_ne hn
    rw [e1, e2] at h1
    simp [dstEq] at h1
  · refine Decidable.byContradiction fun hn => ?_
    have e1 := lkE_ne hn
    rw [e1] at h2
    simp only [dstIn] at h2
    rw [memN_iff.2 hx] at h2
    cases h2
  · refine Decidable.byContradiction fun hn => ?_
    have e1 := lkE_ne hn
    rw [e1] at h3
    simp only [dstIn] at h3
    rw [memN_iff.2 hx] at h3
    cases h3
  · refine Decidable.byContradiction fun hn => ?_
    have := h4 t (hlk_ne ht)
    simp only [Bool.or_eq_true, not_or] at this
    exact this.1 (memN_iff.2 (hlk_ne hn))
  · refine Decidable.byContradiction fun hn => ?_
    have := h4 t (hlk_ne hn)
    simp only [Bool.or_eq_true, not_or] at this
    exact this.2 (memN_iff.2 ht)
  · refine Decidable.byContradiction fun hn => ?_
    exact absurd (memN_iff.2 ht) (h5 t (hlk_ne hn))
  · have := h6 t ht
    simpa using this

theorem apartFrom_get {i : Nat} {r : Rec} : ∀ {rs : List Rec} {ms : List Nat}, apartFrom i r rs ms = true → ∀ (k : Nat) (s : Rec) (m : Nat), rs[k]? = some s → ms[k]? = some m → (Nat.testBit m i = true ∨ clash r s = false) ∧ ∀ t ∈ s.nw, freshRec t r = true
  | [], _, _, k, s, m, h, _ => by simp at h
  | s :: ss, m :: ms, h, k, s', m', h1, h2 => by
    simp only [apartFrom, Bool.and_eq_true, Bool.or_eq_true, Bool.not_eq_true'] at h
    cases k with
    | zero =>
      simp at h1 h2
      subst h1 h2
      exact ⟨h.1.1, fun t ht => List.all_eq_true.1 h.1.2 t ht⟩
    | succ k => exact apartFrom_get h.2 k s' m' (by simpa using h1) (by simpa using h2)
  | _ :: _, [], h, _, _, _, _, _ => by simp [apartFrom] at h
theorem apartAll_get : ∀ {i : Nat} {rs : List Rec} {ms : List Nat}, apartAll i rs ms = true → ∀ (a b : Nat) (r s : Rec) (m : Nat), a < b → rs[a]? = some r → rs[b]? = some s → ms[b]? = some m → (Nat.testBit m (i + a) = true ∨ clash r s = false) ∧ ∀ t ∈ s.nw, freshRec t r = true
  | i, [], _, _, a, b, r, s, m, _, h, _, _ => by simp at h
  | i, x :: rs, y :: ms, h, a, b, r, s, m, hab, h1, h2, h3 => by
    simp only [apartAll, Bool.and_eq_true] at h
    cases b with
    | zero => omega
    | succ b =>
      cases a with
      | zero =>
        simp at h1
        subst h1
        exact apartFrom_get h.1 b s m (by simpa using h2) (by simpa using h3)
      | succ a =>
        have := apartAll_get h.2 a b r s m (by omega) (by simpa using h1) (by simpa using h2) (by simpa using h3)
        rwa [show i + 1 + a = i + (a + 1) by omega] at this
  | _, _ :: _, [], h, _, _, _, _, _, _, _, _, _ => by simp [apartAll] at h

theorem lowerFrom_get : ∀ {i : Nat} {l : List Oper}, lowerFrom i l = true → ∀ (k : Nat) (o : Oper), l[k]? = some o → ∀ j ∈ edges o, j < i + k
  | i, [], _, k, o, h => by simp at h
  | i, x :: l, h, k, o, hk => by
    simp only [lowerFrom, Bool.and_eq_true] at h
    cases k with
    | zero =>
      simp at hk
      subst hk
      intro j hj
      have := List.all_eq_true.1 h.1 j hj
      simp [Nat.blt] at this
      omega
    | succ k =>
      have := lowerFrom_get h.2 k o (by simpa using hk)
      intro j hj
      have := this j hj
      omega

theorem freshRec_E {t : Nat} {r : Rec} (h : freshRec t r = true) : men t r.v = false := by
  simp only [freshRec, Bool.and_eq_true] at h
  simpa using h.1
theorem hlk_mem : ∀ {W : Heap} {x : Nat} {v : Option Blk}, hlk W x = some v → (x, v) ∈ W
  | [], x, v, h => by cases h
  | (y, b) :: W, x, v, h => by
    simp only [hlk] at h
    cases hx : Nat.beq x y with
    | true =>
      rw [hx] at h
      have := Nat.eq_of_beq_eq_true hx
      subst this
      simp at h
      subst h
      exact List.mem_cons_self
    | false =>
      rw [hx] at h
      exact List.mem_cons_of_mem _ (hlk_mem (by simpa using h))
theorem freshRec_H {t : Nat} {r : Rec} (h : freshRec t r = true) {x : Nat} {cs : List V} (hx : hlk r.W x = some (some (false, cs))) (hne : x ≠ t) : menL t cs = false := by
  simp only [freshRec, Bool.and_eq_true] at h
  have := List.all_eq_true.1 h.2 _ (hlk_mem hx)
  simp only [Bool.or_eq_true] at this
  rcases this with h1 | h1
  · exact absurd (Nat.eq_of_beq_eq_true h1) hne
  · simpa using h1

/-- A property of all that is told. -/
theorem ovs_prop {α : Type} {p : α → Prop} {L : Nat → Bool} {x : Nat} : ∀ (lks : List (Nat → Option α)) (i : Nat) (f : Nat → α), p (f x) → (∀ k lk v, lks[k]? = some lk → L (i + k) = true → lk x = some v → p v) → p (ovs lks L i f x)
  | [], _, _, h, _ => h
  | lk :: r, i, f, h, hk => by
    simp only [ovs]
    refine ovs_prop r (i + 1) _ ?_ fun k lk' v h1 h2 h3 => hk (k + 1) lk' v (by simpa using h1) (by rwa [show i + (k + 1) = i + 1 + k by omega]) h3
    split
    · rename_i hL
      unfold ov
      cases hx : lk x with
      | none => simpa using h
      | some v => simpa using hk 0 lk v rfl (by simpa using hL) hx
    · exact h

section
variable {P : Program} {ops : Array Oper} {S0 S : St} {recs : List Rec}

theorem draw_main (hd : Did P ops S0 recs S) (hc : drawOk ops.toList S0 recs = true) {Q : Exit → Act → World → Prop} {w0 : World} {ok0 : Fr} (hq : ∀ a w, Rel w0 ok0 S a w → Q .normal a w) :
    ∀ (fuel : Nat) (listed : Array Bool) (a : Act) (w : World), listed.size = ops.size → DC ops (fun k => listed.getD k false) → listed.toList.count false ≤ fuel →
      RelF w0 ok0 (ovs (recs.map lkE) (fun k => listed.getD k false) 0 (get S0.env)) (ovs (recs.map lkH) (fun k => listed.getD k false) 0 (hget S0.H)) S0.sz a w → wpAny P .any ops Q fuel listed a w := by
  simp only [drawOk, Bool.and_eq_true] at hc
  obtain ⟨⟨⟨hlen, hlow⟩, hap⟩, hfr⟩ := hc
  have hlen := Nat.eq_of_beq_eq_true hlen
  have hlen' : recs.length = ops.size := by rw [← hlen]; simp
  have edge_binds : ∀ {o : Oper} {e : Edge}, e ∈ o.after → Region.binds .any e = true → e.on ∈ edges o := fun {o e} he hb =>
    List.mem_filterMap.2 ⟨e, by simpa using he, by rw [hb]; rfl⟩
  -- nothing is ready: all is listed
  have done : ∀ (listed : Array Bool) (a : Act) (w : World), listed.size = ops.size → Region.ready .any ops listed = [] → 
      RelF w0 ok0 (ovs (recs.map lkE) (fun k => listed.getD k false) 0 (get S0.env)) (ovs (recs.map lkH) (fun k => listed.getD k false) 0 (hget S0.H)) S0.sz a w → Q .normal a w := by
    intro listed a w hsz hr hrel
    have all : ∀ k, k < ops.size → listed.getD k false = true := by
      intro k
      induction k using Nat.strongRecOn with
      | _ k ih =>
        intro hk
        refine Decidable.byContradiction fun hn => ?_
        have hlt : k < listed.size := by omega
        have hm : k ∈ Region.ready .any ops listed := by
          rw [mem_ready]
          refine ⟨?_, ops[k], Array.getElem?_eq_getElem hk, fun e he hb => ?_⟩
          · simpa [hlt] using hn
          · have := lowerFrom_get hlow k ops[k] (by simp [hk]) e.on (edge_binds he hb)
            exact ih e.on (by omega) (by omega)
        rw [hr] at hm
        cases hm
    refine hq a w ?_
    unfold Rel
    rw [hd.env, hd.heap, hd.sz]
    have e1 : ovs (recs.map lkE) (fun _ => true) 0 (get S0.env) = ovs (recs.map lkE) (fun k => listed.getD k false) 0 (get S0.env) :=
      ovs_congr _ 0 _ fun k hk => by rw [Nat.zero_add]; exact (all k (by simpa [hlen'] using hk)).symm
    have e2 : ovs (recs.map lkH) (fun _ => true) 0 (hget S0.H) = ovs (recs.map lkH) (fun k => listed.getD k false) 0 (hget S0.H) :=
      ovs_congr _ 0 _ fun k hk => by rw [Nat.zero_add]; exact (all k (by simpa [hlen'] using hk)).symm
    rw [e1, e2]
    exact hrel
  intro fuel
  induction fuel with
  | zero =>
    intro listed a w hsz hdc hcnt hrel
    have hnil : Region.ready .any ops listed = [] := by
      rw [List.eq_nil_iff_forall_not_mem]
      intro i hi
      obtain ⟨h0, o, ho, _⟩ := mem_ready.1 hi
      have hlt : i < listed.size := by rw [hsz]; exact (Array.getElem?_eq_some_iff.1 ho).1
      have hmem : false ∈ listed.toList := by
        have : listed[i] = false := by simpa [hlt] using h0
        rw [← this]
        simp
      have := List.count_pos_iff.2 hmem
      omega
    exact ⟨hnil, done listed a w hsz hnil hrel⟩
  | succ fuel ih =>
    intro listed a w hsz hdc hcnt hrel
    refine ⟨fun hr => done listed a w hsz hr hrel, fun i hi => ?_⟩
    obtain ⟨h0, o, ho, hedge⟩ := mem_ready.1 hi
    have hilt : i < ops.size := (Array.getElem?_eq_some_iff.1 ho).1
    have hil : i < listed.size := by omega
    have hLi : listed.getD i false = false := by
      have : listed[i] = false := by simpa [hil] using h0
      simp [hil, this]
    have hrd : ∀ j ∈ edges o, listed.getD j false = true := by
      intro j hj
      obtain ⟨e, he, hb⟩ := List.mem_filterMap.1 hj
      cases hbb : Region.binds .any e with
      | false => rw [hbb] at hb; cases hb
      | true =>
        rw [hbb] at hb
        simp at hb
        rw [← hb]
        exact hedge e (by simpa using he) hbb
    have hrlt : i < recs.length := by omega
    obtain ⟨r, hr⟩ : ∃ r, recs[i]? = some r := ⟨recs[i], List.getElem?_eq_getElem hrlt⟩
    obtain ⟨hdst, hrec⟩ := hd.each i r o hr ho
    -- how the listed stand to i
    have hms : ∀ k, k < ops.size → ∃ m, (ancsGo ops.toList [])[k]? = some m := fun k hk => ⟨_, List.getElem?_eq_getElem (by rw [ancsGo_length]; simpa using hk)⟩
    have rel : ∀ k s, recs[k]? = some s → k ≠ i → (Nat.blt k i = listed.getD k false ∧ (k < i → ∀ t ∈ r.nw, freshRec t s = true)) ∨ (clash r s = false ∨ clash s r = false) ∧ ∀ t ∈ r.nw, freshRec t s = true := by
      intro k s hs hki
      have hks : k < ops.size := by rw [← hlen']; exact (List.getElem?_eq_some_iff.1 hs).1
      rcases Nat.lt_or_gt_of_ne hki with hlt | hgt
      · obtain ⟨m, hm⟩ := hms i hilt
        obtain ⟨h1, h2⟩ := apartAll_get hap k i s r m hlt hs hr hm
        rw [Nat.zero_add] at h1
        rcases h1 with h1 | h1
        · have h3 := anc_ready hdc ho hrd hm h1
          refine .inl ⟨?_, fun _ => h2⟩
          rcases h3 with h3 | h3
          · rw [h3]; simp [Nat.blt]; omega
          · omega
        · exact .inr ⟨.inr h1, h2⟩
      · obtain ⟨m, hm⟩ := hms k hks
        obtain ⟨h1, h2⟩ := apartAll_get hap i k r s m hgt hr hs hm
        rw [Nat.zero_add] at h1
        rcases h1 with h1 | h1
        · refine .inl ⟨?_, fun h => by omega⟩
          have hn : listed.getD k false = false := by
            cases hk : listed.getD k false with
            | false => rfl
            | true =>
              have := anc_sound hdc ops.toList [] (fun i o h => by simpa using h) (fun k m h => by simp at h) k m hm hk i h1
              rw [hLi] at this
              cases this
          rw [hn]
          cases hb : Nat.blt k i with
          | false => rfl
          | true => simp [Nat.blt] at hb; omega
        · exact .inr ⟨.inl h1, (clash_of h1).2.2.2.2.2.2⟩
    have hself : ∀ {β : Type} (f : Rec → β) (k : Nat) (lk : β), (recs.map f)[k]? = some lk → ∃ s, recs[k]? = some s ∧ f s = lk := fun f k lk h => by
      rw [List.getElem?_map, Option.map_eq_some_iff] at h
      exact h
    -- what it looks at is told as in the run
    have hE : ∀ x ∈ r.rd, ovs (recs.map lkE) (fun k => listed.getD k false) 0 (get S0.env) x = ovs (recs.map lkE) (fun k => Nat.blt k i) 0 (get S0.env) x := fun x hx => by
      refine ovs_agree _ 0 _ _ (fun k lk hk hne => ?_) rfl
      obtain ⟨s, hs, rfl⟩ := hself lkE k lk hk
      rw [Nat.zero_add]
      by_cases hki : k = i
      · subst hki
        rw [hLi]
        cases hb : Nat.blt k k with
        | false => rfl
        | true => simp [Nat.blt] at hb; omega
      · rcases rel k s hs hki with h1 | ⟨h1 | h1, _⟩
        · exact h1.1.symm
        · exact absurd ((clash_of h1).2.2.1 x hx) hne
        · exact absurd ((clash_of h1).2.1 x hx) hne
    have hH : ∀ t ∈ r.R, ovs (recs.map lkH) (fun k => listed.getD k false) 0 (hget S0.H) t = ovs (recs.map lkH) (fun k => Nat.blt k i) 0 (hget S0.H) t := fun t ht => by
      refine ovs_agree _ 0 _ _ (fun k lk hk hne => ?_) rfl
      obtain ⟨s, hs, rfl⟩ := hself lkH k lk hk
      rw [Nat.zero_add]
      by_cases hki : k = i
      · subst hki
        rw [hLi]
        cases hb : Nat.blt k k with
        | false => rfl
        | true => simp [Nat.blt] at hb; omega
      · rcases rel k s hs hki with h1 | ⟨h1 | h1, _⟩
        · exact h1.1.symm
        · exact absurd ((clash_of h1).2.2.2.2.2.1 t ht) hne
        · exact absurd ((clash_of h1).2.2.2.2.1 t ht) hne
    have hF : ∀ t ∈ r.nw, FreshF t (ovs (recs.map lkE) (fun k => listed.getD k false) 0 (get S0.env)) (ovs (recs.map lkH) (fun k => listed.getD k false) 0 (hget S0.H)) := fun t ht => by
      have h00 := fresh_of (List.all_eq_true.1 (List.all_eq_true.1 hfr r (List.mem_of_getElem? hr)) t ht)
      have hfs : ∀ k s, recs[k]? = some s → listed.getD k false = true → freshRec t s = true := fun k s hs hL => by
        have hki : k ≠ i := fun e => by rw [e, hLi] at hL; cases hL
        rcases rel k s hs hki with ⟨h1, h2⟩ | ⟨_, h1⟩
        · rw [hL] at h1
          exact h2 (by simp [Nat.blt] at h1; omega) t ht
        · exact h1 t ht
      refine ⟨fun x => ovs_prop (p := fun v => men t v = false) _ 0 _ (h00.1 x) fun k lk v hk hL hv => ?_, fun t' cs ht' hne => ?_⟩
      · obtain ⟨s, hs, rfl⟩ := hself lkE k lk hk
        rw [Nat.zero_add] at hL
        have := freshRec_E (hfs k s hs hL)
        unfold lkE at hv
        cases hd2 : s.dst with
        | none => rw [hd2] at hv; cases hv
        | some d =>
          rw [hd2] at hv
          simp only at hv
          cases hb : Nat.beq x d with
          | false => rw [hb] at hv; cases hv
          | true => rw [hb] at hv; simp at hv; rw [← hv]; exact this
      · have := ovs_prop (p := fun b : Option Blk => ∀ cs, b = some (false, cs) → menL t cs = false) (x := t') (recs.map lkH) 0 (L := fun k => listed.getD k false) (hget S0.H) (fun cs h => h00.2 t' cs h hne) (fun k lk v hk hL hv cs hcs => by
          obtain ⟨s, hs, rfl⟩ := hself lkH k lk hk
          rw [Nat.zero_add] at hL
          subst hcs
          exact freshRec_H (hfs k s hs hL) hv hne)
        exact this cs ht'
    -- the state behind it
    have hstep : ∀ {α : Type} (f : Rec → Nat → Option α) (g : Nat → α), (∀ s, clash r s = false → ∀ x, f r x ≠ none → f s x = none) →
        ovs (recs.map f) (fun k => (listed.setIfInBounds i true).getD k false) 0 g = ov (f r) (ovs (recs.map f) (fun k => listed.getD k false) 0 g) := fun {α} f g hcl => by
      refine ovs_insert (recs.map f) 0 i g (by rw [List.getElem?_map, hr]; rfl) (by rw [Nat.zero_add]; exact hLi) (fun k => ?_) (fun k lk hk hik hL => ?_)
      · rw [Nat.zero_add]
        by_cases hki : k = i
        · subst hki
          simp [hil]
        · have : Nat.beq k i = false := by
            cases hb : Nat.beq k i with
            | false => rfl
            | true => exact absurd (Nat.eq_of_beq_eq_true hb) hki
          rw [this, getD_set_ne false (Ne.symm hki)]
          simp
      · obtain ⟨s, hs, rfl⟩ := hself f k lk hk
        rw [Nat.zero_add] at hL
        have hks : k < ops.size := by rw [← hlen']; exact (List.getElem?_eq_some_iff.1 hs).1
        obtain ⟨m, hm⟩ := hms k hks
        obtain ⟨h1, _⟩ := apartAll_get hap i k r s m hik hr hs hm
        rw [Nat.zero_add] at h1
        rcases h1 with h1 | h1
        · have := anc_sound hdc ops.toList [] (fun i o h => by simpa using h) (fun k m h => by simp at h) k m hm hL i h1
          rw [hLi] at this
          cases this
        · exact hcl s h1
    have hnext : ∀ a' w', RelF w0 ok0 (putF (ovs (recs.map lkE) (fun k => listed.getD k false) 0 (get S0.env)) r.dst r.v) (appF (ovs (recs.map lkH) (fun k => listed.getD k false) 0 (hget S0.H)) r.W) S0.sz a' w' → wpAny P .any ops Q fuel (listed.setIfInBounds i true) a' w' := by
      intro a' w' hrel'
      refine ih _ a' w' (by simpa using hsz) ?_ ?_ ?_
      · intro k o' ho' hk j hj
        by_cases hki : k = i
        · subst hki
          rw [ho] at ho'
          injection ho' with ho'
          subst ho'
          exact getD_set_true (hrd j hj)
        · simp only at hk
          rw [getD_set_ne false (Ne.symm hki)] at hk
          exact getD_set_true (hdc k o' ho' hk j hj)
      · have hget : listed[i] = false := by simpa [hil] using h0
        have : (listed.setIfInBounds i true).toList = listed.toList.set i true := by simp
        rw [this, List.count_set (by simpa using hil)]
        have h5 : (listed.toList[i]'(by simpa using hil) == false) = true := by simp [hget]
        have h6 : ((true : Bool) == false) = false := rfl
        rw [h6]
        simp only [hget, Array.getElem_toList, beq_self_eq_true, if_true, Bool.false_eq_true, if_false]
        omega
      · rw [hstep lkE _ (fun s h => (clash_of h).1), hstep lkH _ (fun s h => (clash_of h).2.2.2.1), ← putF_ov]
        have : appF (ovs (recs.map lkH) (fun k => listed.getD k false) 0 (hget S0.H)) r.W = ov (lkH r) (ovs (recs.map lkH) (fun k => listed.getD k false) 0 (hget S0.H)) := appF_ov _ _
        rw [← this]
        exact hrel'
    have hfin := hrec _ _ hE hH hF w0 ok0 a w hrel (wpAny P .any ops Q fuel (listed.setIfInBounds i true)) Q hnext
    unfold wpOp
    rw [ho]
    simp only
    split
    · rename_i hw
      rw [if_pos hw] at hfin
      exact .inl hfin
    · rename_i hw
      rw [if_neg hw] at hfin
      exact hfin
end

/-! ### the rules -/
def DR (P : Program) (ops : Array Oper) (S0 : St) (l : List Oper) (acc : List Rec) (S : St) (K : St → Prop) : Prop :=
  Did P ops S0 acc S → (∀ i o, l[i]? = some o → ops[acc.length + i]? = some o) → (acc.length + l.length = ops.size) → ∃ recs S', Did P ops S0 recs S' ∧ drawOk ops.toList S0 recs = true ∧ K S'

section
variable {P : Program} {ops : Array Oper} {S0 S : St} {acc : List Rec} {K : St → Prop} {o : Oper} {rest : List Oper}

theorem dr_nil (hc : drawOk ops.toList S0 acc = true) (h : K S) : DR P ops S0 [] acc S K := fun hd _ _ => ⟨acc, S, hd, hc, h⟩
theorem dr_rec {r : Rec} (hsz : S.sz = S0.sz) (hr : RecOk P ops S0.sz o (get S.env) (hget S.H) r) (h : DR P ops S0 rest (acc ++ [r]) ⟨put S.env r.dst r.v, r.W ++ S.H, S.sz⟩ K) : DR P ops S0 (o :: rest) acc S K := fun hd ho hl =>
  h (hd.step (ho 0 o rfl) hr) (fun i o' hi => by have := ho (i + 1) o' (by simpa using hi); rw [List.length_append, List.length_singleton, Nat.add_assoc, Nat.add_comm 1 i]; exact this) (by simp at hl ⊢; omega)
theorem dr_seq {R : List Nat} {v : V} {W : Heap} {nw : List Nat} (hg : o.guard = none) (hok : opOk o S.sz = true) (hsz : S.sz = S0.sz) (h : LOp P o S.env S.H R v W nw)
    (hr : DR P ops S0 rest (acc ++ [⟨rdOf o, o.dst, v, R, W, nw⟩]) ⟨put S.env o.dst v, W ++ S.H, S.sz⟩ K) : DR P ops S0 (o :: rest) acc S K :=
  dr_rec hsz (h.rec (hsz ▸ hok) hg) hr
theorem dr_yes {R : List Nat} {v : V} {W : Heap} {nw : List Nat} {j t : Nat} {b want : Bool} (hg : o.guard = some (j, want)) (hj : guardSlot ops j = some t) (ht : get S.env t = .bool b) (hb : b = want)
    (hok : opOk o S.sz = true) (hsz : S.sz = S0.sz) (h : LOp P o S.env S.H R v W nw) (hr : DR P ops S0 rest (acc ++ [⟨t :: rdOf o, o.dst, v, R, W, nw⟩]) ⟨put S.env o.dst v, W ++ S.H, S.sz⟩ K) : DR P ops S0 (o :: rest) acc S K :=
  dr_rec hsz (h.recYes (hsz ▸ hok) hg hj ht hb) hr
theorem dr_no {j t : Nat} {b want : Bool} (hg : o.guard = some (j, want)) (hj : guardSlot ops j = some t) (ht : get S.env t = .bool b) (hb : b = !want) (hsz : S.sz = S0.sz)
    (hr : DR P ops S0 rest (acc ++ [⟨[t], o.dst, .undef, [], [], []⟩]) ⟨put S.env o.dst .undef, S.H, S.sz⟩ K) : DR P ops S0 (o :: rest) acc S K :=
  dr_rec hsz (rec_no hg hj ht hb) hr

theorem ok_draw {id : Nat} {Q : Exit → St → Prop} (hm : P.follows .mixedOrders = true) (h : DR P ops S ops.toList [] S (Q .normal)) : Ok P (.region id ops true) S Q := by
  intro w0 ok0 a w r
  obtain ⟨recs, S', hd, hc, hk⟩ := h Did.start (fun i o hi => by simpa using hi) (by simp)
  refine wp_region_any hm ?_
  have hrel : Rel w0 ok0 S a w.drew := by
    obtain ⟨ok, G, hs, hr, h1, h2⟩ := r
    exact ⟨ok, G, hs.drew, fun x => Rep.mv (mv_drewN w ok G 1) _ _ _ (fun _ _ _ => rfl) (hr x), h1, h2⟩
  have hrep : ∀ k, (Array.replicate ops.size false).getD k false = false := fun k => by
    rw [Array.getD_eq_getD_getElem?, Array.getElem?_replicate]
    split <;> rfl
  refine draw_main hd hc (Q := fun e a' w' => ∃ S', Rel w0 ok0 S' a' w' ∧ Q e S') (w0 := w0) (ok0 := ok0) (fun a w r => ⟨S', r, hk⟩) ops.size _ a w.drew (by simp) (fun k o ho hk => by simp only [hrep] at hk; cases hk) (by simp [List.count_replicate]) ?_
  have e1 : ovs (recs.map lkE) (fun k => (Array.replicate ops.size false).getD k false) 0 (get S.env) = get S.env := funext fun x => ovs_none _ 0 _ fun k lk _ h => by rw [hrep] at h; cases h
  have e2 : ovs (recs.map lkH) (fun k => (Array.replicate ops.size false).getD k false) 0 (hget S.H) = hget S.H := funext fun x => ovs_none _ 0 _ fun k lk _ h => by rw [hrep] at h; cases h
  rw [e1, e2]
  exact hrel
theorem ok_drw {id : Nat} {y : Code} {Q : Exit → St → Prop} (hm : P.follows .mixedOrders = true) (h : DR P ops S ops.toList [] S (fun S' => Ok P y S' Q)) : Ok P (.seq (.region id ops true) y) S Q :=
  ok_seq (ok_draw hm h)
end
end Go.Hg
