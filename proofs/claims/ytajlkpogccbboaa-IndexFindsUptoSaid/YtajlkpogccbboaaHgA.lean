/- Abstract values and what they say of the model's values and worlds: definitions and the laws on change of world. No condition. -/
import Derived.Orders
import Derived.ScopeJumps
import Derived.Below
import Derived.Tactics
import Derived.Laws.AppendOwn
import Derived.DataElems
set_option linter.unusedVariables false
set_option linter.unusedSimpArgs false
namespace Go.Hg
open Go.RowKit

/-- An abstract value: 'sl', 'fp': a slice, a pointer of which what lies behind it is told and never turns; 'os', 'rf': a slice, a pointer into a block of the call's own, by the block's name. -/
inductive V where
  | bool (b : Bool)
  | int (k : IntKind) (n : Int)
  | str (s : ByteArray)
  | z0
  | sl (n : Nat) (cs : List V)
  | fp (cs : List V)
  | os (t off sz n : Nat)
  | rf (t off : Nat)
  | fn (f : FuncId) (caps : List V)
  | agg (cs : List V)
  | tup (vs : List V)
  | raw (u : Value)
  | bsz (t n : Nat)
  | undef
  deriving Inhabited

/-- The cells us lie at A, in blocks that are ok. -/
def At (w : World) (ok : Nat → Prop) (A : Option Addr) (us : List Value) : Prop :=
  us = [] ∨ ∃ ad, A = some ad ∧ ok ad.block ∧ ∀ j u, us[j]? = some u → w.cell? (ad.add j) = some u

mutual
def Rep (w : World) (ok : Nat → Prop) (G : Nat → Option Nat) : V → Bool → Value → Prop
  | .bool b, _, u => u = .bool b
  | .int k n, _, u => u = .int k n
  | .str s, _, u => u = .string s
  | .z0, _, u => ∃ A, u = .slice A 0 0
  | .sl n cs, _, u => ∃ A c us, u = .slice A n c ∧ n ≤ c ∧ At w ok A us ∧ RepL w ok G cs false us
  | .fp cs, _, u => ∃ A us, u = .pointer (some A) ∧ At w ok (some A) us ∧ RepL w ok G cs false us
  | .os t off sz n, tk, u => tk = true ∧ ((∃ b c o' cs ty fr, G t = some b ∧ u = .slice (some ⟨b, o', none⟩) n c ∧ n ≤ c ∧ 0 < sz ∧ w.heap[b]? = some (.cells cs ty fr) ∧ off + c * sz = cs.size ∧ (c = 0 ∨ o' = off)) ∨ (G t = none ∧ n = 0 ∧ ∃ A, u = .slice A 0 0))
  | .rf t off, tk, u => tk = true ∧ ∃ b, G t = some b ∧ u = .pointer (some ⟨b, off, none⟩)
  | .fn f caps, tk, u => ∃ us, u = .func (.func f) #[] us.toArray ∧ RepT w ok G caps tk us
  | .agg cs, tk, u => ∃ us, u = .agg us.toArray ∧ RepL w ok G cs tk us
  | .tup vs, tk, u => ∃ us, u = .tuple us.toArray ∧ RepT w ok G vs tk us
  | .raw x, _, u => u = x
  | .bsz t n, tk, _ => tk = true ∧ ∃ b cs ty fr, G t = some b ∧ w.heap[b]? = some (.cells cs ty fr) ∧ cs.size = n
  | .undef, _, _ => True
def RepL (w : World) (ok : Nat → Prop) (G : Nat → Option Nat) : List V → Bool → List Value → Prop
  | [], _, us => us = []
  | v :: vs, tk, us => ∃ u us', us = u :: us' ∧ u.oneCell' = true ∧ Rep w ok G v tk u ∧ RepL w ok G vs tk us'
def RepT (w : World) (ok : Nat → Prop) (G : Nat → Option Nat) : List V → Bool → List Value → Prop
  | [], _, us => us = []
  | v :: vs, tk, us => ∃ u us', us = u :: us' ∧ Rep w ok G v tk u ∧ RepT w ok G vs tk us'
end

mutual
/-- Is the block's name t among what is told? -/
def men (t : Nat) : V → Bool
  | .os t' _ _ _ => Nat.beq t t'
  | .rf t' _ => Nat.beq t t'
  | .bsz t' _ => Nat.beq t t'
  | .fn _ caps => menL t caps
  | .agg cs => menL t cs
  | .tup vs => menL t vs
  | _ => false
def menL (t : Nat) : List V → Bool
  | [] => false
  | v :: vs => men t v || menL t vs
end

/-- A later world: what is ok has not turned, blocks of cells stay of their size. -/
structure WS (w : World) (ok : Nat → Prop) (w' : World) : Prop where
  okk : ∀ b : Nat, ok b → w'.heap[b]? = w.heap[b]?
  siz : ∀ (b : Nat) (cs : Array Value) (ty : TypeId) (fr : Nat × Nat), w.heap[b]? = some (.cells cs ty fr) → ∃ cs' fr', w'.heap[b]? = some (.cells cs' ty fr') ∧ cs'.size = cs.size
  grow : w.heap.size ≤ w'.heap.size

theorem WS.refl (w : World) (ok : Nat → Prop) : WS w ok w := ⟨fun _ _ => rfl, fun _ cs _ fr h => ⟨cs, fr, h, rfl⟩, Nat.le_refl _⟩
theorem WS.trans {a b c : World} {ok : Nat → Prop} (h : WS a ok b) (k : WS b ok c) : WS a ok c :=
  ⟨fun x hx => (k.okk x hx).trans (h.okk x hx), fun x cs ty fr hx => by
    obtain ⟨cs', fr', h1, h2⟩ := h.siz x cs ty fr hx
    obtain ⟨cs'', fr'', h3, h4⟩ := k.siz x cs' ty fr' h1
    exact ⟨cs'', fr'', h3, h4.trans h2⟩, Nat.le_trans h.grow k.grow⟩
theorem WS.weak {a b : World} {ok ok' : Nat → Prop} (h : WS a ok b) (hk : ∀ x, ok' x → ok x) : WS a ok' b := ⟨fun x hx => h.okk x (hk x hx), h.siz, h.grow⟩

theorem block_add (a : Addr) (n : Nat) : (a.add n).block = a.block := by unfold Addr.add; split <;> rfl

theorem At.mono {w w' : World} {ok ok' : Nat → Prop} (hw : ∀ b, ok b → w'.heap[b]? = w.heap[b]?) (hk : ∀ b, ok b → ok' b) {A : Option Addr} {us : List Value} (h : At w ok A us) : At w' ok' A us := by
  rcases h with h | ⟨ad, hA, hok, hc⟩
  · exact .inl h
  · refine .inr ⟨ad, hA, hk _ hok, fun j u hj => ?_⟩
    rw [World.cell?_of_block (w := w) (by rw [block_add]; exact hw _ hok)]
    exact hc j u hj

theorem At.drop {w : World} {ok : Nat → Prop} {A : Option Addr} {us : List Value} (h : At w ok A us) (k : Nat) : At w ok (A.map (·.add k)) (us.drop k) := by
  rcases h with rfl | ⟨ad, rfl, hok, hc⟩
  · exact .inl (by simp)
  · refine .inr ⟨ad.add k, rfl, by rw [block_add]; exact hok, fun j u hj => ?_⟩
    rw [Addr.add_add]
    exact hc _ _ (by rwa [List.getElem?_drop] at hj)
theorem At.take {w : World} {ok : Nat → Prop} {A : Option Addr} {us : List Value} (h : At w ok A us) (k : Nat) : At w ok A (us.take k) := by
  rcases h with rfl | ⟨ad, rfl, hok, hc⟩
  · exact .inl (by simp)
  · refine .inr ⟨ad, rfl, hok, fun j u hj => hc _ _ ?_⟩
    rw [List.getElem?_take] at hj
    split at hj
    · exact hj
    · cases hj

/-- What is asked of two worlds and namings for what is told of a value to stay. -/
structure Mv (w : World) (ok : Nat → Prop) (G : Nat → Option Nat) (w' : World) (ok' : Nat → Prop) (G' : Nat → Option Nat) : Prop where
  okk : ∀ b : Nat, ok b → w'.heap[b]? = w.heap[b]?
  mono : ∀ b, ok b → ok' b
  siz : ∀ (b : Nat) (cs : Array Value) (ty : TypeId) (fr : Nat × Nat), w.heap[b]? = some (.cells cs ty fr) → ∃ cs' fr', w'.heap[b]? = some (.cells cs' ty fr') ∧ cs'.size = cs.size

mutual
theorem Rep.mv {w w' : World} {ok ok' : Nat → Prop} {G G' : Nat → Option Nat} (hm : Mv w ok G w' ok' G') :
    ∀ (v : V) (tk : Bool) (u : Value), (tk = true → ∀ t, men t v = true → G' t = G t) → Rep w ok G v tk u → Rep w' ok' G' v tk u
  | .bool _, _, _, _, h => by simpa [Rep] using h
  | .int _ _, _, _, _, h => by simpa [Rep] using h
  | .str _, _, _, _, h => by simpa [Rep] using h
  | .z0, _, _, _, h => by simpa [Rep] using h
  | .raw _, _, _, _, h => by simpa [Rep] using h
  | .undef, _, _, _, h => by simp [Rep]
  | .sl n cs, tk, u, _, h => by
    simp only [Rep] at h ⊢
    obtain ⟨A, c, us, h1, h2, h3, h4⟩ := h
    exact ⟨A, c, us, h1, h2, h3.mono hm.okk hm.mono, RepL.mv hm cs false us (fun h => by cases h) h4⟩
  | .fp cs, tk, u, _, h => by
    simp only [Rep] at h ⊢
    obtain ⟨A, us, h1, h3, h4⟩ := h
    exact ⟨A, us, h1, h3.mono hm.okk hm.mono, RepL.mv hm cs false us (fun h => by cases h) h4⟩
  | .os t off sz n, tk, u, hg, h => by
    simp only [Rep] at h ⊢
    obtain ⟨h0, h⟩ := h
    have hG := hg h0 t (by simp [men])
    rcases h with ⟨b, c, o', cs, ty, fr, hb, h1, h2, h3, h4, h5, h6⟩ | ⟨hb, h1⟩
    · obtain ⟨cs', fr', h7, h8⟩ := hm.siz _ _ _ _ h4
      exact ⟨h0, .inl ⟨b, c, o', cs', ty, fr', by rw [hG]; exact hb, h1, h2, h3, h7, by rw [h8]; exact h5, h6⟩⟩
    · exact ⟨h0, .inr ⟨by rw [hG]; exact hb, h1⟩⟩
  | .rf t off, tk, u, hg, h => by
    simp only [Rep] at h ⊢
    obtain ⟨h0, b, hb, h1⟩ := h
    exact ⟨h0, b, by rw [hg h0 t (by simp [men])]; exact hb, h1⟩
  | .bsz t n, tk, u, hg, h => by
    simp only [Rep] at h ⊢
    obtain ⟨h0, b, cs, ty, fr, hb, h1, h2⟩ := h
    obtain ⟨cs', fr', h7, h8⟩ := hm.siz _ _ _ _ h1
    exact ⟨h0, b, cs', ty, fr', by rw [hg h0 t (by simp [men])]; exact hb, h7, by rw [h8]; exact h2⟩
  | .fn f caps, tk, u, hg, h => by
    simp only [Rep] at h ⊢
    obtain ⟨us, h1, h2⟩ := h
    exact ⟨us, h1, RepT.mv hm caps tk us (fun h t ht => hg h t (by simpa [men] using ht)) h2⟩
  | .agg cs, tk, u, hg, h => by
    simp only [Rep] at h ⊢
    obtain ⟨us, h1, h2⟩ := h
    exact ⟨us, h1, RepL.mv hm cs tk us (fun h t ht => hg h t (by simpa [men] using ht)) h2⟩
  | .tup vs, tk, u, hg, h => by
    simp only [Rep] at h ⊢
    obtain ⟨us, h1, h2⟩ := h
    exact ⟨us, h1, RepT.mv hm vs tk us (fun h t ht => hg h t (by simpa [men] using ht)) h2⟩
theorem RepL.mv {w w' : World} {ok ok' : Nat → Prop} {G G' : Nat → Option Nat} (hm : Mv w ok G w' ok' G') :
    ∀ (vs : List V) (tk : Bool) (us : List Value), (tk = true → ∀ t, menL t vs = true → G' t = G t) → RepL w ok G vs tk us → RepL w' ok' G' vs tk us
  | [], _, _, _, h => by simpa [RepL] using h
  | v :: vs, tk, us, hg, h => by
    simp only [RepL] at h ⊢
    obtain ⟨u, us', h1, h2, h3, h4⟩ := h
    exact ⟨u, us', h1, h2, Rep.mv hm v tk u (fun h t ht => hg h t (by simp [menL, ht])) h3, RepL.mv hm vs tk us' (fun h t ht => hg h t (by simp [menL, ht])) h4⟩
theorem RepT.mv {w w' : World} {ok ok' : Nat → Prop} {G G' : Nat → Option Nat} (hm : Mv w ok G w' ok' G') :
    ∀ (vs : List V) (tk : Bool) (us : List Value), (tk = true → ∀ t, menL t vs = true → G' t = G t) → RepT w ok G vs tk us → RepT w' ok' G' vs tk us
  | [], _, _, _, h => by simpa [RepT] using h
  | v :: vs, tk, us, hg, h => by
    simp only [RepT] at h ⊢
    obtain ⟨u, us', h1, h3, h4⟩ := h
    exact ⟨u, us', h1, Rep.mv hm v tk u (fun h t ht => hg h t (by simp [menL, ht])) h3, RepT.mv hm vs tk us' (fun h t ht => hg h t (by simp [menL, ht])) h4⟩
end

/-! ### lists -/
theorem RepL.length {w : World} {ok : Nat → Prop} {G : Nat → Option Nat} {tk : Bool} : ∀ {vs : List V} {us : List Value}, RepL w ok G vs tk us → us.length = vs.length
  | [], us, h => by simp only [RepL] at h; subst h; rfl
  | v :: vs, us, h => by
    simp only [RepL] at h
    obtain ⟨u, us', rfl, _, _, h⟩ := h
    simp [RepL.length h]
theorem RepL.one {w : World} {ok : Nat → Prop} {G : Nat → Option Nat} {tk : Bool} : ∀ {vs : List V} {us : List Value}, RepL w ok G vs tk us → ∀ u ∈ us, u.oneCell' = true
  | [], us, h => by simp only [RepL] at h; subst h; simp
  | v :: vs, us, h => by
    simp only [RepL] at h
    obtain ⟨u, us', rfl, h1, _, h⟩ := h
    intro x hx
    rcases List.mem_cons.1 hx with rfl | hx
    · exact h1
    · exact RepL.one h x hx
theorem RepL.append {w : World} {ok : Nat → Prop} {G : Nat → Option Nat} {tk : Bool} : ∀ {vs vs' : List V} {us us' : List Value}, RepL w ok G vs tk us → RepL w ok G vs' tk us' → RepL w ok G (vs ++ vs') tk (us ++ us')
  | [], vs', us, us', h, h' => by simp only [RepL] at h; subst h; simpa using h'
  | v :: vs, vs', us, us', h, h' => by
    simp only [RepL] at h
    obtain ⟨u, us1, rfl, h1, h2, h⟩ := h
    simp only [List.cons_append, RepL]
    exact ⟨u, us1 ++ us', rfl, h1, h2, RepL.append h h'⟩
theorem RepL.take {w : World} {ok : Nat → Prop} {G : Nat → Option Nat} {tk : Bool} : ∀ {vs : List V} {us : List Value} (k : Nat), RepL w ok G vs tk us → RepL w ok G (vs.take k) tk (us.take k)
  | [], us, k, h => by simp only [RepL] at h; subst h; simp [RepL]
  | v :: vs, us, 0, h => by simp [RepL]
  | v :: vs, us, k + 1, h => by
    simp only [RepL] at h
    obtain ⟨u, us1, rfl, h1, h2, h⟩ := h
    simp only [List.take_succ_cons, RepL]
    exact ⟨u, _, rfl, h1, h2, RepL.take k h⟩
theorem RepL.drop {w : World} {ok : Nat → Prop} {G : Nat → Option Nat} {tk : Bool} : ∀ {vs : List V} {us : List Value} (k : Nat), RepL w ok G vs tk us → RepL w ok G (vs.drop k) tk (us.drop k)
  | [], us, k, h => by simp only [RepL] at h; subst h; simp [RepL]
  | v :: vs, us, 0, h => by simpa using h
  | v :: vs, us, k + 1, h => by
    simp only [RepL] at h
    obtain ⟨u, us1, rfl, h1, h2, h⟩ := h
    simp only [List.drop_succ_cons]
    exact RepL.drop k h
theorem RepL.get {w : World} {ok : Nat → Prop} {G : Nat → Option Nat} {tk : Bool} : ∀ {vs : List V} {us : List Value} (k : Nat) {v : V}, RepL w ok G vs tk us → vs[k]? = some v → ∃ u, us[k]? = some u ∧ u.oneCell' = true ∧ Rep w ok G v tk u
  | [], us, k, v, h, hk => by simp at hk
  | x :: vs, us, 0, v, h, hk => by
    simp only [RepL] at h
    obtain ⟨u, us1, rfl, h1, h2, h⟩ := h
    simp at hk
    subst hk
    exact ⟨u, rfl, h1, h2⟩
  | x :: vs, us, k + 1, v, h, hk => by
    simp only [RepL] at h
    obtain ⟨u, us1, rfl, h1, h2, h⟩ := h
    simpa using RepL.get k h (by simpa using hk)
theorem RepL.set {w : World} {ok : Nat → Prop} {G : Nat → Option Nat} {tk : Bool} : ∀ {vs : List V} {us : List Value} (k : Nat) {v : V} {u : Value}, RepL w ok G vs tk us → u.oneCell' = true → Rep w ok G v tk u → RepL w ok G (vs.set k v) tk (us.set k u)
  | [], us, k, v, u, h, h1, h2 => by simp only [RepL] at h; subst h; simp [RepL]
  | x :: vs, us, 0, v, u, h, h1, h2 => by
    simp only [RepL] at h
    obtain ⟨u', us1, rfl, _, _, h⟩ := h
    simp only [List.set_cons_zero, RepL]
    exact ⟨u, us1, rfl, h1, h2, h⟩
  | x :: vs, us, k + 1, v, u, h, h1, h2 => by
    simp only [RepL] at h
    obtain ⟨u', us1, rfl, h3, h4, h⟩ := h
    simp only [List.set_cons_succ, RepL]
    exact ⟨u', _, rfl, h3, h4, RepL.set k h h1 h2⟩
theorem RepT.length {w : World} {ok : Nat → Prop} {G : Nat → Option Nat} {tk : Bool} : ∀ {vs : List V} {us : List Value}, RepT w ok G vs tk us → us.length = vs.length
  | [], us, h => by simp only [RepT] at h; subst h; rfl
  | v :: vs, us, h => by
    simp only [RepT] at h
    obtain ⟨u, us', rfl, _, h⟩ := h
    simp [RepT.length h]
theorem RepT.get {w : World} {ok : Nat → Prop} {G : Nat → Option Nat} {tk : Bool} : ∀ {vs : List V} {us : List Value} (k : Nat) {v : V}, RepT w ok G vs tk us → vs[k]? = some v → ∃ u, us[k]? = some u ∧ Rep w ok G v tk u
  | [], us, k, v, h, hk => by simp at hk
  | x :: vs, us, 0, v, h, hk => by
    simp only [RepT] at h
    obtain ⟨u, us1, rfl, h2, h⟩ := h
    simp at hk
    subst hk
    exact ⟨u, rfl, h2⟩
  | x :: vs, us, k + 1, v, h, hk => by
    simp only [RepT] at h
    obtain ⟨u, us1, rfl, h2, h⟩ := h
    simpa using RepT.get k h (by simpa using hk)
theorem RepT.append {w : World} {ok : Nat → Prop} {G : Nat → Option Nat} {tk : Bool} : ∀ {vs vs' : List V} {us us' : List Value}, RepT w ok G vs tk us → RepT w ok G vs' tk us' → RepT w ok G (vs ++ vs') tk (us ++ us')
  | [], vs', us, us', h, h' => by simp only [RepT] at h; subst h; simpa using h'
  | v :: vs, vs', us, us', h, h' => by
    simp only [RepT] at h
    obtain ⟨u, us1, rfl, h2, h⟩ := h
    simp only [List.cons_append, RepT]
    exact ⟨u, us1 ++ us', rfl, h2, RepT.append h h'⟩

/-- A value's cells. -/
def V.cells : V → List V
  | .agg cs => cs
  | v => [v]
/-- A value of one cell. -/
def V.one : V → Bool
  | .agg _ | .tup _ | .undef | .raw _ | .bsz _ _ => false
  | _ => true
theorem Rep.oneCell {w : World} {ok : Nat → Prop} {G : Nat → Option Nat} {tk : Bool} {v : V} {u : Value} (h : Rep w ok G v tk u) (h1 : v.one = true) : u.oneCell' = true := by
  cases v <;> simp only [Rep] at h <;> first
    | (simp [V.one] at h1; done)
    | (subst h; rfl)
    | (obtain ⟨A, rfl⟩ := h; rfl)
    | (obtain ⟨A, c, us, rfl, _⟩ := h; rfl)
    | (obtain ⟨A, us, rfl, _⟩ := h; rfl)
    | (obtain ⟨_, ⟨b, c, o', cs, ty, fr, _, rfl, _⟩ | ⟨_, _, A, rfl⟩⟩ := h <;> rfl)
    | (obtain ⟨_, b, _, rfl⟩ := h; rfl)
    | (obtain ⟨us, rfl, _⟩ := h; rfl)
/-- All the cells of a value: it is of one cell, or an aggregate. -/
def V.solid : V → Bool
  | .agg _ => true
  | v => v.one
theorem Rep.cellsL {w : World} {ok : Nat → Prop} {G : Nat → Option Nat} {tk : Bool} {v : V} {u : Value} (h : Rep w ok G v tk u) (h1 : v.solid = true) : RepL w ok G v.cells tk u.cells.toList := by
  have key : v.one = true → RepL w ok G [v] tk [u] := fun h2 => by simp only [RepL]; exact ⟨u, [], rfl, Rep.oneCell h h2, h, rfl⟩
  have hc : v.one = true → u.cells.toList = [u] := fun h2 => by
    have := Rep.oneCell h h2
    cases u <;> first | rfl | (simp [Value.oneCell'] at this)
  cases v <;> first
    | (simp only [V.cells]; rw [hc rfl]; exact key rfl)
    | (simp [V.solid, V.one] at h1; done)
    | (simp only [Rep] at h
       obtain ⟨us, rfl, h⟩ := h
       simpa [V.cells, Value.cells] using h)

mutual
/-- No block of the call's own is named. -/
def tf : V → Bool
  | .os _ _ _ _ => false
  | .rf _ _ => false
  | .bsz _ _ => false
  | .fn _ caps => tfL caps
  | .agg cs => tfL cs
  | .tup vs => tfL vs
  | _ => true
def tfL : List V → Bool
  | [] => true
  | v :: vs => tf v && tfL vs
end

mutual
theorem men_of_tf (t : Nat) : ∀ v, tf v = true → men t v = false
  | .bool _, _ => rfl
  | .int _ _, _ => rfl
  | .str _, _ => rfl
  | .z0, _ => rfl
  | .raw _, _ => rfl
  | .undef, _ => rfl
  | .sl _ _, _ => rfl
  | .fp _, _ => rfl
  | .os _ _ _ _, h => by simp [tf] at h
  | .rf _ _, h => by simp [tf] at h
  | .bsz _ _, h => by simp [tf] at h
  | .fn _ caps, h => by simpa [men] using menL_of_tf t caps (by simpa [tf] using h)
  | .agg cs, h => by simpa [men] using menL_of_tf t cs (by simpa [tf] using h)
  | .tup vs, h => by simpa [men] using menL_of_tf t vs (by simpa [tf] using h)
theorem menL_of_tf (t : Nat) : ∀ vs, tfL vs = true → menL t vs = false
  | [], _ => rfl
  | v :: vs, h => by
    simp only [tfL, Bool.and_eq_true] at h
    simp [menL, men_of_tf t v h.1, menL_of_tf t vs h.2]
end

mutual
/-- Without own blocks the flag and the naming don't matter. -/
theorem Rep.tf_any {w : World} {ok : Nat → Prop} {G G' : Nat → Option Nat} {tk tk' : Bool} : ∀ (v : V) (u : Value), tf v = true → Rep w ok G v tk u → Rep w ok G' v tk' u
  | .bool _, _, _, h => by simpa [Rep] using h
  | .int _ _, _, _, h => by simpa [Rep] using h
  | .str _, _, _, h => by simpa [Rep] using h
  | .z0, _, _, h => by simpa [Rep] using h
  | .raw _, _, _, h => by simpa [Rep] using h
  | .undef, _, _, h => by simp [Rep]
  | .sl n cs, u, _, h => by
    simp only [Rep] at h ⊢
    obtain ⟨A, c, us, h1, h2, h3, h4⟩ := h
    exact ⟨A, c, us, h1, h2, h3, RepL.mv ⟨fun _ _ => rfl, fun _ h => h, fun _ cs _ fr h => ⟨cs, fr, h, rfl⟩⟩ cs false us (fun h => by cases h) h4⟩
  | .fp cs, u, _, h => by
    simp only [Rep] at h ⊢
    obtain ⟨A, us, h1, h3, h4⟩ := h
    exact ⟨A, us, h1, h3, RepL.mv ⟨fun _ _ => rfl, fun _ h => h, fun _ cs _ fr h => ⟨cs, fr, h, rfl⟩⟩ cs false us (fun h => by cases h) h4⟩
  | .os _ _ _ _, _, ht, _ => by simp [tf] at ht
  | .rf _ _, _, ht, _ => by simp [tf] at ht
  | .bsz _ _, _, ht, _ => by simp [tf] at ht
  | .fn f caps, u, ht, h => by
    simp only [Rep] at h ⊢
    obtain ⟨us, h1, h2⟩ := h
    exact ⟨us, h1, RepT.tf_any caps us (by simpa [tf] using ht) h2⟩
  | .agg cs, u, ht, h => by
    simp only [Rep] at h ⊢
    obtain ⟨us, h1, h2⟩ := h
    exact ⟨us, h1, RepL.tf_any cs us (by simpa [tf] using ht) h2⟩
  | .tup vs, u, ht, h => by
    simp only [Rep] at h ⊢
    obtain ⟨us, h1, h2⟩ := h
    exact ⟨us, h1, RepT.tf_any vs us (by simpa [tf] using ht) h2⟩
theorem RepL.tf_any {w : World} {ok : Nat → Prop} {G G' : Nat → Option Nat} {tk tk' : Bool} : ∀ (vs : List V) (us : List Value), tfL vs = true → RepL w ok G vs tk us → RepL w ok G' vs tk' us
  | [], _, _, h => by simpa [RepL] using h
  | v :: vs, us, ht, h => by
    simp only [tfL, Bool.and_eq_true] at ht
    simp only [RepL] at h ⊢
    obtain ⟨u, us', h1, h2, h3, h4⟩ := h
    exact ⟨u, us', h1, h2, Rep.tf_any v u ht.1 h3, RepL.tf_any vs us' ht.2 h4⟩
theorem RepT.tf_any {w : World} {ok : Nat → Prop} {G G' : Nat → Option Nat} {tk tk' : Bool} : ∀ (vs : List V) (us : List Value), tfL vs = true → RepT w ok G vs tk us → RepT w ok G' vs tk' us
  | [], _, _, h => by simpa [RepT] using h
  | v :: vs, us, ht, h => by
    simp only [tfL, Bool.and_eq_true] at ht
    simp only [RepT] at h ⊢
    obtain ⟨u, us', h1, h3, h4⟩ := h
    exact ⟨u, us', h1, Rep.tf_any v u ht.1 h3, RepT.tf_any vs us' ht.2 h4⟩
end
mutual
/-- What is told without own blocks names none. -/
theorem Rep.to_true {w : World} {ok : Nat → Prop} {G G' : Nat → Option Nat} : ∀ (v : V) (u : Value), Rep w ok G v false u → Rep w ok G' v true u
  | .bool _, _, h => by simpa [Rep] using h
  | .int _ _, _, h => by simpa [Rep] using h
  | .str _, _, h => by simpa [Rep] using h
  | .z0, _, h => by simpa [Rep] using h
  | .raw _, _, h => by simpa [Rep] using h
  | .undef, _, h => by simp [Rep]
  | .sl n cs, u, h => Rep.tf_any (.sl n cs) u rfl h
  | .fp cs, u, h => Rep.tf_any (.fp cs) u rfl h
  | .os _ _ _ _, _, h => by simp [Rep] at h
  | .rf _ _, _, h => by simp [Rep] at h
  | .bsz _ _, _, h => by simp [Rep] at h
  | .fn f caps, u, h => by
    simp only [Rep] at h ⊢
    obtain ⟨us, h1, h2⟩ := h
    exact ⟨us, h1, RepT.to_true caps us h2⟩
  | .agg cs, u, h => by
    simp only [Rep] at h ⊢
    obtain ⟨us, h1, h2⟩ := h
    exact ⟨us, h1, RepL.to_true cs us h2⟩
  | .tup vs, u, h => by
    simp only [Rep] at h ⊢
    obtain ⟨us, h1, h2⟩ := h
    exact ⟨us, h1, RepT.to_true vs us h2⟩
theorem RepL.to_true {w : World} {ok : Nat → Prop} {G G' : Nat → Option Nat} : ∀ (vs : List V) (us : List Value), RepL w ok G vs false us → RepL w ok G' vs true us
  | [], _, h => by simpa [RepL] using h
  | v :: vs, us, h => by
    simp only [RepL] at h ⊢
    obtain ⟨u, us', h1, h2, h3, h4⟩ := h
    exact ⟨u, us', h1, h2, Rep.to_true v u h3, RepL.to_true vs us' h4⟩
theorem RepT.to_true {w : World} {ok : Nat → Prop} {G G' : Nat → Option Nat} : ∀ (vs : List V) (us : List Value), RepT w ok G vs false us → RepT w ok G' vs true us
  | [], _, h => by simpa [RepT] using h
  | v :: vs, us, h => by
    simp only [RepT] at h ⊢
    obtain ⟨u, us', h1, h3, h4⟩ := h
    exact ⟨u, us', h1, Rep.to_true v u h3, RepT.to_true vs us' h4⟩
end
end Go.Hg
