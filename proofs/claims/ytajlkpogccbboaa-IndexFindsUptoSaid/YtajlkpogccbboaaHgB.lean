/- States told by abstract values, how they stand to the model's frames and worlds, and the rules for code: sequence, test, block, loop, scope. No condition. -/
import Derived.Test.YtajlkpogccbboaaHgA
set_option linter.unusedVariables false
set_option linter.unusedSimpArgs false
namespace Go.Hg
open Go.RowKit

/-- A block's cells; the flag: none of them names a block of the call's own. -/
abbrev Blk := Bool × List V
abbrev HF := Nat → Option Blk
abbrev EF := Nat → V
abbrev Env := List (Nat × V)
abbrev Heap := List (Nat × Option Blk)

def get : Env → EF
  | [], _ => .undef
  | (y, v) :: r, x => bif Nat.beq x y then v else get r x
def hget : Heap → HF
  | [], _ => none
  | (y, v) :: r, x => bif Nat.beq x y then v else hget r x

def putF (e : EF) (dst : Option Nat) (v : V) : EF := match dst with | none => e | some d => fun x => bif Nat.beq x d then v else e x
def put (env : Env) (dst : Option Nat) (v : V) : Env := match dst with | none => env | some d => (d, v) :: env
theorem get_put (env : Env) (dst : Option Nat) (v : V) : get (put env dst v) = putF (get env) dst v := by
  cases dst <;> rfl
def appF (h : HF) : Heap → HF
  | [], x => h x
  | (y, v) :: r, x => bif Nat.beq x y then v else appF h r x
theorem hget_app (H W : Heap) : hget (W ++ H) = appF (hget H) W := by
  funext x
  induction W with
  | nil => rfl
  | cons p W ih => obtain ⟨y, v⟩ := p; simp only [List.cons_append, hget, appF, ih]

/-- What a run is asked to leave alone: what is told read-only, which old blocks are its own, and values that it is told of and never touches. -/
structure Fr where
  ok : Nat → Prop
  mine : Nat → Prop
  gh : Nat → Value

/-- A slot's value; from 1048576 on: the values that stand beside. -/
def slot (F : Fr) (a : Act) (x : Nat) : Value := bif Nat.blt x 1048576 then a.tmps.getD x undef else F.gh x
theorem slot_lt (F : Fr) (a : Act) {x : Nat} (h : Nat.blt x 1048576 = true) : slot F a x = a.tmps.getD x undef := by unfold slot; rw [h]; rfl

/-- Nothing but what is the run's own has turned. -/
structure Kp (w0 : World) (mine : Nat → Prop) (w : World) : Prop where
  os : w.os = w0.os
  tape : w.tape = w0.tape
  output : w.output = w0.output
  size : w0.heap.size ≤ w.heap.size
  block : ∀ k, k < w0.heap.size → ¬ mine k → w.heap[k]? = w0.heap[k]?
  siz : ∀ (b : Nat) (cs : Array Value) (ty : TypeId) (fr : Nat × Nat), w0.heap[b]? = some (.cells cs ty fr) → ∃ cs' fr', w.heap[b]? = some (.cells cs' ty fr') ∧ cs'.size = cs.size
theorem Kp.refl (w : World) (m : Nat → Prop) : Kp w m w := ⟨rfl, rfl, rfl, Nat.le_refl _, fun _ _ _ => rfl, fun _ cs _ fr h => ⟨cs, fr, h, rfl⟩⟩
theorem Kp.then {w0 w w' : World} {m m' : Nat → Prop} (h : Kp w0 m w) (k : Kp w m' w') (hm : ∀ b, m' b → b < w0.heap.size → m b) : Kp w0 m w' :=
  ⟨k.os.trans h.os, k.tape.trans h.tape, k.output.trans h.output, Nat.le_trans h.size k.size, fun b hb hn => (k.block b (Nat.lt_of_lt_of_le hb h.size) fun hx => hn (hm b hx hb)).trans (h.block b hb hn), fun b cs ty fr hx => by
    obtain ⟨cs', fr', h1, h2⟩ := h.siz b cs ty fr hx
    obtain ⟨cs'', fr'', h3, h4⟩ := k.siz b cs' ty fr' h1
    exact ⟨cs'', fr'', h3, h4.trans h2⟩⟩
theorem Kp.drew {w0 w : World} {m : Nat → Prop} (h : Kp w0 m w) : Kp w0 m w.drew := ⟨h.os, h.tape, h.output, h.size, h.block, h.siz⟩
theorem Kp.of_below {w w' : World} (h : Below w.heap.size w w') (m : Nat → Prop) : Kp w m w' := ⟨h.os, h.tape, h.output, h.size, fun b hb _ => h.block b hb, fun b cs ty fr hx => ⟨cs, fr, by rw [h.block b (Array.getElem?_eq_some_iff.1 hx).1]; exact hx, rfl⟩⟩
theorem Kp.alloc {w0 w : World} {m : Nat → Prop} (h : Kp w0 m w) (ob : Obj) : Kp w0 m (w.alloc ob) :=
  h.then (m' := fun _ => False) (Kp.of_below (w := w) (w' := w.alloc ob) ⟨rfl, rfl, rfl, by simp, fun b hb => Below.heap_alloc w ob b hb⟩ _) (fun _ h _ => h.elim)
theorem Kp.below {w w' : World} (h : Kp w (fun _ => False) w') : Below w.heap.size w w' := ⟨h.os, h.tape, h.output, h.size, fun b hb => h.block b hb fun h => h⟩

structure Sim (w0 : World) (ok0 : Fr) (w : World) (ok : Nat → Prop) (G : Nat → Option Nat) (h : HF) : Prop where
  below : Kp w0 ok0.mine w
  okb : ∀ b : Nat, ok b → b < w.heap.size
  okn : ∀ b : Nat, ok b → ok0.ok b ∨ ok0.mine b ∨ w0.heap.size ≤ b
  oko : ∀ b : Nat, ok0.ok b → ok b
  tok : ∀ (t : Nat) (f : Bool) (cs : List V), h t = some (f, cs) → (G t = none ∧ cs = []) ∨ ∃ b, G t = some b ∧ (ok0.mine b ∨ w0.heap.size ≤ b) ∧ ¬ ok b ∧ ∃ (us rest : List Value) (ty : TypeId) (fr : Nat × Nat),
    w.heap[b]? = some (.cells (us ++ rest).toArray ty fr) ∧ RepL w ok G cs (!f) us ∧ (∀ u ∈ rest, u.oneCell' = true) ∧ (fr.2 ≤ fr.1 ∨ (us ++ rest).length ≤ fr.1)
  inj : ∀ t t' b : Nat, h t ≠ none → h t' ≠ none → G t = some b → G t' = some b → t = t'

def RelF (w0 : World) (ok0 : Fr) (e : EF) (h : HF) (sz : Nat) (a : Act) (w : World) : Prop :=
  ∃ ok G, Sim w0 ok0 w ok G h ∧ (∀ x, Rep w ok G (e x) true (slot ok0 a x)) ∧ a.tmps.size = sz ∧ a.defers = []

structure St where
  env : Env
  H : Heap
  sz : Nat

def Rel (w0 : World) (ok0 : Fr) (S : St) (a : Act) (w : World) : Prop := RelF w0 ok0 (get S.env) (hget S.H) S.sz a w

/-- From a state told by S the code comes to an exit and a state of which Q holds. -/
def Ok (P : Program) (c : Code) (S : St) (Q : Exit → St → Prop) : Prop :=
  ∀ w0 ok0 a w, Rel w0 ok0 S a w → c.wp P (fun e a' w' => ∃ S', Rel w0 ok0 S' a' w' ∧ Q e S') a w

/-- The same of a list of operations of a region. -/
def OpsOk (P : Program) (ops : Array Oper) (l : List Oper) (S : St) (K : St → Prop) : Prop :=
  ∀ w0 ok0 a w, Rel w0 ok0 S a w → ∀ Q : Exit → Act → World → Prop, (∀ a' w' S', Rel w0 ok0 S' a' w' → K S' → Q .normal a' w') → wpList P ops Q l a w

/-- T tells less than S. -/
def Le (S T : St) : Prop := ∀ w0 ok0 a w, Rel w0 ok0 S a w → Rel w0 ok0 T a w
theorem Le.refl (S : St) : Le S S := fun _ _ _ _ h => h
theorem Le.trans {S T U : St} (h : Le S T) (k : Le T U) : Le S U := fun _ _ _ _ r => k _ _ _ _ (h _ _ _ _ r)

theorem RelF.weak {w0 : World} {ok0 : Fr} {e e' : EF} {h h' : HF} {sz : Nat} {a : Act} {w : World} (r : RelF w0 ok0 e h sz a w)
    (he : ∀ x, e' x = .undef ∨ e' x = e x) (hh : ∀ t, h' t = none ∨ h' t = h t) : RelF w0 ok0 e' h' sz a w := by
  obtain ⟨ok, G, hs, hr, h1, h2⟩ := r
  refine ⟨ok, G, ⟨hs.below, hs.okb, hs.okn, hs.oko, fun t f cs ht => ?_, fun t t' b ht ht' => ?_⟩, fun x => ?_, h1, h2⟩
  · rcases hh t with h3 | h3
    · rw [h3] at ht; cases ht
    · exact hs.tok t f cs (h3 ▸ ht)
  · have key : ∀ t, h' t ≠ none → h t ≠ none := fun t ht => by
      rcases hh t with h3 | h3
      · exact absurd h3 ht
      · rwa [← h3]
    exact hs.inj t t' b (key t ht) (key t' ht')
  · rcases he x with h3 | h3
    · rw [h3]; simp [Rep]
    · rw [h3]; exact hr x

/-- What a list of slots says is what an environment says. -/
def leEnv (env : Env) : Env → Prop
  | [] => True
  | (x, v) :: r => get env x = v ∧ leEnv env r
theorem leEnv_get {env : Env} : ∀ {env' : Env}, leEnv env env' → ∀ x, get env' x = .undef ∨ get env' x = get env x
  | [], _, x => .inl rfl
  | (y, v) :: r, h, x => by
    simp only [get]
    cases hx : Nat.beq x y with
    | true =>
      have : x = y := Nat.eq_of_beq_eq_true hx
      subst this
      exact .inr h.1.symm
    | false => exact leEnv_get h.2 x
def leHeap (H : Heap) : Heap → Prop
  | [] => True
  | (t, b) :: r => (b = none ∨ hget H t = b) ∧ leHeap H r
theorem leHeap_get {H : Heap} : ∀ {H' : Heap}, leHeap H H' → ∀ t, hget H' t = none ∨ hget H' t = hget H t
  | [], _, t => .inl rfl
  | (y, v) :: r, h, t => by
    simp only [hget]
    cases hx : Nat.beq t y with
    | true =>
      have : t = y := Nat.eq_of_beq_eq_true hx
      subst this
      rcases h.1 with h1 | h1
      · exact .inl h1
      · exact .inr h1.symm
    | false => exact leHeap_get h.2 t
theorem le_mk {S T : St} (he : leEnv S.env T.env) (hh : leHeap S.H T.H) (hs : S.sz = T.sz) : Le S T := fun w0 ok0 a w r => by
  have := RelF.weak r (e' := get T.env) (h' := hget T.H) (leEnv_get he) (leHeap_get hh)
  rw [hs] at this
  exact this

/-! ### code -/
section
variable {P : Program} {S : St} {Q : Exit → St → Prop}

def thenQ (K : St → Prop) (Q : Exit → St → Prop) : Exit → St → Prop
  | .normal, S => K S
  | e, S => Q e S
def blockQ (id : Nat) (Q : Exit → St → Prop) : Exit → St → Prop
  | .exit id', S => bif Nat.beq id' id then Q .normal S else Q (.exit id') S
  | e, S => Q e S

theorem Ok.mono {c : Code} {Q' : Exit → St → Prop} (h : Ok P c S Q) (hq : ∀ e S, Q e S → Q' e S) : Ok P c S Q' :=
  fun w0 ok0 a w r => Code.wp_mono (fun e a w ⟨S', h1, h2⟩ => ⟨S', h1, hq _ _ h2⟩) (h w0 ok0 a w r)
theorem Ok.le {c : Code} {T : St} (hl : Le S T) (h : Ok P c T Q) : Ok P c S Q := fun w0 ok0 a w r => h w0 ok0 a w (hl _ _ _ _ r)

theorem ok_skip (h : Q .normal S) : Ok P .skip S Q := fun w0 ok0 a w r => wp_skip ⟨S, r, h⟩
theorem ok_label {l : Nat} (h : Q .normal S) : Ok P (.label l) S Q := fun w0 ok0 a w r => wp_label ⟨S, r, h⟩
theorem ok_exit {id : Nat} (h : Q (.exit id) S) : Ok P (.exit id) S Q := fun w0 ok0 a w r => wp_exit ⟨S, r, h⟩
theorem ok_goto {l : Nat} (h : Q (.goto l) S) : Ok P (.goto l) S Q := fun w0 ok0 a w r => wp_goto ⟨S, r, h⟩
theorem ok_ret (h : Q .ret S) : Ok P .ret S Q := fun w0 ok0 a w r => wp_ret ⟨S, r, h⟩

theorem ok_seq {x y : Code} (h : Ok P x S (thenQ (fun S' => Ok P y S' Q) Q)) : Ok P (.seq x y) S Q := by
  intro w0 ok0 a w r
  refine wp_seq (Code.wp_mono ?_ (h w0 ok0 a w r))
  rintro e a' w' ⟨S', hr, hq⟩
  cases e <;> first
    | exact hq w0 ok0 a' w' hr
    | exact ⟨S', hr, hq⟩

/-- The same, what stands between told by a family of states. -/
theorem ok_seq_cut {ι : Type} (I : ι → St) {x y : Code} (h : Ok P x S (thenQ (fun S' => ∃ i, Le S' (I i)) Q)) (hy : ∀ i, Ok P y (I i) Q) : Ok P (.seq x y) S Q :=
  ok_seq (h.mono fun e S' hq => by
    cases e <;> first
      | (obtain ⟨i, hi⟩ := hq; exact Ok.le hi (hy i))
      | exact hq)

theorem ok_block {id : Nat} {c : Code} (h : Ok P c S (blockQ id Q)) : Ok P (.block id c) S Q := by
  intro w0 ok0 a w r
  refine wp_block (Code.wp_mono ?_ (h w0 ok0 a w r))
  rintro e a' w' ⟨S', hr, hq⟩
  cases e with
  | exit id' =>
    simp only [blockQ] at hq
    simp only [Exit.inBlock]
    split
    · rename_i he
      have : Nat.beq id' id = true := by rw [he]; simp
      rw [this] at hq; exact ⟨S', hr, hq⟩
    · rename_i he
      have : Nat.beq id' id = false := by
        cases hb : Nat.beq id' id with
        | false => rfl
        | true => exact absurd (Nat.eq_of_beq_eq_true hb) he
      rw [this] at hq; exact ⟨S', hr, hq⟩
  | _ => exact ⟨S', hr, hq⟩

/-- What an operand says. -/
def ofCell : Value → V
  | .bool b => .bool b
  | .int k n => .int k n
  | .string s => .str s
  | .slice none 0 0 => .z0
  | u => .raw u
def ofC : Value → V
  | .agg cs => .agg (cs.toList.map ofCell)
  | u => ofCell u
def ev (e : EF) : Operand → V
  | .tmp t => e t
  | .const c => ofC c
  | .func f => .fn f []
  | .global g => .raw (.pointer (some ⟨g, 0, none⟩))

theorem Rep.ofCell {w : World} {ok : Nat → Prop} {G : Nat → Option Nat} {tk : Bool} (u : Value) : Rep w ok G (ofCell u) tk u := by
  unfold Hg.ofCell
  split <;> simp [Rep]
/-- Is each cell of an aggregate constant of one cell? -/
def okC : Value → Bool
  | .agg cs => cs.toList.all (·.oneCell')
  | _ => true
theorem Rep.ofC {w : World} {ok : Nat → Prop} {G : Nat → Option Nat} {tk : Bool} (u : Value) (h : okC u = true) : Rep w ok G (ofC u) tk u := by
  cases u with
  | agg cs =>
    simp only [Hg.ofC, Rep]
    refine ⟨cs.toList, by simp, ?_⟩
    simp only [okC] at h
    generalize cs.toList = l at h ⊢
    induction l with
    | nil => simp [RepL]
    | cons u l ih =>
      simp only [List.all_cons, Bool.and_eq_true] at h
      simp only [List.map_cons, RepL]
      exact ⟨u, l, rfl, h.1, Rep.ofCell u, ih h.2⟩
  | _ => simp only [Hg.ofC]; exact Rep.ofCell _
/-- No constant of a form that isn't told. -/
def okOpd : Operand → Bool
  | .tmp t => Nat.blt t 1048576
  | .const c => okC c
  | _ => true
theorem Rep.ev {ok0 : Fr} {w : World} {ok : Nat → Prop} {G : Nat → Option Nat} {e : EF} {a : Act} (h : ∀ x, Rep w ok G (e x) true (slot ok0 a x)) (x : Operand) (hx : okOpd x = true) : Rep w ok G (ev e x) true (a.eval x) := by
  cases x with
  | tmp t => have := h t; rw [slot_lt ok0 a hx] at this; exact this
  | const c => exact Rep.ofC c hx
  | global g => simp [Hg.ev, Rep, Act.eval]
  | func f => simp [Hg.ev, Rep, RepT, Act.eval]

theorem ok_cond {c : Operand} {x y : Code} {b : Bool} (ho : okOpd c = true) (hc : ev (get S.env) c = .bool b) (ht : b = true → Ok P x S Q) (hf : b = false → Ok P y S Q) : Ok P (.cond c x y) S Q := by
  intro w0 ok0 a w r
  obtain ⟨ok, G, hs, hr, h1, h2⟩ := r
  have hv : a.eval c = .bool b := by
    have := Rep.ev hr c ho
    rw [hc] at this
    simpa [Rep] using this
  exact wp_cond_split hv (fun h => ht h w0 ok0 a w ⟨ok, G, hs, hr, h1, h2⟩) (fun h => hf h w0 ok0 a w ⟨ok, G, hs, hr, h1, h2⟩)
theorem ok_if {c : Operand} {x y : Code} (p : Prop) [Decidable p] (ho : okOpd c = true) (hc : ev (get S.env) c = .bool (decide p)) (ht : p → Ok P x S Q) (hf : ¬ p → Ok P y S Q) : Ok P (.cond c x y) S Q :=
  ok_cond ho hc (fun h => ht (of_decide_eq_true h)) (fun h => hf (of_decide_eq_false h))
theorem ok_true {c : Operand} {x y : Code} (ho : okOpd c = true) (hc : ev (get S.env) c = .bool true) (ht : Ok P x S Q) : Ok P (.cond c x y) S Q := ok_cond ho hc (fun _ => ht) (fun h => by cases h)
theorem ok_false {c : Operand} {x y : Code} (ho : okOpd c = true) (hc : ev (get S.env) c = .bool false) (ht : Ok P y S Q) : Ok P (.cond c x y) S Q := ok_cond ho hc (fun h => by cases h) (fun _ => ht)

/-- A loop: at its head the state is told by I i; a round ends at I j, j less than i. -/
theorem ok_loop {ι : Type} (I : ι → St) (μ : ι → Nat) (i : ι) (h0 : Le S (I i)) {c : Code}
    (round : ∀ i, Ok P c (I i) (thenQ (fun S' => ∃ j, μ j < μ i ∧ Le S' (I j)) Q)) : Ok P (.loop c) S Q := by
  intro w0 ok0 a w r
  have key : ∀ n i, μ i = n → ∀ a w, Rel w0 ok0 (I i) a w → ∀ (b : Frame) (k : List Item) (cs : List Frame), ∃ e a' w', (∃ S', Rel w0 ok0 S' a' w' ∧ Q e S') ∧ Arrives P (lone (b.at a (.code c :: .inLoop c :: k)) cs w) b k cs e a' w' := by
    intro n
    induction n using Nat.strongRecOn with
    | _ n ih =>
      intro i hi a w r b k cs
      obtain ⟨e, a1, w1, ⟨S', hr, hq⟩, harr⟩ := round i w0 ok0 a w r b (.inLoop c :: k) cs
      cases e with
      | normal =>
        obtain ⟨j, hj, hle⟩ := hq
        obtain ⟨e2, a2, w2, hq2, harr2⟩ := ih (μ j) (hi ▸ hj) j rfl a1 w1 (hle _ _ _ _ hr) b k cs
        exact ⟨e2, a2, w2, hq2, .of_steps (Steps.trans harr (.one step_inLoop)) harr2⟩
      | exit id => exact ⟨_, a1, w1, ⟨S', hr, hq⟩, .pass (x := .inLoop c) rfl (fun _ _ => .inl (by simp)) harr⟩
      | goto l => exact ⟨_, a1, w1, ⟨S', hr, hq⟩, .pass (x := .inLoop c) rfl (fun _ _ => .inl (by simp)) harr⟩
      | ret => exact ⟨_, a1, w1, ⟨S', hr, hq⟩, .pass (x := .inLoop c) rfl (fun _ _ => .inl (by simp)) harr⟩
      | panic ch => exact ⟨_, a1, w1, ⟨S', hr, hq⟩, .pass (x := .inLoop c) rfl (fun _ _ => .inl (by simp)) harr⟩
      | outgrown => exact ⟨_, a1, w1, ⟨S', hr, hq⟩, .pass (x := .inLoop c) rfl (fun _ _ => .inl (by simp)) harr⟩
  intro b k cs
  obtain ⟨e, a1, w1, hq, harr⟩ := key _ i rfl a w (h0 _ _ _ _ r) b k cs
  exact ⟨e, a1, w1, hq, .of_steps (.one step_loop) harr⟩

/-- A scope in which the run jumps back to one label. -/
theorem ok_scope {ι : Type} {c rest : Code} (l : Nat) (hf : findLabel c l = some rest) (I : ι → St) (μ : ι → Nat)
    (first : Ok P c S (fun e S' => match e with | .goto l' => l' = l ∧ ∃ j, Le S' (I j) | e => Q e S'))
    (pass : ∀ i, Ok P rest (I i) (fun e S' => match e with | .goto l' => l' = l ∧ ∃ j, μ j < μ i ∧ Le S' (I j) | e => Q e S')) : Ok P (.scope c) S Q := by
  intro w0 ok0 a w r b k cs
  have hg : gotoIn l (.inScope c :: k) = some (.code rest :: .inScope c :: k) := by simp [gotoIn, hf]
  have key : ∀ n i, μ i = n → ∀ a w, Rel w0 ok0 (I i) a w → ∃ e a' w', (∃ S', Rel w0 ok0 S' a' w' ∧ Q e S') ∧ Arrives P (lone (b.at a (.code rest :: .inScope c :: k)) cs w) b k cs e a' w' := by
    intro n
    induction n using Nat.strongRecOn with
    | _ n ih =>
      intro i hi a w r
      obtain ⟨e, a1, w1, ⟨S', hr, hq⟩, harr⟩ := pass i w0 ok0 a w r b (.inScope c :: k) cs
      cases e with
      | normal => exact ⟨.normal, a1, w1, ⟨S', hr, hq⟩, Steps.trans harr (.one step_inScope)⟩
      | exit id => exact ⟨.exit id, a1, w1, ⟨S', hr, hq⟩, fun k' hk => harr k' (by simp [exitTo, hk])⟩
      | goto l' =>
        obtain ⟨rfl, j, hlt, hle⟩ := hq
        obtain ⟨e2, a2, w2, hq2, harr2⟩ := ih _ (hi ▸ hlt) j rfl a1 w1 (hle _ _ _ _ hr)
        exact ⟨e2, a2, w2, hq2, .of_steps (harr _ hg) harr2⟩
      | ret => exact ⟨_, a1, w1, ⟨S', hr, hq⟩, harr⟩
      | panic ch => exact ⟨_, a1, w1, ⟨S', hr, hq⟩, harr⟩
      | outgrown => exact ⟨_, a1, w1, ⟨S', hr, hq⟩, harr⟩
  obtain ⟨e, a1, w1, ⟨S', hr, hq⟩, harr⟩ := first w0 ok0 a w r b (.inScope c :: k) cs
  cases e with
  | normal => exact ⟨.normal, a1, w1, ⟨S', hr, hq⟩, .head step_scope (Steps.trans harr (.one step_inScope))⟩
  | exit id => exact ⟨.exit id, a1, w1, ⟨S', hr, hq⟩, fun k' hk => .head step_scope (harr k' (by simp [exitTo, hk]))⟩
  | goto l' =>
    obtain ⟨rfl, j, hle⟩ := hq
    obtain ⟨e2, a2, w2, hq2, harr2⟩ := key _ j rfl a1 w1 (hle _ _ _ _ hr)
    exact ⟨e2, a2, w2, hq2, .of_steps (.head step_scope (harr _ hg)) harr2⟩
  | ret => exact ⟨_, a1, w1, ⟨S', hr, hq⟩, .of_steps (.one step_scope) harr⟩
  | panic ch => exact ⟨_, a1, w1, ⟨S', hr, hq⟩, .of_steps (.one step_scope) harr⟩
  | outgrown => exact ⟨_, a1, w1, ⟨S', hr, hq⟩, .of_steps (.one step_scope) harr⟩
end
end Go.Hg
