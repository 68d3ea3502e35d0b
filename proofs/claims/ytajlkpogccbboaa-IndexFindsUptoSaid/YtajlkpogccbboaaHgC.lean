/- One operation's law in a form that holds wherever its operands and the blocks that it looks at are told alike ('LOp'), and the rules for a region's list of operations. No condition. -/
import Derived.Test.YtajlkpogccbboaaHgB
import Derived.Deep.Draws
set_option linter.unusedVariables false
set_option linter.unusedSimpArgs false
namespace Go.Hg
open Go.RowKit

/-- The name t isn't told anywhere (but as the block itself). -/
def FreshF (t : Nat) (e : EF) (h : HF) : Prop := (∀ x, men t (e x) = false) ∧ ∀ t' cs, h t' = some (false, cs) → t' ≠ t → menL t cs = false

def dstOk (o : Oper) (sz : Nat) : Bool := match o.dst with | none => true | some d => Nat.blt d sz && Nat.blt d 1048576
def opOk (o : Oper) (sz : Nat) : Bool := dstOk o sz && o.op.operands.toList.all okOpd

def LOp (P : Program) (o : Oper) (env : Env) (H : Heap) (R : List Nat) (v : V) (W : Heap) (nw : List Nat) : Prop :=
  ∀ (e' : EF) (h' : HF), (∀ x ∈ o.op.operands, ev e' x = ev (get env) x) → (∀ t ∈ R, h' t = hget H t) → (∀ t ∈ nw, FreshF t e' h') →
    ∀ w0 ok0 sz a w, opOk o sz = true → RelF w0 ok0 e' h' sz a w → ∀ (next : Act → World → Prop) (Q : Exit → Act → World → Prop),
      (∀ a' w', RelF w0 ok0 (putF e' o.dst v) (appF h' W) sz a' w' → next a' w') → o.wp P a w next Q

def freshB (t : Nat) (env : Env) (H : Heap) : Bool :=
  env.all (fun p => !men t p.2) && H.all (fun p => Nat.beq p.1 t || match p.2 with | some (false, cs) => !menL t cs | _ => true)
def freshAll (nw : List Nat) (env : Env) (H : Heap) : Bool := nw.all fun t => freshB t env H

theorem men_get {t : Nat} : ∀ {env : Env}, env.all (fun p => !men t p.2) = true → ∀ x, men t (get env x) = false
  | [], _, x => rfl
  | (y, v) :: r, h, x => by
    simp only [List.all_cons, Bool.and_eq_true] at h
    simp only [get]
    cases Nat.beq x y with
    | true => simpa using h.1
    | false => exact men_get h.2 x
theorem hget_mem : ∀ {H : Heap} {t : Nat} {b : Blk}, hget H t = some b → (t, some b) ∈ H
  | [], t, b, h => by simp [hget] at h
  | (y, v) :: r, t, b, h => by
    simp only [hget] at h
    cases hx : Nat.beq t y with
    | true =>
      have : t = y := Nat.eq_of_beq_eq_true hx
      subst this
      rw [hx] at h
      simp only [cond_true] at h
      subst h
      exact List.mem_cons_self
    | false =>
      rw [hx] at h
      exact List.mem_cons_of_mem _ (hget_mem h)
theorem fresh_of {t : Nat} {env : Env} {H : Heap} (h : freshB t env H = true) : FreshF t (get env) (hget H) := by
  simp only [freshB, Bool.and_eq_true] at h
  refine ⟨men_get h.1, fun t' cs ht hne => ?_⟩
  have hm := List.all_eq_true.1 h.2 _ (hget_mem ht)
  simp only [Bool.or_eq_true] at hm
  rcases hm with hm | hm
  · exact absurd (Nat.eq_of_beq_eq_true hm) hne
  · simpa using hm

section
variable {P : Program} {ops : Array Oper} {rest : List Oper} {S : St} {K : St → Prop} {o : Oper}

theorem ops_nil (h : K S) : OpsOk P ops [] S K := fun w0 ok0 a w r Q hq => hq a w S r h

theorem LOp.run {R : List Nat} {v : V} {W : Heap} {nw : List Nat} (h : LOp P o S.env S.H R v W nw) (hok : opOk o S.sz = true) (hf : freshAll nw S.env S.H = true)
    {w0 : World} {ok0 : Fr} {a : Act} {w : World} (r : Rel w0 ok0 S a w) {next : Act → World → Prop} {Q : Exit → Act → World → Prop}
    (hn : ∀ a' w', Rel w0 ok0 ⟨put S.env o.dst v, W ++ S.H, S.sz⟩ a' w' → next a' w') : o.wp P a w next Q :=
  h (get S.env) (hget S.H) (fun _ _ => rfl) (fun _ _ => rfl) (fun t ht => fresh_of (List.all_eq_true.1 hf t ht)) w0 ok0 S.sz a w hok r next Q fun a' w' r' =>
    hn a' w' (by unfold Rel; rw [get_put, hget_app]; exact r')

/-- An operation without a guard. -/
theorem op_seq {R : List Nat} {v : V} {W : Heap} {nw : List Nat} (hg : o.guard = none) (hok : opOk o S.sz = true) (h : LOp P o S.env S.H R v W nw) (hf : freshAll nw S.env S.H = true)
    (hr : OpsOk P ops rest ⟨put S.env o.dst v, W ++ S.H, S.sz⟩ K) : OpsOk P ops (o :: rest) S K := by
  intro w0 ok0 a w r Q hq
  unfold wpList
  rw [if_pos (by simp [Region.wanted, hg])]
  exact .inl (h.run hok hf r fun a' w' r' => hr w0 ok0 a' w' r' Q hq)

def guardSlot (ops : Array Oper) (j : Nat) : Option Nat := match (ops[j]?).bind (·.dst) with
  | some t => bif Nat.blt t 1048576 then some t else none
  | none => none
theorem guardSlot_out {ops : Array Oper} {j t : Nat} (h : guardSlot ops j = some t) : (ops[j]?).bind (·.dst) = some t ∧ Nat.blt t 1048576 = true := by
  unfold guardSlot at h
  cases hd : (ops[j]?).bind (·.dst) with
  | none => rw [hd] at h; cases h
  | some x =>
    rw [hd] at h
    simp only at h
    cases hb : Nat.blt x 1048576 with
    | true => rw [hb] at h; simp at h; subst h; exact ⟨rfl, hb⟩
    | false => rw [hb] at h; cases h
theorem slot_put_ne {F : Fr} {a : Act} {d x : Nat} {u : Value} (h : d ≠ x) : slot F (a.put (some d) u) x = slot F a x := by
  unfold slot
  cases Nat.blt x 1048576
  · rfl
  · simp [Act.put, Array.getElem?_setIfInBounds_ne h]
theorem slot_put_eq {F : Fr} {a : Act} {d : Nat} {u : Value} (h : d < a.tmps.size) (hb : Nat.blt d 1048576 = true) : slot F (a.put (some d) u) d = u := by
  rw [slot_lt _ _ hb]
  simp [Act.put, h]

theorem yielded_of {w0 : World} {ok0 : Fr} {a : Act} {w : World} {j t : Nat} {b : Bool} (r : Rel w0 ok0 S a w) (hj : guardSlot ops j = some t) (ht : get S.env t = .bool b) : yielded ops a.tmps j = some b := by
  obtain ⟨ok, G, hs, hr, h1, h2⟩ := r
  have h3 := hr t
  obtain ⟨hj, hjb⟩ := guardSlot_out hj
  rw [ht, slot_lt _ _ hjb] at h3
  simp only [Rep] at h3
  have h4 : a.tmps[t]? = some (.bool b) := by
    cases h5 : a.tmps[t]? with
    | none => simp [h5, undef] at h3
    | some u => simp [h5] at h3; rw [h3]
  unfold yielded
  rw [hj]
  simp [h4]

/-- An operation whose guard says yes. -/
theorem op_yes {R : List Nat} {v : V} {W : Heap} {nw : List Nat} {j t : Nat} {b want : Bool} (hg : o.guard = some (j, want)) (hj : guardSlot ops j = some t) (ht : get S.env t = .bool b) (hb : b = want)
    (hok : opOk o S.sz = true) (h : LOp P o S.env S.H R v W nw) (hf : freshAll nw S.env S.H = true)
    (hr : OpsOk P ops rest ⟨put S.env o.dst v, W ++ S.H, S.sz⟩ K) : OpsOk P ops (o :: rest) S K := by
  intro w0 ok0 a w r Q hq
  unfold wpList
  rw [if_pos (by simp [Region.wanted, hg, yielded_of r hj ht, hb])]
  exact .inl (h.run hok hf r fun a' w' r' => hr w0 ok0 a' w' r' Q hq)

theorem rel_put_undef {w0 : World} {ok0 : Fr} {a : Act} {w : World} (r : Rel w0 ok0 S a w) (dst : Option Nat) : Rel w0 ok0 ⟨put S.env dst .undef, S.H, S.sz⟩ (a.put dst undef) w := by
  obtain ⟨ok, G, hs, hr, h1, h2⟩ := r
  cases dst with
  | none => exact ⟨ok, G, hs, hr, h1, h2⟩
  | some d =>
    refine ⟨ok, G, hs, fun x => ?_, by simpa [Act.put] using h1, by simpa [Act.put] using h2⟩
    simp only [put, get]
    cases hx : Nat.beq x d with
    | true => simp [Rep]
    | false =>
      have : d ≠ x := fun e => by subst e; simp at hx
      rw [slot_put_ne this]
      simpa using hr x

/-- An operation whose guard says no. -/
theorem op_no {j t : Nat} {b want : Bool} (hg : o.guard = some (j, want)) (hj : guardSlot ops j = some t) (ht : get S.env t = .bool b) (hb : b = !want)
    (hr : OpsOk P ops rest ⟨put S.env o.dst .undef, S.H, S.sz⟩ K) : OpsOk P ops (o :: rest) S K := by
  intro w0 ok0 a w r Q hq
  unfold wpList
  rw [if_neg (by simp [Region.wanted, hg, yielded_of r hj ht, hb])]
  exact hr w0 ok0 _ w (rel_put_undef r o.dst) Q hq

/-- Less is told from here on. -/
theorem ops_le {l : List Oper} {T : St} (hl : Le S T) (h : OpsOk P ops l T K) : OpsOk P ops l S K := fun w0 ok0 a w r => h w0 ok0 a w (hl _ _ _ _ r)

theorem ok_region {id : Nat} {Q : Exit → St → Prop} (h : OpsOk P ops ops.toList S (Q .normal)) : Ok P (.region id ops false) S Q :=
  fun w0 ok0 a w r => wp_region_list (h w0 ok0 a w r _ fun a' w' S' r' hk => ⟨S', r', hk⟩)
/-- A region and what stands behind it. -/
theorem ok_reg {id : Nat} {y : Code} {Q : Exit → St → Prop} (h : OpsOk P ops ops.toList S (fun S' => Ok P y S' Q)) : Ok P (.seq (.region id ops false) y) S Q :=
  ok_seq (ok_region h)
end

/-! ### the laws of single operations: what they have in common -/
section
variable {P : Program} {o : Oper} {env : Env} {H : Heap} {v : V}

theorem rel_put {w0 : World} {ok0 : Fr} {e : EF} {h : HF} {sz : Nat} {a : Act} {w : World} {ok : Nat → Prop} {G : Nat → Option Nat} {u : Value} {dst : Option Nat}
    (hs : Sim w0 ok0 w ok G h) (hr : ∀ x, Rep w ok G (e x) true (slot ok0 a x)) (h1 : a.tmps.size = sz) (h2 : a.defers = []) (hd : ∀ d, dst = some d → d < sz ∧ Nat.blt d 1048576 = true) (hu : Rep w ok G v true u) :
    RelF w0 ok0 (putF e dst v) h sz (a.put dst u) w := by
  cases dst with
  | none => exact ⟨ok, G, hs, hr, h1, h2⟩
  | some d =>
    refine ⟨ok, G, hs, fun x => ?_, by simpa [Act.put] using h1, by simpa [Act.put] using h2⟩
    simp only [putF]
    cases hx : Nat.beq x d with
    | true =>
      have : x = d := Nat.eq_of_beq_eq_true hx
      subst this
      have hlt : x < a.tmps.size := by rw [h1]; exact (hd x rfl).1
      rw [slot_put_eq hlt (hd x rfl).2]
      simpa using hu
    | false =>
      have : d ≠ x := fun e => by subst e; simp at hx
      rw [slot_put_ne this]
      simpa using hr x

theorem dst_lt {sz : Nat} (h : opOk o sz = true) : ∀ d, o.dst = some d → d < sz ∧ Nat.blt d 1048576 = true := by
  simp only [opOk, Bool.and_eq_true, dstOk] at h
  intro d hd
  rw [hd] at h
  have h1 := h.1
  simp only [Bool.and_eq_true] at h1
  exact ⟨Nat.le_of_ble_eq_true h1.1, h1.2⟩
theorem opd_ok {sz : Nat} (h : opOk o sz = true) : ∀ x ∈ o.op.operands, okOpd x = true := by
  simp only [opOk, Bool.and_eq_true] at h
  intro x hx
  exact List.all_eq_true.1 h.2 x (by simpa using hx)

/-- An operation that hands back a value and leaves the world alone, whatever blocks there are. -/
theorem lop_pure (h : ∀ (w : World) (ok : Nat → Prop) (G : Nat → Option Nat) (ρ : Operand → Value), (∀ x ∈ o.op.operands, Rep w ok G (ev (get env) x) true (ρ x)) → ∃ u, (execOp ρ o).run P w = .ok (.value u) w ∧ Rep w ok G v true u) :
    LOp P o env H [] v [] [] := by
  intro e' h' he _ _ w0 ok0 sz a w hok r next Q hn
  obtain ⟨ok, G, hs, hr, h1, h2⟩ := r
  obtain ⟨u, hrun, hu⟩ := h w ok G a.eval fun x hx => by rw [← he x hx]; exact Rep.ev hr x (opd_ok hok x hx)
  unfold Oper.wp
  rw [hrun]
  exact hn _ _ (rel_put hs hr h1 h2 (dst_lt hok) hu)
/-- The same, the world having drawn. -/
theorem Sim.drew {w0 : World} {ok0 : Fr} {w : World} {ok : Nat → Prop} {G : Nat → Option Nat} {h : HF} (hs : Sim w0 ok0 w ok G h) : Sim w0 ok0 w.drew ok G h :=
  ⟨hs.below.drew, hs.okb, hs.okn, hs.oko, fun t f cs ht => by
    rcases hs.tok t f cs ht with h0 | ⟨b, hb, h1, h2, us, rest, ty, fr, h3, h4, h5, h6⟩
    · exact .inl h0
    exact .inr ⟨b, hb, h1, h2, us, rest, ty, fr, h3, RepL.mv (w := w) (ok := ok) (G := G) (w' := w.drew) ⟨fun _ _ => rfl, fun _ h => h, fun _ cs _ fr h => ⟨cs, fr, h, rfl⟩⟩ cs _ us (fun _ _ _ => rfl) h4, h5, h6⟩, hs.inj⟩
theorem Sim.drewN {w0 : World} {ok0 : Fr} {w : World} {ok : Nat → Prop} {G : Nat → Option Nat} {h : HF} (hs : Sim w0 ok0 w ok G h) : ∀ n, Sim w0 ok0 (w.drewN n) ok G h
  | 0 => hs
  | n + 1 => by rw [← World.drew_drewN]; exact (Sim.drewN hs n).drew
theorem mv_drewN (w : World) (ok : Nat → Prop) (G : Nat → Option Nat) (n : Nat) : Mv w ok G (w.drewN n) ok G := ⟨fun _ _ => rfl, fun _ h => h, fun _ cs _ fr h => ⟨cs, fr, h, rfl⟩⟩

/-- What an operation that looks at blocks may use. -/
structure Sees (w : World) (ok : Nat → Prop) (G : Nat → Option Nat) (H : Heap) (R : List Nat) : Prop where
  tok : ∀ t ∈ R, ∀ (f : Bool) (cs : List V), hget H t = some (f, cs) → (G t = none ∧ cs = []) ∨ ∃ b, G t = some b ∧ ∃ (us rest : List Value) (ty : TypeId) (fr : Nat × Nat),
    w.heap[b]? = some (.cells (us ++ rest).toArray ty fr) ∧ RepL w ok G cs (!f) us ∧ (∀ u ∈ rest, u.oneCell' = true) ∧ (fr.2 ≤ fr.1 ∨ (us ++ rest).length ≤ fr.1)
theorem lop_read {R : List Nat} (h : ∀ (w : World) (ok : Nat → Prop) (G : Nat → Option Nat) (ρ : Operand → Value), Sees w ok G H R → (∀ x ∈ o.op.operands, Rep w ok G (ev (get env) x) true (ρ x)) → ∃ u, (execOp ρ o).run P w = .ok (.value u) w ∧ Rep w ok G v true u) :
    LOp P o env H R v [] [] := by
  intro e' h' he hR _ w0 ok0 sz a w hok r next Q hn
  obtain ⟨ok, G, hs, hr, h1, h2⟩ := r
  obtain ⟨u, hrun, hu⟩ := h w ok G a.eval ⟨fun t ht f cs hc => (hs.tok t f cs ((hR t ht).trans hc)).imp id fun ⟨b, hb, _, _, h⟩ => ⟨b, hb, h⟩⟩ fun x hx => by rw [← he x hx]; exact Rep.ev hr x (opd_ok hok x hx)
  unfold Oper.wp
  rw [hrun]
  exact hn _ _ (rel_put hs hr h1 h2 (dst_lt hok) hu)

theorem WS.mv {w w' : World} {ok ok' : Nat → Prop} {G G' : Nat → Option Nat} (h : WS w ok w') (hk : ∀ b, ok b → ok' b) : Mv w ok G w' ok' G' := ⟨h.okk, hk, h.siz⟩

theorem ws_alloc (w : World) (ok : Nat → Prop) (hok : ∀ b, ok b → b < w.heap.size) (ob : Obj) : WS w ok (w.alloc ob) :=
  ⟨fun b hb => heap_alloc_old w ob b (hok b hb), fun b cs ty fr hb => ⟨cs, fr, by
    rw [heap_alloc_old w ob b (Array.getElem?_eq_some_iff.1 hb).1]; exact hb, rfl⟩, by simp⟩

/-- A new block, named t. -/
theorem Sim.alloc {w0 : World} {ok0 : Fr} {w : World} {ok : Nat → Prop} {G : Nat → Option Nat} {h : HF} {e : EF} (hs : Sim w0 ok0 w ok G h) {t : Nat} (hf : FreshF t e h)
    (us rest : List Value) (ty : TypeId) (fr : Nat × Nat) (f : Bool) (cs : List V) (hc : RepL w ok G cs (!f) us) (hm : f = false → menL t cs = false) (h1 : ∀ u ∈ rest, u.oneCell' = true) (hfr : fr.2 ≤ fr.1 ∨ (us ++ rest).length ≤ fr.1) :
    let G' := fun x => if x = t then some w.heap.size else G x
    let w' := w.alloc (.cells (us ++ rest).toArray ty fr)
    Sim w0 ok0 w' ok G' (appF h [(t, some (f, cs))]) ∧ WS w ok w' ∧ (∀ (v : V) (u : Value), men t v = false → Rep w ok G v true u → Rep w' ok G' v true u) := by
  intro G' w'
  have hws : WS w ok w' := ws_alloc w ok hs.okb _
  have hmv : Mv w ok G w' ok G' := hws.mv fun _ h => h
  have hG : ∀ t', t' ≠ t → G' t' = G t' := fun t' ht => by simp [G', ht]
  refine ⟨⟨hs.below.alloc _, fun b hb => by have := hs.okb b hb; simp [w']; omega, hs.okn, hs.oko, ?_, ?_⟩, hws, ?_⟩
  · intro t' f' cs' ht'
    simp only [appF] at ht'
    cases hx : Nat.beq t' t with
    | true =>
      have : t' = t := Nat.eq_of_beq_eq_true hx
      subst this
      rw [hx] at ht'
      simp only [cond_true, Option.some.injEq, Prod.mk.injEq] at ht'
      obtain ⟨rfl, rfl⟩ := ht'
      have hgt : G' t' = some w.heap.size := by simp [G']
      refine .inr ⟨_, hgt, .inr hs.below.size, fun hk => by have := hs.okb _ hk; omega, us, rest, ty, fr, heap_alloc_new w _, ?_, h1, hfr⟩
      refine RepL.mv hmv cs _ us (fun hb t2 ht2 => hG t2 ?_) hc
      rintro rfl
      rw [hm (by simpa using hb)] at ht2
      cases ht2
    | false =>
      have hne : t' ≠ t := fun e => by subst e; simp at hx
      rw [hx] at ht'
      simp only [cond_false] at ht'
      rcases hs.tok t' f' cs' ht' with h0 | ⟨b, hb, h2, h3, us', rest', ty', fr', h4, h5, h6, h7⟩
      · exact .inl ⟨(hG t' hne).trans h0.1, h0.2⟩
      refine .inr ⟨b, (hG t' hne).trans hb, h2, h3, us', rest', ty', fr', ?_, ?_, h6, h7⟩
      · rw [heap_alloc_old w _ _ (Array.getElem?_eq_some_iff.1 h4).1]; exact h4
      · refine RepL.mv hmv cs' _ us' (fun hb t2 ht2 => hG t2 ?_) h5
        rintro rfl
        rw [hf.2 t' cs' (by rw [ht']; congr; simpa using hb) hne] at ht2
        cases ht2
  · have key : ∀ x, x ≠ t → appF h [(t, some (f, cs))] x ≠ none → h x ≠ none := fun x hx hn => by
      simp only [appF] at hn
      cases hb : Nat.beq x t with
      | true => exact absurd (Nat.eq_of_beq_eq_true hb) hx
      | false => rw [hb] at hn; simpa using hn
    have lt : ∀ x b, h x ≠ none → G x = some b → b < w.heap.size := fun x b hx hb => by
      cases hh : h x with
      | none => exact absurd hh hx
      | some bl =>
        obtain ⟨f', cs'⟩ := bl
        rcases hs.tok x f' cs' hh with h0 | ⟨b', hb', _, _, us', rest', ty', fr', h4, _⟩
        · rw [h0.1] at hb; cases hb
        · rw [hb] at hb'
          injection hb' with hb'
          subst hb'
          exact (Array.getElem?_eq_some_iff.1 h4).1
    intro t1 t2 b h1 h2 he1 he2
    simp only [G'] at he1 he2
    by_cases e1 : t1 = t
    · by_cases e2 : t2 = t
      · rw [e1, e2]
      · rw [if_neg e2] at he2
        rw [if_pos e1] at he1
        have hx := lt t2 b (key t2 e2 h2) he2
        injection he1 with he1
        omega
    · by_cases e2 : t2 = t
      · rw [if_neg e1] at he1
        rw [if_pos e2] at he2
        have hx := lt t1 b (key t1 e1 h1) he1
        injection he2 with he2
        omega
      · rw [if_neg e1] at he1
        rw [if_neg e2] at he2
        exact hs.inj t1 t2 b (key t1 e1 h1) (key t2 e2 h2) he1 he2
  · intro v u hv hr
    refine Rep.mv hmv v true u (fun _ t2 ht2 => hG t2 ?_) hr
    rintro rfl
    rw [hv] at ht2
    cases ht2

/-- An operation that makes a block, named t. -/
theorem lop_alloc {t : Nat} {f : Bool} {cs : List V} (h : ∀ (w : World) (ok : Nat → Prop) (G : Nat → Option Nat) (ρ : Operand → Value), (∀ x ∈ o.op.operands, Rep w ok G (ev (get env) x) true (ρ x)) →
      ∃ (u : Value) (us rest : List Value) (ty : TypeId) (fr : Nat × Nat) (n : Nat), (execOp ρ o).run P w = .ok (.value u) ((w.drewN n).alloc (.cells (us ++ rest).toArray ty fr)) ∧ RepL w ok G cs (!f) us ∧ (∀ u ∈ rest, u.oneCell' = true) ∧ (fr.2 ≤ fr.1 ∨ (us ++ rest).length ≤ fr.1) ∧
        ∀ (w' : World) (G' : Nat → Option Nat), w'.heap[w.heap.size]? = some (.cells (us ++ rest).toArray ty fr) → G' t = some w.heap.size → Rep w' ok G' v true u)
    (hm : f = false → menL t cs = false) : LOp P o env H [] v [(t, some (f, cs))] [t] := by
  intro e' h' he _ hfr w0 ok0 sz a w hok r next Q hn
  obtain ⟨ok, G, hs, hr, h1, h2⟩ := r
  obtain ⟨u, us, rest, ty, fr, n, hrun, hc, hone, hfz, hu⟩ := h w ok G a.eval fun x hx => by rw [← he x hx]; exact Rep.ev hr x (opd_ok hok x hx)
  have hf := hfr t (by simp)
  obtain ⟨hs', hws, hmv⟩ := (hs.drewN n).alloc hf us rest ty fr f cs (RepL.mv (mv_drewN w ok G n) cs _ us (fun _ _ _ => rfl) hc) hm hone hfz
  unfold Oper.wp
  rw [hrun]
  refine hn _ _ (rel_put hs' (fun x => hmv _ _ (hf.1 x) (Rep.mv (mv_drewN w ok G n) _ _ _ (fun _ _ _ => rfl) (hr x))) h1 h2 (dst_lt hok) (hu _ _ ?_ ?_))
  · exact heap_alloc_new (w.drewN n) _
  · simp
end
end Go.Hg
