/- Calls that hand over blocks of the caller's own. No condition. -/
import Derived.Test.YtajlkpogccbboaaHgM
set_option linter.unusedVariables false
set_option linter.unusedSimpArgs false
namespace Go.Hg
open Go.RowKit

mutual
/-- Only these blocks are named. -/
def only (ks : List Nat) : V → Bool
  | .os t _ _ _ => memN t ks
  | .rf t _ => memN t ks
  | .bsz t _ => memN t ks
  | .fn _ caps => onlyL ks caps
  | .agg cs => onlyL ks cs
  | .tup vs => onlyL ks vs
  | _ => true
def onlyL (ks : List Nat) : List V → Bool
  | [] => true
  | v :: vs => only ks v && onlyL ks vs
end
mutual
theorem only_men {ks : List Nat} : ∀ {v : V} {t : Nat}, only ks v = true → men t v = true → t ∈ ks
  | .os t' _ _ _, t, h, hm => by simp only [men] at hm; rw [Nat.eq_of_beq_eq_true hm]; exact memN_iff.1 (by simpa [only] using h)
  | .rf t' _, t, h, hm => by simp only [men] at hm; rw [Nat.eq_of_beq_eq_true hm]; exact memN_iff.1 (by simpa [only] using h)
  | .bsz t' _, t, h, hm => by simp only [men] at hm; rw [Nat.eq_of_beq_eq_true hm]; exact memN_iff.1 (by simpa [only] using h)
  | .fn _ caps, t, h, hm => onlyL_men (vs := caps) (by simpa [only] using h) (by simpa [men] using hm)
  | .agg cs, t, h, hm => onlyL_men (vs := cs) (by simpa [only] using h) (by simpa [men] using hm)
  | .tup cs, t, h, hm => onlyL_men (vs := cs) (by simpa [only] using h) (by simpa [men] using hm)
  | .bool _, t, h, hm => by simp [men] at hm
  | .int _ _, t, h, hm => by simp [men] at hm
  | .str _, t, h, hm => by simp [men] at hm
  | .z0, t, h, hm => by simp [men] at hm
  | .sl _ _, t, h, hm => by simp [men] at hm
  | .fp _, t, h, hm => by simp [men] at hm
  | .raw _, t, h, hm => by simp [men] at hm
  | .undef, t, h, hm => by simp [men] at hm
theorem onlyL_men {ks : List Nat} : ∀ {vs : List V} {t : Nat}, onlyL ks vs = true → menL t vs = true → t ∈ ks
  | [], t, h, hm => by simp [menL] at hm
  | v :: vs, t, h, hm => by
    simp only [onlyL, Bool.and_eq_true] at h
    simp only [menL, Bool.or_eq_true] at hm
    rcases hm with hm | hm
    · exact only_men h.1 hm
    · exact onlyL_men h.2 hm
end
def onlyH (ks : List Nat) (H : Heap) : Bool := H.all fun p => match p.2 with | some (false, cs) => onlyL ks cs | _ => true
def dead (H : Heap) : Heap := H.map fun p => (p.1, none)

theorem appF_app (h : HF) : ∀ (A B : Heap), appF h (A ++ B) = appF (appF h B) A
  | [], B => rfl
  | (y, v) :: A, B => by
    funext x
    simp only [List.cons_append, appF, appF_app h A B]
theorem appF_key {h : HF} : ∀ {A : Heap} {t : Nat}, t ∈ keys A → appF h A t = hget A t
  | [], t, hk => by simp [keys] at hk
  | (y, v) :: A, t, hk => by
    simp only [appF, hget]
    cases hx : Nat.beq t y with
    | true => rfl
    | false =>
      simp only [cond_false]
      refine appF_key ?_
      simp only [keys, List.map_cons, List.mem_cons] at hk
      rcases hk with rfl | hk
      · simp at hx
      · exact hk
theorem appF_nokey {h : HF} : ∀ {A : Heap} {t : Nat}, ¬ t ∈ keys A → appF h A t = h t
  | [], t, hk => rfl
  | (y, v) :: A, t, hk => by
    simp only [keys, List.map_cons, List.mem_cons, not_or] at hk
    simp only [appF]
    cases hx : Nat.beq t y with
    | true => exact absurd (Nat.eq_of_beq_eq_true hx) hk.1
    | false => exact appF_nokey hk.2
theorem hget_nokey {A : Heap} {t : Nat} (h : ¬ t ∈ keys A) : hget A t = none := by
  have := appF_nokey (h := fun _ => none) h
  have h2 : ∀ (A : Heap), appF (fun _ => none) A = hget A := fun A => by
    funext x
    induction A with
    | nil => rfl
    | cons p A ih => obtain ⟨y, v⟩ := p; simp only [appF, hget, ih]
  rw [h2] at this
  exact this
theorem keys_dead (H : Heap) : keys (dead H) = keys H := by simp [keys, dead]
theorem hget_dead : ∀ (H : Heap) (t : Nat), hget (dead H) t = none
  | [], t => rfl
  | (y, v) :: H, t => by
    simp only [dead, List.map_cons, hget]
    cases Nat.beq t y
    · exact hget_dead H t
    · rfl

/-- The frame of such a call. -/
theorem Sim.callH {w0 : World} {F : Fr} {w : World} {ok : Nat → Prop} {G : Nat → Option Nat} {h' : HF} (hs : Sim w0 F w ok G h') {H1 H1' : Heap} (hH : ∀ t, hget H1 t = none ∨ h' t = hget H1 t) :
    Sim w ⟨ok, fun b => ∃ t, hget H1 t ≠ none ∧ G t = some b, fun _ => undef⟩ w ok G (hget H1) ∧
    ((∀ t ∈ keys H1', ∀ t' cs, ¬ t' ∈ keys H1 → ¬ t' ∈ keys H1' → h' t' = some (false, cs) → menL t cs = false) → onlyH (keys H1') H1' = true → (∀ t, t ∈ keys H1 → hget H1 t ≠ none) →
      ∀ {w' : World} {ok' : Nat → Prop} {G' : Nat → Option Nat}, Sim w ⟨ok, fun b => ∃ t, hget H1 t ≠ none ∧ G t = some b, fun _ => undef⟩ w' ok' G' (hget H1') →
        ∃ G'' : Nat → Option Nat, (∀ t ∈ keys H1', G'' t = G' t) ∧ (∀ t, ¬ t ∈ keys H1' → G'' t = G t) ∧ Sim w0 F w' ok' G'' (appF h' (H1' ++ dead H1)) ∧ WS w ok w' ∧ (∀ b, ok b → ok' b)) := by
  have tok1 : ∀ t f cs, hget H1 t = some (f, cs) → h' t = some (f, cs) := fun t f cs ht => by
    rcases hH t with h | h
    · rw [h] at ht; cases ht
    · rw [h]; exact ht
  refine ⟨⟨Kp.refl _ _, hs.okb, fun b hb => .inl hb, fun b hb => hb, fun t f cs ht => ?_, fun t t' b h1 h2 h3 h4 => ?_⟩, ?_⟩
  · rcases hs.tok t f cs (tok1 t f cs ht) with h0 | ⟨b, hb, h1, h2, h3⟩
    · exact .inl h0
    · exact .inr ⟨b, hb, .inl ⟨t, by rw [ht]; simp, hb⟩, h2, h3⟩
  · have key : ∀ t, hget H1 t ≠ none → h' t ≠ none := fun t ht => by
      rcases hH t with h | h
      · exact absurd h ht
      · rw [h]; exact ht
    exact hs.inj t t' b (key t h1) (key t' h2) h3 h4
  · intro hfr hon hsome w' ok' G' hs'
    have own1 : ∀ b, (∃ t, hget H1 t ≠ none ∧ G t = some b) → (F.mine b ∨ w0.heap.size ≤ b) ∧ ¬ ok b := by
      rintro b ⟨t, ht, hg⟩
      cases hh : hget H1 t with
      | none => exact absurd hh ht
      | some bl =>
        obtain ⟨f, cs⟩ := bl
        rcases hs.tok t f cs (tok1 t f cs hh) with h0 | ⟨b', hb', h1, h2, _⟩
        · rw [h0.1] at hg; cases hg
        · rw [hg] at hb'; injection hb' with hb'; subst hb'; exact ⟨h1, h2⟩
    have hws : WS w ok w' := ⟨fun b hb => hs'.below.block b (hs.okb b hb) fun hm => (own1 b hm).2 hb, hs'.below.siz, hs'.below.size⟩
    have hmono : ∀ b, ok b → ok' b := hs'.oko
    have hwide : ∀ b, ((∃ t, hget H1 t ≠ none ∧ G t = some b) ∨ w.heap.size ≤ b) → F.mine b ∨ w0.heap.size ≤ b := fun b hb => hb.elim (fun h => (own1 b h).1) fun h => .inr (Nat.le_trans hs.below.size h)
    refine ⟨fun t => if t ∈ keys H1' then G' t else G t, fun t ht => by simp [ht], fun t ht => by simp [ht], ?_, hws, hmono⟩
    have hin : ∀ t, t ∈ keys H1' → (fun t => if t ∈ keys H1' then G' t else G t) t = G' t := fun t ht => by simp [ht]
    have hout : ∀ t, ¬ t ∈ keys H1' → (fun t => if t ∈ keys H1' then G' t else G t) t = G t := fun t ht => by simp [ht]
    have happ : ∀ t, (t ∈ keys H1' ∧ appF h' (H1' ++ dead H1) t = hget H1' t) ∨ (¬ t ∈ keys H1' ∧ t ∈ keys H1 ∧ appF h' (H1' ++ dead H1) t = none) ∨ (¬ t ∈ keys H1' ∧ ¬ t ∈ keys H1 ∧ appF h' (H1' ++ dead H1) t = h' t) := fun t => by
      rw [appF_app]
      by_cases h1 : t ∈ keys H1'
      · exact .inl ⟨h1, appF_key h1⟩
      · rw [appF_nokey h1]
        by_cases h2 : t ∈ keys H1
        · rw [appF_key (by rw [keys_dead]; exact h2), hget_dead]
          exact .inr (.inl ⟨h1, h2, rfl⟩)
        · rw [appF_nokey (by rw [keys_dead]; exact h2)]
          exact .inr (.inr ⟨h1, h2, rfl⟩)
    generalize hG2 : (fun t => if t ∈ keys H1' then G' t else G t) = G2 at hin hout ⊢
    have old : ∀ t, ¬ t ∈ keys H1 → h' t ≠ none → ∀ b, G t = some b → b < w.heap.size ∧ ¬ (∃ t, hget H1 t ≠ none ∧ G t = some b) := fun t hk hn b hb => by
      cases hh : h' t with
      | none => exact absurd hh hn
      | some bl =>
        obtain ⟨f, cs⟩ := bl
        rcases hs.tok t f cs hh with h0 | ⟨b', hb', _, _, us, rest, ty, fr, h3, _⟩
        · rw [h0.1] at hb; cases hb
        · rw [hb] at hb'; injection hb' with hb'; subst hb'
          refine ⟨(Array.getElem?_eq_some_iff.1 h3).1, ?_⟩
          rintro ⟨t2, ht2, hg2⟩
          have hk2 : t2 ∈ keys H1 := Decidable.byContradiction fun hn2 => ht2 (hget_nokey hn2)
          have hn2 : h' t2 ≠ none := by
            rcases hH t2 with h | h
            · exact absurd h ht2
            · rw [h]; exact ht2
          exact hk (hs.inj t t2 b hn hn2 hb hg2 ▸ hk2)
    have new : ∀ t, hget H1' t ≠ none → ∀ b, G' t = some b → (∃ t, hget H1 t ≠ none ∧ G t = some b) ∨ w.heap.size ≤ b := fun t hn b hb => by
      cases hh : hget H1' t with
      | none => exact absurd hh hn
      | some bl =>
        obtain ⟨f, cs⟩ := bl
        rcases hs'.tok t f cs hh with h0 | ⟨b', hb', h1, _⟩
        · rw [h0.1] at hb; cases hb
        · rw [hb] at hb'; injection hb' with hb'; subst hb'; exact h1
    refine ⟨hs.below.then hs'.below fun b hm hlt => ((own1 b hm).1).resolve_right (by omega), hs'.okb, fun b hb => (hs'.okn b hb).elim (fun h => hs.okn b h) fun h => .inr (hwide b h), fun b hb => hmono b (hs.oko b hb), ?_, ?_⟩
    · intro t f cs ht
      rcases happ t with ⟨hk, he⟩ | ⟨_, _, he⟩ | ⟨hk, hk2, he⟩
      · rw [he] at ht
        rcases hs'.tok t f cs ht with h0 | ⟨b, hb, h1, h2, us, rest, ty, fr, h3, h4, h5⟩
        · exact .inl ⟨(hin t hk).trans h0.1, h0.2⟩
        · refine .inr ⟨b, (hin t hk).trans hb, hwide b h1, h2, us, rest, ty, fr, h3, ?_, h5⟩
          refine RepL.mv (w := w') (ok := ok') (G := G') ⟨fun _ _ => rfl, fun _ h => h, fun _ cs _ fr h => ⟨cs, fr, h, rfl⟩⟩ cs _ us (fun hf t2 ht2 => hin t2 ?_) h4
          have hf' : f = false := by simpa using hf
          subst hf'
          have hmem := hget_mem ht
          have := List.all_eq_true.1 hon _ hmem
          exact onlyL_men (by simpa using this) ht2
      · rw [he] at ht; cases ht
      · rw [he] at ht
        rcases hs.tok t f cs ht with h0 | ⟨b, hb, h1, h2, us, rest, ty, fr, h3, h4, h5⟩
        · exact .inl ⟨(hout t hk).trans h0.1, h0.2⟩
        · obtain ⟨ho1, ho2⟩ := old t hk2 (by rw [ht]; simp) b hb
          refine .inr ⟨b, (hout t hk).trans hb, h1, ?_, us, rest, ty, fr, by rw [hs'.below.block b ho1 ho2]; exact h3, ?_, h5⟩
          · intro hok
            rcases hs'.okn b hok with h6 | h6 | h6
            · exact h2 h6
            · exact ho2 h6
            · omega
          · refine RepL.mv (hws.mv hmono) cs _ us (fun hf t2 ht2 => hout t2 fun hk3 => ?_) h4
            have hf' : f = false := by simpa using hf
            subst hf'
            rw [hfr t2 hk3 t cs hk2 hk ht] at ht2
            cases ht2
    · intro t1 t2 b h1 h2 h3 h4
      rcases happ t1 with ⟨k1, e1⟩ | ⟨_, _, e1⟩ | ⟨k1, l1, e1⟩
      · rcases happ t2 with ⟨k2, e2⟩ | ⟨_, _, e2⟩ | ⟨k2, l2, e2⟩
        · rw [e1] at h1
          rw [e2] at h2
          exact hs'.inj t1 t2 b h1 h2 ((hin t1 k1).symm.trans h3) ((hin t2 k2).symm.trans h4)
        · exact absurd e2 h2
        · rw [e1] at h1
          rw [e2] at h2
          obtain ⟨ho1, ho2⟩ := old t2 l2 h2 b ((hout t2 k2).symm.trans h4)
          rcases new t1 h1 b ((hin t1 k1).symm.trans h3) with h5 | h5
          · exact absurd h5 ho2
          · omega
      · exact absurd e1 h1
      · rcases happ t2 with ⟨k2, e2⟩ | ⟨_, _, e2⟩ | ⟨k2, l2, e2⟩
        · rw [e1] at h1
          rw [e2] at h2
          obtain ⟨ho1, ho2⟩ := old t1 l1 h1 b ((hout t1 k1).symm.trans h3)
          rcases new t2 h2 b ((hin t2 k2).symm.trans h4) with h5 | h5
          · exact absurd h5 ho2
          · omega
        · exact absurd e2 h2
        · rw [e1] at h1
          rw [e2] at h2
          exact hs.inj t1 t2 b h1 h2 ((hout t1 k1).symm.trans h3) ((hout t2 k2).symm.trans h4)

section
variable {P : Program} {env : Env} {H : Heap} {d : Option Tmp} {ty : TypeId} {ps : String} {af : Array Edge} {gd : Option (Nat × Bool)}

def someAll (H : Heap) : Bool := H.all fun p => p.2.isSome
theorem someAll_get : ∀ {H : Heap}, someAll H = true → ∀ t, t ∈ keys H → hget H t ≠ none
  | [], _, t, h => by simp [keys] at h
  | (y, v) :: H, h, t, hk => by
    simp only [someAll, List.all_cons, Bool.and_eq_true] at h
    simp only [hget]
    cases hx : Nat.beq t y with
    | true => intro e; simp only [cond_true] at e; rw [e] at h; exact absurd h.1 (by simp)
    | false =>
      simp only [cond_false]
      refine someAll_get h.2 t ?_
      simp only [keys, List.map_cons, List.mem_cons] at hk
      rcases hk with rfl | hk
      · simp at hx
      · exact hk

/-- A call that takes the blocks H1 and hands back new ones. -/
theorem lop_callH {x : Operand} {args : Array Operand} {ats : Array TypeId} {g : FuncId} {caps fargs args' : List V} {v : V} {H1 H1' : Heap} {R nw : List Nat} {W : Heap} (hx : ev (get env) x = .fn g caps) (hc : ∀ args w, (callFunc g args).run P w = .ok (.enter g args) w)
    (hf : evs (get env) args.toList ++ caps = fargs) (hac : ACH P g fargs H1 v H1' args') (hH : leHeap H H1) (hsome : someAll H1 = true) (hon : onlyH (keys H1') H1' = true) (hov : only (keys H1') v = true) (hR : R = keys H1) (hnw : nw = keys H1') (hW : W = H1' ++ dead H1) :
    LOp P ⟨d, .call { callee := .value x, args := args, argTypes := ats }, ty, ps, af, gd⟩ env H R v W nw := by
  subst hR hnw hW
  intro e' h' he hRh hfr w0 ok0 sz a w hok r next Q hnx
  obtain ⟨ok, G, hs, hr, h1, h2⟩ := r
  have hops := opd_ok hok
  simp only [Op.operands, Call.operands] at hops he
  have hxr : Rep w ok G (.fn g caps) true (a.eval x) := by
    have := Rep.ev hr x (hops x (by simp))
    rwa [he x (by simp), hx] at this
  simp only [Rep] at hxr
  obtain ⟨cus, hxe, hcaps⟩ := hxr
  have hargs := reps_of hr args.toList (fun y hy => hops y (by simp at hy ⊢; exact .inr hy))
  rw [evs_congr (e' := get env) (fun y hy => he y (by simp at hy ⊢; exact .inr hy))] at hargs
  have hall := hargs.append hcaps
  rw [hf] at hall
  have hH' : ∀ t, hget H1 t = none ∨ h' t = hget H1 t := fun t => by
    by_cases hk : t ∈ keys H1
    · rcases leHeap_get hH t with h3 | h3
      · exact .inl h3
      · exact .inr ((hRh t hk).trans h3.symm)
    · exact .inl (hget_nokey hk)
  obtain ⟨hs1, hfin⟩ := hs.callH (H1' := H1') hH'
  have hex : (execOp a.eval ⟨d, .call { callee := .value x, args := args, argTypes := ats }, ty, ps, af, gd⟩).run P w = .ok (.enter g (args.toList.map a.eval ++ cus).toArray) w := by
    have : args.map a.eval ++ cus.toArray = (args.toList.map a.eval ++ cus).toArray := by
      apply Array.ext'
      simp
    simp [execOp, resolve, hxe, Deferred.ofValue, invoke, this, hc]
  unfold Oper.wp
  rw [hex]
  simp only [Oper.upon]
  refine Calls.mono (hac w ok G _ hs1 hall) ?_
  rintro e w' ⟨u, ok', G', rfl, hs', hru, _⟩
  obtain ⟨G2, hg1, hg2, hs2, hws, hmono⟩ := hfin (fun t ht t' cs hk hk' hh => (hfr t ht).2 t' cs hh (fun e => hk' (e ▸ ht))) hon (someAll_get hsome) hs'
  refine hnx _ _ (rel_put hs2 (fun z => Rep.mv (hws.mv hmono) _ _ _ (fun _ t ht => hg2 t fun hk => ?_) (hr z)) h1 h2 (dst_lt hok) ?_)
  · rw [(hfr t hk).1 z] at ht; cases ht
  · exact Rep.mv (w := w') (ok := ok') (G := G') ⟨fun _ _ => rfl, fun _ h => h, fun _ cs _ fr h => ⟨cs, fr, h, rfl⟩⟩ v true u (fun _ t ht => hg1 t (only_men hov ht)) hru

/-! ### calls that turn blocks of the caller's -/
def blank (ks : List Nat) (env : Env) : Env := env.map fun p => bif ks.any (fun t => men t p.2) then (p.1, .undef) else p
def tell : List Operand → List V → Env
  | .tmp t :: xs, v :: vs => (t, v) :: tell xs vs
  | _ :: xs, _ :: vs => tell xs vs
  | _, _ => []
theorem get_blank {ks : List Nat} : ∀ (env : Env) (x : Nat), get (blank ks env) x = .undef ∨ (get (blank ks env) x = get env x ∧ ∀ t ∈ ks, men t (get env x) = false)
  | [], x => .inl rfl
  | (y, v) :: env, x => by
    have ih := get_blank (ks := ks) env x
    simp only [blank, List.map_cons]
    cases hm : ks.any (fun t => men t v) with
    | true =>
      simp only [cond_true, get]
      cases hx : Nat.beq x y with
      | true => exact .inl rfl
      | false => exact ih
    | false =>
      simp only [cond_false, get]
      cases hx : Nat.beq x y with
      | true =>
        refine .inr ⟨rfl, fun t ht => ?_⟩
        rw [List.any_eq_false] at hm
        simpa using hm t ht
      | false => exact ih

def freshKept (ks1 ks : List Nat) (H : Heap) : Bool := H.all fun p => memN p.1 ks1 || memN p.1 ks || match p.2 with | some (false, cs) => ks.all (fun t => !menL t cs) | _ => true

theorem op_callM {S : St} {K : St → Prop} {ops : Array Oper} {rest : List Oper} {x : Operand} {args : Array Operand} {ats : Array TypeId} {g : FuncId} {caps fargs args' : List V} {v : V} {H1 H1' : Heap} (hok : opOk ⟨d, .call { callee := .value x, args := args, argTypes := ats }, ty, ps, af, none⟩ S.sz = true)
    (hx : ev (get S.env) x = .fn g caps) (hc : ∀ args w, (callFunc g args).run P w = .ok (.enter g args) w)
    (hf : evs (get S.env) args.toList ++ caps = fargs) (hac : ACH P g fargs H1 v H1' args') (hH : leHeap S.H H1) (hsome : someAll H1 = true) (hon : onlyH (keys H1') H1' = true) (hov : only (keys H1') v = true) (hoa : onlyL (keys H1') args' = true) (hfr : freshKept (keys H1) (keys H1') S.H = true)
    (hr : OpsOk P ops rest ⟨put (tell args.toList args' ++ blank (keys H1') S.env) d v, (H1' ++ dead H1) ++ S.H, S.sz⟩ K) :
    OpsOk P ops (⟨d, .call { callee := .value x, args := args, argTypes := ats }, ty, ps, af, none⟩ :: rest) S K := by
  intro w0 ok0 a w r Q hq
  unfold wpList
  rw [if_pos (by simp [Region.wanted])]
  refine .inl ?_
  obtain ⟨ok, G, hs, hrr, h1, h2⟩ := r
  have hops := opd_ok hok
  simp only [Op.operands, Call.operands] at hops
  have hxr : Rep w ok G (.fn g caps) true (a.eval x) := by
    have := Rep.ev hrr x (hops x (by simp))
    rwa [hx] at this
  simp only [Rep] at hxr
  obtain ⟨cus, hxe, hcaps⟩ := hxr
  have hargs := reps_of hrr args.toList (fun y hy => hops y (by simp at hy ⊢; exact .inr hy))
  have hall := hargs.append hcaps
  rw [hf] at hall
  have hH' : ∀ t, hget H1 t = none ∨ hget S.H t = hget H1 t := fun t => by
    rcases leHeap_get hH t with h3 | h3
    · exact .inl h3
    · exact .inr h3.symm
  obtain ⟨hs1, hfin⟩ := hs.callH (H1' := H1') hH'
  have hex : (execOp a.eval ⟨d, .call { callee := .value x, args := args, argTypes := ats }, ty, ps, af, none⟩).run P w = .ok (.enter g (args.toList.map a.eval ++ cus).toArray) w := by
    have : args.map a.eval ++ cus.toArray = (args.toList.map a.eval ++ cus).toArray := by
      apply Array.ext'
      simp
    simp [execOp, resolve, hxe, Deferred.ofValue, invoke, this, hc]
  unfold Oper.wp
  rw [hex]
  simp only [Oper.upon]
  refine Calls.mono (hac w ok G _ hs1 hall) ?_
  rintro e w' ⟨u, ok', G', rfl, hs', hru, hra⟩
  obtain ⟨G2, hg1, hg2, hs2, hws, hmono⟩ := hfin (fun t ht t' cs hk hk' hh => by
    have := List.all_eq_true.1 hfr _ (hget_mem hh)
    simp only [Bool.or_eq_true] at this
    rcases this with (h | h) | h
    · exact absurd (memN_iff.1 h) hk
    · exact absurd (memN_iff.1 h) hk'
    · simpa using List.all_eq_true.1 h t ht) hon (someAll_get hsome) hs'
  have hmv : Mv w' ok' G' w' ok' G2 := ⟨fun _ _ => rfl, fun _ h => h, fun _ cs _ fr h => ⟨cs, fr, h, rfl⟩⟩
  have hra2 : RepT w' ok' G2 args' true (args.toList.map a.eval ++ cus) := RepT.mv hmv args' true _ (fun _ t ht => hg1 t (onlyL_men hoa ht)) hra
  have htell : ∀ (xs : List Operand) (vs : List V) (cs : List Value), (∀ y ∈ xs, okOpd y = true) → RepT w' ok' G2 vs true (xs.map a.eval ++ cs) → ∀ (rest : Env) (z : Nat), Rep w' ok' G2 (get rest z) true (slot ok0 a z) → Rep w' ok' G2 (get (tell xs vs ++ rest) z) true (slot ok0 a z) := by
    intro xs
    induction xs with
    | nil => intro vs cs _ _ rest z hz; simpa [tell] using hz
    | cons y xs ih =>
      intro vs cs hy hv rest z hz
      cases vs with
      | nil => cases y <;> simpa [tell] using hz
      | cons v0 vs =>
        simp only [List.map_cons, List.cons_append, RepT] at hv
        obtain ⟨u0, us', he, hv1, hv2⟩ := hv
        injection he with he1 he2
        subst he1 he2
        have ih' := ih vs cs (fun q hq => hy q (by simp [hq])) hv2 rest z hz
        cases y with
        | tmp t =>
          simp only [tell, List.cons_append, get]
          cases hb : Nat.beq z t with
          | true =>
            have : z = t := Nat.eq_of_beq_eq_true hb
            subst this
            rw [slot_lt _ _ (by have := hy (.tmp z) (by simp); simpa [okOpd] using this)]
            exact hv1
          | false => exact ih'
        | _ => simpa [tell] using ih'
  have hr2 : RelF w0 ok0 (get (tell args.toList args' ++ blank (keys H1') S.env)) (appF (hget S.H) (H1' ++ dead H1)) S.sz a w' :=
    ⟨ok', G2, hs2, fun z => htell args.toList args' cus (fun y hy => hops y (by simp at hy ⊢; exact .inr hy)) hra2 _ z (by
      rcases get_blank (ks := keys H1') S.env z with h3 | ⟨h3, h4⟩
      · rw [h3]; simp [Rep]
      · rw [h3]
        exact Rep.mv (hws.mv hmono) _ _ _ (fun _ t ht => hg2 t fun hk => by rw [h4 t hk] at ht; cases ht) (hrr z)), h1, h2⟩
  obtain ⟨ok3, G3, hs3, hr3, h13, h23⟩ := hr2
  refine hr w0 ok0 _ w' ?_ Q hq
  unfold Rel
  rw [get_put, hget_app]
  exact rel_put hs2 (fun z => htell args.toList args' cus (fun y hy => hops y (by simp at hy ⊢; exact .inr hy)) hra2 _ z (by
      rcases get_blank (ks := keys H1') S.env z with h3 | ⟨h3, h4⟩
      · rw [h3]; simp [Rep]
      · rw [h3]
        exact Rep.mv (hws.mv hmono) _ _ _ (fun _ t ht => hg2 t fun hk => by rw [h4 t hk] at ht; cases ht) (hrr z))) h1 h2 (dst_lt hok) (Rep.mv hmv v true u (fun _ t ht => hg1 t (only_men hov ht)) hru)
end
end Go.Hg
