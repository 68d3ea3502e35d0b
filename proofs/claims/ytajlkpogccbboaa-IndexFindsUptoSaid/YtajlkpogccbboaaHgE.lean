/- Contracts of functions and calls by them. No condition. -/
import Derived.Test.YtajlkpogccbboaaHgD
set_option linter.unusedVariables false
set_option linter.unusedSimpArgs false
namespace Go.Hg
open Go.RowKit

/-- Called with what args tell (read only), the function hands back what v tells, and has turned nothing that was there. -/
def AC (P : Program) (f : FuncId) (args : List V) (v : V) : Prop :=
  ∀ (w : World) (ok : Nat → Prop) (us : List Value), (∀ b : Nat, ok b → b < w.heap.size) → RepT w ok (fun _ => none) args false us →
    Calls P f us.toArray w fun e w' => ∃ u, e = .returned u ∧ Rep w' (fun b => ok b ∨ (w.heap.size ≤ b ∧ b < w'.heap.size)) (fun _ => none) v false u ∧ Below w.heap.size w w'

/-- The same with blocks of the caller's own, that H tells; behind it H' tells what there is of them and of new ones, and args' what the arguments are. -/
def ACH (P : Program) (f : FuncId) (args : List V) (H : Heap) (v : V) (H' : Heap) (args' : List V) : Prop :=
  ∀ (w : World) (ok : Nat → Prop) (G : Nat → Option Nat) (us : List Value), Sim w ⟨ok, fun b => ∃ t, hget H t ≠ none ∧ G t = some b, fun _ => undef⟩ w ok G (hget H) → RepT w ok G args true us →
    Calls P f us.toArray w fun e w' => ∃ u ok' G', e = .returned u ∧ Sim w ⟨ok, fun b => ∃ t, hget H t ≠ none ∧ G t = some b, fun _ => undef⟩ w' ok' G' (hget H') ∧ Rep w' ok' G' v true u ∧ RepT w' ok' G' args' true us

def argEnv : Nat → List V → Env
  | _, [] => []
  | i, v :: vs => (i, v) :: argEnv (i + 1) vs

theorem argEnv_get : ∀ (i : Nat) (vs : List V) (x : Nat), (x < i → get (argEnv i vs) x = .undef) ∧ (i ≤ x → ∀ v, vs[x - i]? = some v → get (argEnv i vs) x = v) ∧ (i ≤ x → vs[x - i]? = none → get (argEnv i vs) x = .undef)
  | i, [], x => ⟨fun _ => rfl, fun _ v h => by simp at h, fun _ _ => rfl⟩
  | i, v :: vs, x => by
    obtain ⟨h1, h2, h3⟩ := argEnv_get (i + 1) vs x
    refine ⟨fun h => ?_, fun h y hy => ?_, fun h hy => ?_⟩
    · have hne : Nat.beq x i = false := by
        cases hb : Nat.beq x i with
        | false => rfl
        | true => have := Nat.eq_of_beq_eq_true hb; omega
      simp only [argEnv, get, hne, cond_false]
      exact h1 (by omega)
    · rcases Nat.lt_or_ge i x with h4 | h4
      · have hne : Nat.beq x i = false := by
          cases hb : Nat.beq x i with
          | false => rfl
          | true => have := Nat.eq_of_beq_eq_true hb; omega
        simp only [argEnv, get, hne, cond_false]
        refine h2 (by omega) y ?_
        rw [show x - i = (x - (i + 1)) + 1 by omega] at hy
        simpa using hy
      · have : x = i := by omega
        subst this
        simp at hy
        subst hy
        simp [argEnv, get]
    · rcases Nat.lt_or_ge i x with h4 | h4
      · have hne : Nat.beq x i = false := by
          cases hb : Nat.beq x i with
          | false => rfl
          | true => have := Nat.eq_of_beq_eq_true hb; omega
        simp only [argEnv, get, hne, cond_false]
        refine h3 (by omega) ?_
        rw [show x - i = (x - (i + 1)) + 1 by omega] at hy
        simpa using hy
      · have : x = i := by omega
        subst this
        simp at hy

theorem args_rep {w : World} {ok : Nat → Prop} {G : Nat → Option Nat} {args : List V} {us : List Value} (hr : RepT w ok G args true us) (n : Nat) (x : Nat) :
    Rep w ok G (get (argEnv 0 args) x) true ((us.toArray ++ Array.replicate n undef).getD x undef) := by
  obtain ⟨_, h2, h3⟩ := argEnv_get 0 args x
  cases hx : args[x]? with
  | some v =>
    rw [h2 (Nat.zero_le _) v (by simpa using hx)]
    obtain ⟨u, hu, hr⟩ := hr.get x hx
    have hlt : x < us.length := (List.getElem?_eq_some_iff.1 hu).1
    have : (us.toArray ++ Array.replicate n undef).getD x undef = u := by
      rw [Array.getD_eq_getD_getElem?, Array.getElem?_append_left (by simpa using hlt)]
      simp [hu]
    rw [this]
    exact hr
  | none =>
    rw [h3 (Nat.zero_le _) (by simpa using hx)]
    simp [Rep]

/-- A result: a slot, or a variable in a block of the call's own. -/
def ResOne (P : Program) (S : St) : ResultVar → V → Prop
  | .tmp t, v => Nat.blt t 1048576 = true ∧ get S.env t = v
  | .cell a T, v => Nat.blt a 1048576 = true ∧ ∃ t off f cs, get S.env a = .rf t off ∧ hget S.H t = some (f, cs) ∧
      ((∃ n, (∀ w, (isAgg T).run P w = .ok true w) ∧ (∀ w, (sizeOf T).run P w = .ok n w) ∧ off + n ≤ cs.length ∧ v = .agg ((cs.drop off).take n)) ∨ ((∀ w, (isAgg T).run P w = .ok false w) ∧ cs[off]? = some v))
def ResL (P : Program) (S : St) : List ResultVar → List V → Prop
  | [], vs => vs = []
  | r :: rs, vs => ∃ v vs', vs = v :: vs' ∧ ResOne P S r v ∧ ResL P S rs vs'
def theOne : List V → V
  | [v] => v
  | vs => .tup vs

def oneU : List Value → Value
  | [u] => u
  | us => .tuple us.toArray
def resOf (tmps : Array Value) : ResultVar → Sem Value
  | .tmp t => pure (tmps.getD t undef)
  | .cell a t => do loadVar t (← asAddr (tmps.getD a undef))
theorem results_eq (fn : Func) (tmps : Array Value) : results fn tmps = (do let vs ← fn.results.mapM (resOf tmps); pure (if h : vs.size = 1 then vs[0] else .tuple vs)) := rfl
theorem run_results_list {P : Program} {fn : Func} {tmps : Array Value} {w : World} {us : List Value} (h : (fn.results.toList.mapM (resOf tmps)).run P w = .ok us w) : (results fn tmps).run P w = .ok (oneU us) w := by
  rw [results_eq, Array.mapM_eq_mapM_toList]
  simp only [Sem.run_bind, Sem.run_map, h, Result.andThen_ok, Sem.run_pure]
  congr 1
  match us with
  | [] => simp [oneU]
  | [u] => simp [oneU]
  | u :: v :: us => simp [oneU]

theorem ResL.sound {P : Program} {S : St} {w0 : World} {ok0 : Fr} {w : World} {ok : Nat → Prop} {G : Nat → Option Nat} {a : Act} (hs : Sim w0 ok0 w ok G (hget S.H)) (hr : ∀ x, Rep w ok G (get S.env x) true (slot ok0 a x)) :
    ∀ {rs : List ResultVar} {vs : List V}, ResL P S rs vs → ∃ us, (rs.mapM (resOf a.tmps)).run P w = .ok us w ∧ RepT w ok G vs true us
  | [], vs, h => by
    simp only [ResL] at h
    subst h
    exact ⟨[], by simp, by simp [RepT]⟩
  | r :: rs, vs, h => by
    simp only [ResL] at h
    obtain ⟨v, vs', rfl, h1, h2⟩ := h
    obtain ⟨us, hus, hrs⟩ := ResL.sound hs hr h2
    have key : ∃ u, (resOf a.tmps r).run P w = .ok u w ∧ Rep w ok G v true u := by
      cases r with
      | tmp t => exact ⟨_, rfl, by simp only [ResOne] at h1; have h9 := hr t; rw [slot_lt _ _ h1.1, h1.2] at h9; exact h9⟩
      | cell b T =>
        simp only [ResOne] at h1
        obtain ⟨hbl, t, off, f, cs, h3, h4, h5⟩ := h1
        have hb := hr b
        rw [h3, slot_lt _ _ hbl] at hb
        simp only [Rep, true_and] at hb
        obtain ⟨g, hg, hb⟩ := hb
        obtain ⟨us1, rest, ty, fr, h6, h7⟩ : ∃ (us rest : List Value) (ty : TypeId) (fr : Nat × Nat), w.heap[g]? = some (.cells (us ++ rest).toArray ty fr) ∧ RepL w ok G cs (!f) us := by
          rcases hs.tok t f cs h4 with h0 | ⟨b', hb', _, _, us, rest, ty, fr, h6, h7, _⟩
          · rw [h0.1] at hg; cases hg
          · rw [hg] at hb'; injection hb' with hb'; subst hb'; exact ⟨us, rest, ty, fr, h6, h7⟩
        rcases h5 with ⟨n, h8, h9, h10, rfl⟩ | ⟨h8, h9⟩
        · obtain ⟨u, hu, hru⟩ := load_rf_agg (P := P) h8 h9 h6 h7 h10 rfl
          exact ⟨u, by simp only [resOf, hb, asAddr, Sem.run_bind, Sem.run_pure, Result.andThen_ok, hu], hru⟩
        · obtain ⟨u, hu, hru⟩ := load_rf_one (P := P) h8 h6 h7 h9
          exact ⟨u, by simp only [resOf, hb, asAddr, Sem.run_bind, Sem.run_pure, Result.andThen_ok, hu], hru⟩
    obtain ⟨u, hu, hru⟩ := key
    exact ⟨u :: us, by simp only [List.mapM_cons, Sem.run_bind, hu, hus, Result.andThen_ok, Sem.run_pure], by simp only [RepT]; exact ⟨u, us, rfl, hru, hrs⟩⟩

theorem RepT.theOne {w : World} {ok : Nat → Prop} {G : Nat → Option Nat} {tk : Bool} {vs : List V} {us : List Value} (h : RepT w ok G vs tk us) : Rep w ok G (theOne vs) tk (oneU us) := by
  match vs with
  | [] => simp only [RepT] at h; subst h; simp [Hg.theOne, oneU, Rep, RepT]
  | [v] =>
    simp only [RepT] at h
    obtain ⟨u, us', rfl, h1, rfl⟩ := h
    exact h1
  | v :: v' :: vs =>
    simp only [RepT] at h
    obtain ⟨u, us', rfl, h1, u', us'', rfl, h2, h3⟩ := h
    simp only [Hg.theOne, oneU, Rep, RepT]
    exact ⟨u :: u' :: us'', rfl, u, _, rfl, h1, u', us'', rfl, h2, h3⟩

/-- At the end of a function: the results, read out. -/
def RetQ (P : Program) (fn : Func) (v : V) : Exit → St → Prop := fun e S => match e with
  | .normal | .ret => ∃ vs R, ResL P S fn.results.toList vs ∧ Frz (hget S.H) R (theOne vs) v ∧ ∀ t ∈ R, hget S.H t ≠ none
  | _ => False

theorem AC.intro {P : Program} {f : FuncId} {fn : Func} {c : Code} {args : List V} {v : V} (hf : P.funcs[f]? = some fn) (hb : fn.body = some c) (hn : args.length ≤ fn.ntmps)
    (h : Ok P c ⟨argEnv 0 args, [], fn.ntmps⟩ (RetQ P fn v)) : AC P f args v := by
  intro w ok us hok hus
  refine calls_of_wp hf hb ?_
  have hus' : RepT w ok (fun _ => none) args true us := RepT.to_true _ _ hus
  have hlen := hus.length
  let F : Fr := ⟨ok, fun _ => False, fun x => (us.toArray ++ Array.replicate (fn.ntmps - us.toArray.size) undef).getD x undef⟩
  have hrel : Rel w F ⟨argEnv 0 args, [], fn.ntmps⟩ { tmps := us.toArray ++ Array.replicate (fn.ntmps - us.toArray.size) undef, defers := [] } w :=
    ⟨ok, fun _ => none, ⟨Kp.refl _ _, hok, fun b hb => .inl hb, fun b hb => hb, fun t f cs ht => by simp [hget] at ht, fun t t' b ht => by simp [hget] at ht⟩, fun x => by
      have := args_rep hus' (fn.ntmps - us.toArray.size) x
      unfold slot
      cases Nat.blt x 1048576 <;> exact this, by simp; omega, rfl⟩
  refine Code.wp_mono ?_ (h w F _ w hrel)
  rintro e a' w' ⟨S', ⟨ok', G', hs, hr, h1, h2⟩, hq⟩
  have fin : (∃ vs R, ResL P S' fn.results.toList vs ∧ Frz (hget S'.H) R (theOne vs) v ∧ ∀ t ∈ R, hget S'.H t ≠ none) → a'.defers = [] ∧ ∃ x, (results fn a'.tmps).run P w' = .ok x w' ∧ ∃ u, Ending.returned x = .returned u ∧
      Rep w' (fun b => ok b ∨ (w.heap.size ≤ b ∧ b < w'.heap.size)) (fun _ => none) v false u ∧ Below w.heap.size w w' := by
    rintro ⟨vs, R, h3, h4, h5⟩
    obtain ⟨us', h6, h7⟩ := ResL.sound (P := P) hs hr h3
    refine ⟨h2, _, run_results_list h6, _, rfl, ?_, hs.below.below⟩
    refine Rep.mv (G := fun _ => none) ⟨fun _ _ => rfl, fun b hb => ?_, fun _ cs _ fr h => ⟨cs, fr, h, rfl⟩⟩ v false _ (fun h => by cases h) (Frz.sound (hs.sees R) (G0 := fun _ => none) h4 h7.theOne)
    rcases hb with hb | ⟨t, ht, hgt⟩
    · rcases hs.okn b hb with h8 | h8 | h8
      · exact .inl h8
      · exact h8.elim
      · exact .inr ⟨h8, hs.okb b hb⟩
    · cases hh : hget S'.H t with
      | none => exact absurd hh (h5 t ht)
      | some bl =>
        obtain ⟨f', cs'⟩ := bl
        rcases hs.tok t f' cs' hh with h0 | ⟨b', hb', h8, _, us1, rest, ty, fr, h9, _⟩
        · rw [h0.1] at hgt; cases hgt
        · rw [hgt] at hb'; injection hb' with hb'; subst hb'
          exact .inr ⟨h8.resolve_left fun h => h, (Array.getElem?_eq_some_iff.1 h9).1⟩
  cases e with
  | normal => exact fin hq
  | ret => exact fin hq
  | _ => exact hq.elim

/-! ### functions that are handed blocks of the caller's own -/
theorem get_app : ∀ (l l' : Env) (x : Nat), (∀ p ∈ l, p.1 ≠ x) → get (l ++ l') x = get l' x
  | [], _, _, _ => rfl
  | (y, v) :: l, l', x, h => by
    have : Nat.beq x y = false := by
      cases hb : Nat.beq x y with
      | false => rfl
      | true => exact absurd (Nat.eq_of_beq_eq_true hb).symm (h (y, v) (by simp))
    simp only [List.cons_append, get, this, cond_false]
    exact get_app l l' x fun p hp => h p (by simp [hp])
theorem argEnv_keys : ∀ (i : Nat) (vs : List V), ∀ p ∈ argEnv i vs, i ≤ p.1 ∧ p.1 < i + vs.length
  | i, [], p, h => by simp [argEnv] at h
  | i, v :: vs, p, h => by
    simp only [argEnv, List.mem_cons] at h
    rcases h with rfl | h
    · simp
    · have := argEnv_keys (i + 1) vs p h
      simp only [List.length_cons]
      omega
theorem argEnv_app (i : Nat) (vs : List V) (l : Env) (x : Nat) (h : i ≤ x) (v : V) (hv : vs[x - i]? = some v) : get (argEnv i vs ++ l) x = v := by
  induction vs generalizing i with
  | nil => simp at hv
  | cons y ys ih =>
    simp only [argEnv, List.cons_append, get]
    rcases Nat.lt_or_ge i x with h4 | h4
    · have hne : Nat.beq x i = false := by
        cases hb : Nat.beq x i with
        | false => rfl
        | true => have := Nat.eq_of_beq_eq_true hb; omega
      rw [hne]
      refine ih (i + 1) (by omega) ?_
      rw [show x - i = (x - (i + 1)) + 1 by omega] at hv
      simpa using hv
    · have : x = i := by omega
      subst this
      simp at hv
      subst hv
      simp

/-- At the end of such a function: the result, the blocks, and the arguments as they are told then. -/
def RetH (P : Program) (fn : Func) (v : V) (H' : Heap) (args' : List V) : Exit → St → Prop := fun e S => match e with
  | .normal | .ret => ∃ vs T, Le S T ∧ ResL P T fn.results.toList vs ∧ theOne vs = v ∧ T.H = H' ∧ ∀ i v', args'[i]? = some v' → get T.env (1048576 + i) = v'
  | _ => False

theorem ACH.intro {P : Program} {f : FuncId} {fn : Func} {c : Code} {args : List V} {v : V} {H H' : Heap} {args' : List V} (hf : P.funcs[f]? = some fn) (hb : fn.body = some c) (hn : args.length ≤ fn.ntmps) (hn2 : args.length ≤ 1048576) (hn3 : args'.length = args.length)
    (h : Ok P c ⟨argEnv 0 args ++ argEnv 1048576 args, H, fn.ntmps⟩ (RetH P fn v H' args')) : ACH P f args H v H' args' := by
  intro w ok G us hsim hus
  refine calls_of_wp hf hb ?_
  have hlen := hus.length
  let F : Fr := ⟨ok, fun b => ∃ t, hget H t ≠ none ∧ G t = some b, fun x => us.getD (x - 1048576) undef⟩
  have hF : ∀ {w' : World} {ok' : Nat → Prop} {G' : Nat → Option Nat} {h' : HF} (g g' : Nat → Value), Sim w ⟨ok, fun b => ∃ t, hget H t ≠ none ∧ G t = some b, g⟩ w' ok' G' h' → Sim w ⟨ok, fun b => ∃ t, hget H t ≠ none ∧ G t = some b, g'⟩ w' ok' G' h' := fun g g' hs => ⟨hs.below, hs.okb, hs.okn, hs.oko, hs.tok, hs.inj⟩
  have hrel : Rel w F ⟨argEnv 0 args ++ argEnv 1048576 args, H, fn.ntmps⟩ { tmps := us.toArray ++ Array.replicate (fn.ntmps - us.toArray.size) undef, defers := [] } w := by
    refine ⟨ok, G, hF _ _ hsim, fun x => ?_, by simp; omega, rfl⟩
    unfold slot
    cases hx : Nat.blt x 1048576 with
    | true =>
      have hxl : x < 1048576 := Nat.le_of_ble_eq_true hx
      simp only [cond_true]
      cases hg : args[x]? with
      | some v' =>
        have h3 := args_rep hus (fn.ntmps - us.toArray.size) x
        rw [(argEnv_get 0 args x).2.1 (Nat.zero_le _) v' (by simpa using hg)] at h3
        rw [argEnv_app 0 args _ x (Nat.zero_le _) v' (by simpa using hg)]
        exact h3
      | none =>
        rw [get_app]
        · rw [(argEnv_get 1048576 args x).1 hxl]
          simp [Rep]
        · intro p hp
          have := argEnv_keys 0 args p hp
          have h4 : args.length ≤ x := by simpa using hg
          omega
    | false =>
      have hxl : 1048576 ≤ x := by
        rcases Nat.lt_or_ge x 1048576 with h4 | h4
        · have : Nat.blt x 1048576 = true := Nat.ble_eq_true_of_le h4
          rw [this] at hx; cases hx
        · exact h4
      simp only [cond_false]
      rw [get_app]
      · cases hg : args[x - 1048576]? with
        | some v' =>
          rw [(argEnv_get 1048576 args x).2.1 hxl v' hg]
          obtain ⟨u, hu, hr⟩ := hus.get _ hg
          have : us.getD (x - 1048576) undef = u := by rw [List.getD_eq_getElem?_getD, hu]; rfl
          show Rep w ok G v' true (us.getD (x - 1048576) undef)
          rw [this]
          exact hr
        | none =>
          rw [(argEnv_get 1048576 args x).2.2 hxl hg]
          simp [Rep]
      · intro p hp
        have := argEnv_keys 0 args p hp
        omega
  refine Code.wp_mono ?_ (h w F _ w hrel)
  rintro e a' w' ⟨S', hrel', hq⟩
  have fin : (∃ vs T, Le S' T ∧ ResL P T fn.results.toList vs ∧ theOne vs = v ∧ T.H = H' ∧ ∀ i v', args'[i]? = some v' → get T.env (1048576 + i) = v') → a'.defers = [] ∧ ∃ x, (results fn a'.tmps).run P w' = .ok x w' ∧ ∃ u ok' G', Ending.returned x = .returned u ∧
      Sim w ⟨ok, fun b => ∃ t, hget H t ≠ none ∧ G t = some b, fun _ => undef⟩ w' ok' G' (hget H') ∧ Rep w' ok' G' v true u ∧ RepT w' ok' G' args' true us := by
    rintro ⟨vs, T, hle, h3, rfl, rfl, h5⟩
    obtain ⟨ok', G', hs, hr, h1, h2⟩ := hle _ _ _ _ hrel'
    obtain ⟨us', h6, h7⟩ := ResL.sound (P := P) hs hr h3
    refine ⟨h2, _, run_results_list h6, _, ok', G', rfl, hF _ _ hs, h7.theOne, ?_⟩
    have key : ∀ (l : List V) (ul : List Value) (i : Nat), l.length = ul.length → (∀ k v', l[k]? = some v' → args'[i + k]? = some v') → (∀ k u, ul[k]? = some u → us[i + k]? = some u) → RepT w' ok' G' l true ul := by
      intro l
      induction l with
      | nil => intro ul i hl _ _; simp only [RepT]; exact List.eq_nil_of_length_eq_zero hl.symm
      | cons y ys ih =>
        intro ul i hl hk hu
        cases ul with
        | nil => simp at hl
        | cons u ul =>
          simp only [RepT]
          refine ⟨u, ul, rfl, ?_, ih ul (i + 1) (by simpa using hl) (fun k v' h => by have := hk (k + 1) v' (by simpa using h); rwa [show i + 1 + k = i + (k + 1) by omega]) (fun k v' h => by have := hu (k + 1) v' (by simpa using h); rwa [show i + 1 + k = i + (k + 1) by omega])⟩
          have h8 := hr (1048576 + i)
          rw [h5 i y (by simpa using hk 0 y rfl)] at h8
          have h9 : slot F a' (1048576 + i) = u := by
            unfold slot
            have : Nat.blt (1048576 + i) 1048576 = false := by
              cases hb : Nat.blt (1048576 + i) 1048576 with
              | false => rfl
              | true => have := Nat.le_of_ble_eq_true hb; omega
            rw [this]
            show us.getD (1048576 + i - 1048576) undef = u
            rw [Nat.add_sub_cancel_left, List.getD_eq_getElem?_getD, show us[i]? = some u by simpa using hu 0 u rfl]
            rfl
          rw [h9] at h8
          exact h8
    exact key args' us 0 (by rw [hn3, hlen]) (fun k v' h => by simpa using h) (fun k u h => by simpa using h)
  cases e with
  | normal => exact fin hq
  | ret => exact fin hq
  | _ => exact hq.elim

theorem At.lt {w : World} {ok : Nat → Prop} {A : Option Addr} {us : List Value} (h : At w ok A us) : At w (fun b => ok b ∧ b < w.heap.size) A us := by
  cases us with
  | nil => exact .inl rfl
  | cons u us =>
    rcases h with h | ⟨ad, h1, h2, h3⟩
    · cases h
    · exact .inr ⟨ad, h1, ⟨h2, by have := World.block_lt_of_cell? w _ (h3 0 u rfl); rwa [block_add] at this⟩, h3⟩
mutual
theorem Rep.lt {w : World} {ok : Nat → Prop} {G : Nat → Option Nat} {tk : Bool} : ∀ {v : V} {u : Value}, Rep w ok G v tk u → Rep w (fun b => ok b ∧ b < w.heap.size) G v tk u
  | .bool _, _, h => by simpa [Rep] using h
  | .int _ _, _, h => by simpa [Rep] using h
  | .str _, _, h => by simpa [Rep] using h
  | .z0, _, h => by simpa [Rep] using h
  | .raw _, _, h => by simpa [Rep] using h
  | .undef, _, h => by simp [Rep]
  | .sl n cs, u, h => by
    simp only [Rep] at h ⊢
    obtain ⟨A, c, us, h1, h2, h3, h4⟩ := h
    exact ⟨A, c, us, h1, h2, h3.lt, RepL.lt h4⟩
  | .fp cs, u, h => by
    simp only [Rep] at h ⊢
    obtain ⟨A, us, h1, h3, h4⟩ := h
    exact ⟨A, us, h1, h3.lt, RepL.lt h4⟩
  | .os _ _ _ _, _, h => by simpa only [Rep] using h
  | .rf _ _, _, h => by simpa only [Rep] using h
  | .bsz _ _, _, h => by simpa only [Rep] using h
  | .fn f caps, u, h => by
    simp only [Rep] at h ⊢
    obtain ⟨us, h1, h2⟩ := h
    exact ⟨us, h1, RepT.lt h2⟩
  | .agg cs, u, h => by
    simp only [Rep] at h ⊢
    obtain ⟨us, h1, h2⟩ := h
    exact ⟨us, h1, RepL.lt h2⟩
  | .tup vs, u, h => by
    simp only [Rep] at h ⊢
    obtain ⟨us, h1, h2⟩ := h
    exact ⟨us, h1, RepT.lt h2⟩
theorem RepL.lt {w : World} {ok : Nat → Prop} {G : Nat → Option Nat} {tk : Bool} : ∀ {vs : List V} {us : List Value}, RepL w ok G vs tk us → RepL w (fun b => ok b ∧ b < w.heap.size) G vs tk us
  | [], _, h => by simpa [RepL] using h
  | v :: vs, us, h => by
    simp only [RepL] at h ⊢
    obtain ⟨u, us', h1, h2, h3, h4⟩ := h
    exact ⟨u, us', h1, h2, Rep.lt h3, RepL.lt h4⟩
theorem RepT.lt {w : World} {ok : Nat → Prop} {G : Nat → Option Nat} {tk : Bool} : ∀ {vs : List V} {us : List Value}, RepT w ok G vs tk us → RepT w (fun b => ok b ∧ b < w.heap.size) G vs tk us
  | [], _, h => by simpa [RepT] using h
  | v :: vs, us, h => by
    simp only [RepT] at h ⊢
    obtain ⟨u, us', h1, h3, h4⟩ := h
    exact ⟨u, us', h1, Rep.lt h3, RepT.lt h4⟩
end

/-! ### calls -/
def scal : V → Bool
  | .bool _ | .int _ _ | .str _ => true
  | _ => false
def scalL : List V → Bool
  | [] => true
  | v :: vs => scal v && scalL vs
mutual
/-- Nothing of the value lies in memory. -/
def plain : V → Bool
  | .bool _ | .int _ _ | .str _ => true
  | .agg cs => plainL cs
  | .tup vs => plainL vs
  | _ => false
def plainL : List V → Bool
  | [] => true
  | v :: vs => plain v && plainL vs
end
theorem Rep.scal {w w' : World} {ok ok' : Nat → Prop} {G G' : Nat → Option Nat} {tk tk' : Bool} {v : V} {u : Value} (h : Hg.scal v = true) (hr : Rep w ok G v tk u) : Rep w' ok' G' v tk' u := by
  cases v <;> first | (simp [Hg.scal] at h; done) | (simpa [Rep] using hr)
theorem RepL.scal {w w' : World} {ok ok' : Nat → Prop} {G G' : Nat → Option Nat} {tk tk' : Bool} : ∀ {vs : List V} {us : List Value}, scalL vs = true → RepL w ok G vs tk us → RepL w' ok' G' vs tk' us
  | [], us, _, hr => by simpa [RepL] using hr
  | v :: vs, us, h, hr => by
    simp only [scalL, Bool.and_eq_true] at h
    simp only [RepL] at hr ⊢
    obtain ⟨u, us', h1, h2, h3, h4⟩ := hr
    exact ⟨u, us', h1, h2, Rep.scal h.1 h3, RepL.scal h.2 h4⟩
theorem RepT.scal {w w' : World} {ok ok' : Nat → Prop} {G G' : Nat → Option Nat} {tk tk' : Bool} : ∀ {vs : List V} {us : List Value}, scalL vs = true → RepT w ok G vs tk us → RepT w' ok' G' vs tk' us
  | [], us, _, hr => by simpa [RepT] using hr
  | v :: vs, us, h, hr => by
    simp only [scalL, Bool.and_eq_true] at h
    simp only [RepT] at hr ⊢
    obtain ⟨u, us', h1, h3, h4⟩ := hr
    exact ⟨u, us', h1, Rep.scal h.1 h3, RepT.scal h.2 h4⟩
mutual
theorem Rep.plain {w w' : World} {ok ok' : Nat → Prop} {G G' : Nat → Option Nat} {tk tk' : Bool} : ∀ {v : V} {u : Value}, Hg.plain v = true → Rep w ok G v tk u → Rep w' ok' G' v tk' u
  | .bool _, _, _, hr => by simpa [Rep] using hr
  | .int _ _, _, _, hr => by simpa [Rep] using hr
  | .str _, _, _, hr => by simpa [Rep] using hr
  | .agg cs, _, h, hr => by
    simp only [Rep] at hr ⊢
    obtain ⟨us, h1, h2⟩ := hr
    exact ⟨us, h1, RepL.plain (vs := cs) (by simpa [Hg.plain] using h) h2⟩
  | .tup vs, _, h, hr => by
    simp only [Rep] at hr ⊢
    obtain ⟨us, h1, h2⟩ := hr
    exact ⟨us, h1, RepT.plain (vs := vs) (by simpa [Hg.plain] using h) h2⟩
  | .z0, _, h, _ => by simp [Hg.plain] at h
  | .sl _ _, _, h, _ => by simp [Hg.plain] at h
  | .fp _, _, h, _ => by simp [Hg.plain] at h
  | .os _ _ _ _, _, h, _ => by simp [Hg.plain] at h
  | .rf _ _, _, h, _ => by simp [Hg.plain] at h
  | .bsz _ _, _, h, _ => by simp [Hg.plain] at h
  | .fn _ _, _, h, _ => by simp [Hg.plain] at h
  | .raw _, _, h, _ => by simp [Hg.plain] at h
  | .undef, _, h, _ => by simp [Hg.plain] at h
theorem RepL.plain {w w' : World} {ok ok' : Nat → Prop} {G G' : Nat → Option Nat} {tk tk' : Bool} : ∀ {vs : List V} {us : List Value}, plainL vs = true → RepL w ok G vs tk us → RepL w' ok' G' vs tk' us
  | [], us, _, hr => by simpa [RepL] using hr
  | v :: vs, us, h, hr => by
    simp only [plainL, Bool.and_eq_true] at h
    simp only [RepL] at hr ⊢
    obtain ⟨u, us', h1, h2, h3, h4⟩ := hr
    exact ⟨u, us', h1, h2, Rep.plain h.1 h3, RepL.plain h.2 h4⟩
theorem RepT.plain {w w' : World} {ok ok' : Nat → Prop} {G G' : Nat → Option Nat} {tk tk' : Bool} : ∀ {vs : List V} {us : List Value}, plainL vs = true → RepT w ok G vs tk us → RepT w' ok' G' vs tk' us
  | [], us, _, hr => by simpa [RepT] using hr
  | v :: vs, us, h, hr => by
    simp only [plainL, Bool.and_eq_true] at h
    simp only [RepT] at hr ⊢
    obtain ⟨u, us', h1, h3, h4⟩ := hr
    exact ⟨u, us', h1, Rep.plain h.1 h3, RepT.plain h.2 h4⟩
end

/-- The frame of a call that has turned nothing. -/
theorem Sim.below_call {w0 : World} {ok0 : Fr} {w : World} {ok : Nat → Prop} {G : Nat → Option Nat} {h : HF} (hs : Sim w0 ok0 w ok G h) {w' : World} (hb : Below w.heap.size w w') (c : Bool) :
    Sim w0 ok0 w' (fun b => ok b ∨ (c = true ∧ w.heap.size ≤ b ∧ b < w'.heap.size)) G h ∧ WS w ok w' := by
  have hlt : ∀ (b : Nat) (ob : Obj), w.heap[b]? = some ob → b < w.heap.size := fun b ob h => (Array.getElem?_eq_some_iff.1 h).1
  have hws : WS w ok w' := ⟨fun b hk => hb.block b (hs.okb b hk), fun b cs ty fr h1 => ⟨cs, fr, by rw [hb.block b (hlt _ _ h1)]; exact h1, rfl⟩, hb.size⟩
  refine ⟨⟨?_, ?_, ?_, fun b hk => .inl (hs.oko b hk), ?_, hs.inj⟩, hws⟩
  · exact hs.below.then (Kp.of_below hb (fun _ => False)) (fun _ h _ => h.elim)
  · rintro b (hk | ⟨_, _, hk⟩)
    · exact Nat.lt_of_lt_of_le (hs.okb b hk) hb.size
    · exact hk
  · rintro b (hk | ⟨_, hk, _⟩)
    · exact hs.okn b hk
    · exact .inr (.inr (Nat.le_trans hs.below.size hk))
  · intro t f cs ht
    rcases hs.tok t f cs ht with h0 | ⟨b', hb', h1, h2, us, rest, ty, fr, h3, h4, h5, h6⟩
    · exact .inl h0
    have hl := hlt _ _ h3
    refine .inr ⟨b', hb', h1, ?_, us, rest, ty, fr, by rw [hb.block _ hl]; exact h3, RepL.mv (hws.mv fun b hk => .inl hk) cs _ us (fun _ _ _ => rfl) h4, h5, h6⟩
    rintro (hk | ⟨_, hk, _⟩)
    · exact h2 hk
    · omega

def evs (e : EF) (xs : List Operand) : List V := xs.map (ev e)

section
variable {P : Program} {env : Env} {H : Heap} {d : Option Tmp} {ty : TypeId} {ps : String} {af : Array Edge} {gd : Option (Nat × Bool)}

theorem reps_of {ok0 : Fr} {w : World} {ok : Nat → Prop} {G : Nat → Option Nat} {e : EF} {a : Act} (hr : ∀ x, Rep w ok G (e x) true (slot ok0 a x)) : ∀ (xs : List Operand), (∀ x ∈ xs, okOpd x = true) → RepT w ok G (evs e xs) true (xs.map a.eval)
  | [], _ => by simp [evs, RepT]
  | x :: xs, h => by
    simp only [evs, List.map_cons, RepT]
    exact ⟨_, _, rfl, Rep.ev hr x (h x (by simp)), reps_of hr xs fun y hy => h y (by simp [hy])⟩
theorem evs_congr {e e' : EF} {xs : List Operand} (h : ∀ x ∈ xs, ev e x = ev e' x) : evs e xs = evs e' xs := List.map_congr_left h

/-- A call, by the function's contract. -/
theorem lop_call {x : Operand} {args : Array Operand} {ats : Array TypeId} {g : FuncId} {caps fargs : List V} {v : V} {R : List Nat} (hx : ev (get env) x = .fn g caps) (hc : ∀ args w, (callFunc g args).run P w = .ok (.enter g args) w)
    (hf : FrzL (hget H) R (evs (get env) args.toList ++ caps) fargs) (hR : R = [] ∨ plain v = true) (hac : AC P g fargs v) :
    LOp P ⟨d, .call { callee := .value x, args := args, argTypes := ats }, ty, ps, af, gd⟩ env H R v [] [] := by
  intro e' h' he hRh _ w0 ok0 sz a w hok r next Q hnx
  obtain ⟨ok, G, hs, hr, h1, h2⟩ := r
  have hops := opd_ok hok
  simp only [Op.operands, Call.operands] at hops he
  have hxo : okOpd x = true := hops x (by simp)
  have hxr : Rep w ok G (.fn g caps) true (a.eval x) := by
    have := Rep.ev hr x hxo
    rwa [he x (by simp), hx] at this
  simp only [Rep] at hxr
  obtain ⟨cus, hxe, hcaps⟩ := hxr
  have hargs := reps_of hr args.toList (fun y hy => hops y (by simp at hy ⊢; exact .inr hy))
  rw [evs_congr (e' := get env) (fun y hy => he y (by simp at hy ⊢; exact .inr hy))] at hargs
  have hall := hargs.append hcaps
  have hsee : SeesF w ok G (hget H) R := ⟨fun t ht f cs hc => (hs.tok t f cs ((hRh t ht).trans hc)).imp id fun ⟨b, hb, _, _, us, rest, ty, fr, h3, h4, _⟩ => ⟨b, hb, us, rest, ty, fr, h3, h4⟩⟩
  have hfr := FrzL.soundT hsee (G0 := fun _ => none) hf hall
  have hex : (execOp a.eval ⟨d, .call { callee := .value x, args := args, argTypes := ats }, ty, ps, af, gd⟩).run P w = .ok (.enter g (args.toList.map a.eval ++ cus).toArray) w := by
    have : args.map a.eval ++ cus.toArray = (args.toList.map a.eval ++ cus).toArray := by
      apply Array.ext'
      simp
    simp [execOp, resolve, hxe, Deferred.ofValue, invoke, this, hc]
  unfold Oper.wp
  rw [hex]
  simp only [Oper.upon]
  -- the blocks that the arguments lie in
  have hokR : ∃ okx : Nat → Prop, (∀ b, okx b → b < w.heap.size) ∧ RepT w okx (fun _ => none) fargs false (args.toList.map a.eval ++ cus) ∧ (R = [] → ∀ b, okx b → ok b) := by
    refine ⟨fun b => okR ok G R b ∧ b < w.heap.size, fun b hb => hb.2, ?_, ?_⟩
    · exact RepT.lt hfr
    · rintro rfl b ⟨hb | ⟨t, ht, _⟩, _⟩
      · exact hb
      · cases ht
  obtain ⟨okx, hx1, hx2, hx3⟩ := hokR
  refine Calls.mono (hac w okx _ hx1 hx2) ?_
  rintro e w' ⟨u, rfl, hru, hb⟩
  obtain ⟨hs', hws⟩ := hs.below_call hb (R.isEmpty)
  refine hnx _ _ (rel_put hs' (fun z => Rep.mv (hws.mv fun b hk => .inl hk) _ _ _ (fun _ _ _ => rfl) (hr z)) h1 h2 (dst_lt hok) ?_)
  rcases hR with rfl | hp
  · refine Rep.to_true _ _ (Rep.mv (G := fun _ => none) (G' := G) ⟨fun _ _ => rfl, ?_, fun _ cs _ fr h => ⟨cs, fr, h, rfl⟩⟩ v false u (fun h => by cases h) hru)
    rintro b (hb | hb)
    · exact .inl (hx3 rfl b hb)
    · exact .inr ⟨rfl, hb.1, hb.2⟩
  · exact Rep.plain hp hru
end
end Go.Hg
