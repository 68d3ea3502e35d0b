/- Calls that turn a block of the caller's in place; its name stays. No condition. -/
import Derived.Test.YtajlkpogccbboaaHgW
set_option linter.unusedVariables false
set_option linter.unusedSimpArgs false
namespace Go.Hg
open Go.RowKit

def ACHk (P : Program) (f : FuncId) (args : List V) (t : Nat) (fl : Bool) (cs : List V) (v : V) (fl' : Bool) (cs' : List V) : Prop :=
  ∀ (w : World) (ok : Nat → Prop) (G : Nat → Option Nat) (us : List Value), Sim w ⟨ok, fun b => ∃ t', hget [(t, some (fl, cs))] t' ≠ none ∧ G t' = some b, fun _ => undef⟩ w ok G (hget [(t, some (fl, cs))]) → G t ≠ none → RepT w ok G args true us →
    Calls P f us.toArray w fun e w' => ∃ u ok' G', e = .returned u ∧ Sim w ⟨ok, fun b => ∃ t', hget [(t, some (fl, cs))] t' ≠ none ∧ G t' = some b, fun _ => undef⟩ w' ok' G' (hget [(t, some (fl', cs'))]) ∧ Rep w' ok' G' v true u ∧ G' t = G t

def RetK (P : Program) (fn : Func) (v : V) (t : Nat) (fl' : Bool) (cs' : List V) : Exit → St → Prop := fun e S => match e with
  | .normal | .ret => ∃ vs T, Le S T ∧ ResL P T fn.results.toList vs ∧ theOne vs = v ∧ T.H = [(t, some (fl', cs'))] ∧ get T.env 1048576 = .rf t 0
  | _ => False

theorem ACHk.intro {P : Program} {f : FuncId} {fn : Func} {c : Code} {args : List V} {v : V} {t : Nat} {fl fl' : Bool} {cs cs' : List V} (hf : P.funcs[f]? = some fn) (hb : fn.body = some c) (hn : args.length ≤ fn.ntmps) (hn2 : args.length ≤ 1048576)
    (h : Ok P c ⟨argEnv 0 args ++ [(1048576, .rf t 0)], [(t, some (fl, cs))], fn.ntmps⟩ (RetK P fn v t fl' cs')) : ACHk P f args t fl cs v fl' cs' := by
  intro w ok G us hsim hgt hus
  obtain ⟨b, hb0⟩ : ∃ b, G t = some b := by
    cases hg : G t with
    | none => exact absurd hg hgt
    | some b => exact ⟨b, rfl⟩
  refine calls_of_wp hf hb ?_
  have hlen := hus.length
  let F : Fr := ⟨ok, fun b => ∃ t', hget [(t, some (fl, cs))] t' ≠ none ∧ G t' = some b, fun _ => .pointer (some ⟨b, 0, none⟩)⟩
  have hF : ∀ {w' : World} {ok' : Nat → Prop} {G' : Nat → Option Nat} {h' : HF} (g g' : Nat → Value), Sim w ⟨ok, fun b => ∃ t', hget [(t, some (fl, cs))] t' ≠ none ∧ G t' = some b, g⟩ w' ok' G' h' → Sim w ⟨ok, fun b => ∃ t', hget [(t, some (fl, cs))] t' ≠ none ∧ G t' = some b, g'⟩ w' ok' G' h' := fun g g' hs => ⟨hs.below, hs.okb, hs.okn, hs.oko, hs.tok, hs.inj⟩
  have hrel : Rel w F ⟨argEnv 0 args ++ [(1048576, .rf t 0)], [(t, some (fl, cs))], fn.ntmps⟩ { tmps := us.toArray ++ Array.replicate (fn.ntmps - us.toArray.size) undef, defers := [] } w := by
    refine ⟨ok, G, hF _ _ hsim, fun x => ?_, by simp; omega, rfl⟩
    unfold slot
    cases hx : Nat.blt x 1048576 with
    | true =>
      have hxl : x < 1048576 := Nat.le_of_ble_eq_true hx
      simp only [cond_true]
      cases hg : args[x]? with
      | some v' =>
        have h3 := args_rep hus (fn.ntmps - us.toArray.size) x
        rw [(argEnv_get 0 args x).2.1 (Nat.zero_le _) v' (by simpa using hg)] at h3
        rw [argEnv_app 0 args _ x (Nat.zero_le _) v' (by simpa using hg)]
        exact h3
      | none =>
        rw [get_app]
        · simp only [get]
          have : Nat.beq x 1048576 = false := by
            cases hbq : Nat.beq x 1048576 with
            | false => rfl
            | true => have := Nat.eq_of_beq_eq_true hbq; omega
          rw [this]
          simp [Rep]
        · intro p hp
          have := argEnv_keys 0 args p hp
          have h4 : args.length ≤ x := by simpa using hg
          omega
    | false =>
      have hxl : 1048576 ≤ x := by
        rcases Nat.lt_or_ge x 1048576 with h4 | h4
        · have : Nat.blt x 1048576 = true := Nat.ble_eq_true_of_le h4
          rw [this] at hx; cases hx
        · exact h4
      simp only [cond_false]
      rw [get_app]
      · simp only [get]
        cases hbq : Nat.beq x 1048576 with
        | true => simp only [cond_true, Rep, true_and]; exact ⟨b, hb0, rfl⟩
        | false => simp [Rep]
      · intro p hp
        have := argEnv_keys 0 args p hp
        omega
  refine Code.wp_mono ?_ (h w F _ w hrel)
  rintro e a' w' ⟨S', hrel', hq⟩
  have fin : (∃ vs T, Le S' T ∧ ResL P T fn.results.toList vs ∧ theOne vs = v ∧ T.H = [(t, some (fl', cs'))] ∧ get T.env 1048576 = .rf t 0) → a'.defers = [] ∧ ∃ x, (results fn a'.tmps).run P w' = .ok x w' ∧ ∃ u ok' G', Ending.returned x = .returned u ∧
      Sim w ⟨ok, fun b => ∃ t', hget [(t, some (fl, cs))] t' ≠ none ∧ G t' = some b, fun _ => undef⟩ w' ok' G' (hget [(t, some (fl', cs'))]) ∧ Rep w' ok' G' v true u ∧ G' t = G t := by
    rintro ⟨vs, T, hle, h3, rfl, h4, h5⟩
    obtain ⟨ok', G', hs, hr, h1, h2⟩ := hle _ _ _ _ hrel'
    obtain ⟨us', h6, h7⟩ := ResL.sound (P := P) hs hr h3
    rw [h4] at hs
    refine ⟨h2, _, run_results_list h6, _, ok', G', rfl, hF _ _ hs, h7.theOne, ?_⟩
    have h8 := hr 1048576
    rw [h5] at h8
    have h9 : slot F a' 1048576 = .pointer (some ⟨b, 0, none⟩) := rfl
    rw [h9] at h8
    simp only [Rep, true_and] at h8
    obtain ⟨b', hb', he⟩ := h8
    injection he with he
    injection he with he
    injection he with he _ _
    rw [hb', hb0, he]
  cases e with
  | normal => exact fin hq
  | ret => exact fin hq
  | _ => exact hq.elim

section
variable {P : Program} {d : Option Tmp} {ty : TypeId} {ps : String} {af : Array Edge}
theorem op_callK {S : St} {K : St → Prop} {ops : Array Oper} {rest : List Oper} {x : Operand} {args : Array Operand} {ats : Array TypeId} {g : FuncId} {caps fargs : List V} {v : V} {t : Nat} {fl fl' : Bool} {cs cs' : List V} (hok : opOk ⟨d, .call { callee := .value x, args := args, argTypes := ats }, ty, ps, af, none⟩ S.sz = true)
    (hx : ev (get S.env) x = .fn g caps) (hc : ∀ args w, (callFunc g args).run P w = .ok (.enter g args) w)
    (hf : evs (get S.env) args.toList ++ caps = fargs) (hac : ACHk P g fargs t fl cs v fl' cs') (hH : hget S.H t = some (fl, cs)) (hne : cs ≠ []) (hon : onlyH [t] [(t, some (fl', cs'))] = true) (hov : only [t] v = true) (hfr : freshKept [t] [t] S.H = true)
    (hr : OpsOk P ops rest ⟨put S.env d v, (t, some (fl', cs')) :: S.H, S.sz⟩ K) :
    OpsOk P ops (⟨d, .call { callee := .value x, args := args, argTypes := ats }, ty, ps, af, none⟩ :: rest) S K := by
  intro w0 ok0 a w r Q hq
  unfold wpList
  rw [if_pos (by simp [Region.wanted])]
  refine .inl ?_
  obtain ⟨ok, G, hs, hrr, h1, h2⟩ := r
  have hops := opd_ok hok
  simp only [Op.operands, Call.operands] at hops
  have hxr : Rep w ok G (.fn g caps) true (a.eval x) := by
    have := Rep.ev hrr x (hops x (by simp))
    rwa [hx] at this
  simp only [Rep] at hxr
  obtain ⟨cus, hxe, hcaps⟩ := hxr
  have hargs := reps_of hrr args.toList (fun y hy => hops y (by simp at hy ⊢; exact .inr hy))
  have hall := hargs.append hcaps
  rw [hf] at hall
  have hG : G t ≠ none := by
    rcases hs.tok t fl cs hH with h3 | ⟨b, hb, _⟩
    · exact absurd h3.2 hne
    · rw [hb]; simp
  have hH' : ∀ t', hget [(t, some (fl, cs))] t' = none ∨ hget S.H t' = hget [(t, some (fl, cs))] t' := fun t' => by
    simp only [hget]
    cases hbq : Nat.beq t' t with
    | true => right; rw [Nat.eq_of_beq_eq_true hbq, hH]; rfl
    | false => left; rfl
  obtain ⟨hs1, hfin⟩ := hs.callH (H1' := [(t, some (fl', cs'))]) hH'
  have hex : (execOp a.eval ⟨d, .call { callee := .value x, args := args, argTypes := ats }, ty, ps, af, none⟩).run P w = .ok (.enter g (args.toList.map a.eval ++ cus).toArray) w := by
    have : args.map a.eval ++ cus.toArray = (args.toList.map a.eval ++ cus).toArray := by
      apply Array.ext'
      simp
    simp [execOp, resolve, hxe, Deferred.ofValue, invoke, this, hc]
  unfold Oper.wp
  rw [hex]
  simp only [Oper.upon]
  refine Calls.mono (hac w ok G _ hs1 hG hall) ?_
  rintro e w' ⟨u, ok', G', rfl, hs', hru, hgt⟩
  obtain ⟨G2, hg1, hg2, hs2, hws, hmono⟩ := hfin (fun t1 ht t' cs hk hk' hh => by
    have := List.all_eq_true.1 hfr _ (hget_mem hh)
    simp only [Bool.or_eq_true] at this
    have e1 : t1 = t := by simpa [keys] using ht
    subst e1
    rcases this with (h | h) | h
    · exact absurd (memN_iff.1 h) hk
    · exact absurd (memN_iff.1 h) hk'
    · simpa using h) hon (by intro t1 h1; simp [keys] at h1; subst h1; simp [hget]) hs'
  have hG2 : ∀ z, G2 z = G z := fun z => by
    by_cases hz : z = t
    · subst hz; rw [hg1 z (by simp [keys]), hgt]
    · exact hg2 z (by simpa [keys] using hz)
  refine hr w0 ok0 _ w' ?_ Q hq
  unfold Rel
  have hh : appF (hget S.H) ([(t, some (fl', cs'))] ++ dead [(t, some (fl, cs))]) = hget ((t, some (fl', cs')) :: S.H) := by
    funext z
    simp only [List.cons_append, List.nil_append, dead, List.map_cons, List.map_nil, appF, hget]
    cases Nat.beq z t <;> rfl
  rw [hh] at hs2
  rw [get_put]
  exact rel_put hs2 (fun z => Rep.mv (hws.mv hmono) _ _ _ (fun _ t1 _ => hG2 t1) (hrr z)) h1 h2 (dst_lt hok) (Rep.mv (w := w') (ok := ok') (G := G') ⟨fun _ _ => rfl, fun _ h => h, fun _ cs _ fr h => ⟨cs, fr, h, rfl⟩⟩ v true u (fun _ t1 ht => hg1 t1 (by have := only_men hov ht; simpa [keys] using this)) hru)
end
/-- The tail of a row is forgotten. -/
theorem le_take {env : Env} {H : Heap} {sz t k : Nat} {f : Bool} {cs cs' : List V} (hH : hget H t = some (f, cs)) (hc : cs.take k = cs') : Le ⟨env, H, sz⟩ ⟨env, (t, some (f, cs')) :: H, sz⟩ := by
  subst hc
  rintro w0 ok0 a w ⟨ok, G, hs, hr, h1, h2⟩
  refine ⟨ok, G, ?_, hr, h1, h2⟩
  refine ⟨hs.below, hs.okb, hs.okn, hs.oko, ?_, ?_⟩
  · intro t2 f2 cs2 h3
    simp only [hget] at h3
    cases hx2 : Nat.beq t2 t with
    | true =>
      have : t2 = t := Nat.eq_of_beq_eq_true hx2
      subst this
      simp only [hx2, cond_true, Option.some.injEq, Prod.mk.injEq] at h3
      obtain ⟨rfl, rfl⟩ := h3
      rcases hs.tok t2 f cs hH with h4 | ⟨b, hb, h5, h6, us, rest, ty, fr, h7, h8, h9, h10⟩
      · exact .inl ⟨h4.1, by rw [h4.2]; simp⟩
      · refine .inr ⟨b, hb, h5, h6, us.take k, us.drop k ++ rest, ty, fr, by rw [← List.append_assoc, List.take_append_drop]; exact h7, h8.take k, ?_, by rw [← List.append_assoc, List.take_append_drop]; exact h10⟩
        intro u hu
        rcases List.mem_append.1 hu with hu | hu
        · exact h8.one u (List.mem_of_mem_drop hu)
        · exact h9 u hu
    | false =>
      rw [hx2] at h3
      exact hs.tok t2 f2 cs2 (by simpa using h3)
  · intro a1 b1 c1 ha hb1
    refine hs.inj a1 b1 c1 ?_ ?_
    · simp only [hget] at ha
      cases hx : Nat.beq a1 t with
      | true => rw [Nat.eq_of_beq_eq_true hx]; show hget H t ≠ none; rw [hH]; simp
      | false => rw [hx] at ha; simpa using ha
    · simp only [hget] at hb1
      cases hx : Nat.beq b1 t with
      | true => rw [Nat.eq_of_beq_eq_true hx]; show hget H t ≠ none; rw [hH]; simp
      | false => rw [hx] at hb1; simpa using hb1
/-- Cells that follow told ones are written over. -/
theorem vs_app {X Y ys : List V} {off : Nat} (h : X.length = off) : vsplice (X ++ Y) off ys = X ++ ys ++ Y.drop ys.length := by
  subst h
  unfold vsplice
  rw [List.take_append_of_le_length (Nat.le_refl _), List.take_length, List.drop_append, List.drop_of_length_le (by omega), List.nil_append, Nat.add_sub_cancel_left]
section
variable {P : Program} {ops : Array Oper} {rest : List Oper} {env : Env} {H : Heap} {sz : Nat} {K : St → Prop} {S0 : St} {acc : List Rec} {d : Nat} {op : Op} {ty : TypeId} {ps : String} {af : Array Edge} {R nw : List Nat} {v : V} {t t' t'' : Nat} {b b' b'' : Option Blk}
theorem d3w (hok : opOk ⟨some d, op, ty, ps, af, none⟩ sz = true) (hs : sz = S0.sz) (h : LOp P ⟨some d, op, ty, ps, af, none⟩ env H R v [(t, b), (t', b'), (t'', b'')] nw) (hr : DR P ops S0 rest (acc ++ [⟨rdOf ⟨some d, op, ty, ps, af, none⟩, some d, v, R, [(t, b), (t', b'), (t'', b'')], nw⟩]) ⟨(d, v) :: env, (t, b) :: (t', b') :: (t'', b'') :: H, sz⟩ K) : DR P ops S0 (⟨some d, op, ty, ps, af, none⟩ :: rest) acc ⟨env, H, sz⟩ K := dr_seq rfl hok hs h hr
end
/-- A nil slice is an empty one. -/
def zs : V → V
  | .z0 => .sl 0 []
  | v => v
theorem repL_zs {w : World} {ok : Nat → Prop} {G : Nat → Option Nat} {tk : Bool} : ∀ {cs : List V} {us : List Value}, RepL w ok G cs tk us → RepL w ok G (cs.map zs) tk us
  | [], us, h => h
  | v :: vs, us, h => by
    simp only [RepL, List.map_cons] at h ⊢
    obtain ⟨u, us', h1, h2, h3, h4⟩ := h
    refine ⟨u, us', h1, h2, ?_, repL_zs h4⟩
    cases v with
    | z0 =>
      simp only [Rep] at h3
      obtain ⟨A, rfl⟩ := h3
      simp only [zs, Rep, RepL]
      exact ⟨A, 0, [], rfl, Nat.le_refl _, .inl rfl, rfl⟩
    | _ => exact h3
theorem le_zs {env : Env} {H : Heap} {sz t : Nat} {f : Bool} {cs cs' : List V} (hH : hget H t = some (f, cs)) (hc : cs.map zs = cs') : Le ⟨env, H, sz⟩ ⟨env, (t, some (f, cs')) :: H, sz⟩ := by
  subst hc
  rintro w0 ok0 a w ⟨ok, G, hs, hr, h1, h2⟩
  refine ⟨ok, G, ?_, hr, h1, h2⟩
  refine ⟨hs.below, hs.okb, hs.okn, hs.oko, ?_, ?_⟩
  · intro t2 f2 cs2 h3
    simp only [hget] at h3
    cases hx2 : Nat.beq t2 t with
    | true =>
      have : t2 = t := Nat.eq_of_beq_eq_true hx2
      subst this
      simp only [hx2, cond_true, Option.some.injEq, Prod.mk.injEq] at h3
      obtain ⟨rfl, rfl⟩ := h3
      rcases hs.tok t2 f cs hH with h4 | ⟨b, hb, h5, h6, us, rest, ty, fr, h7, h8, h9, h10⟩
      · exact .inl ⟨h4.1, by rw [h4.2]; rfl⟩
      · exact .inr ⟨b, hb, h5, h6, us, rest, ty, fr, h7, repL_zs h8, h9, h10⟩
    | false =>
      rw [hx2] at h3
      exact hs.tok t2 f2 cs2 (by simpa using h3)
  · intro a1 b1 c1 ha hb1
    refine hs.inj a1 b1 c1 ?_ ?_
    · simp only [hget] at ha
      cases hx : Nat.beq a1 t with
      | true => rw [Nat.eq_of_beq_eq_true hx]; show hget H t ≠ none; rw [hH]; simp
      | false => rw [hx] at ha; simpa using ha
    · simp only [hget] at hb1
      cases hx : Nat.beq b1 t with
      | true => rw [Nat.eq_of_beq_eq_true hx]; show hget H t ≠ none; rw [hH]; simp
      | false => rw [hx] at hb1; simpa using hb1
end Go.Hg
