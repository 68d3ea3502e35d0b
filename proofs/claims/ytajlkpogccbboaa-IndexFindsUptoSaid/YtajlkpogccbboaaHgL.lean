/- Regions whose order is drawn: a run in the order of the text and a check that what is unordered is apart. The program follows 'mixedOrders'. -/
import Derived.Test.YtajlkpogccbboaaHgK
import Derived.Orders
set_option linter.unusedVariables false
set_option linter.unusedSimpArgs false
namespace Go.Hg
open Go.RowKit

/-! ### overlays -/
def ov {α : Type} (lk : Nat → Option α) (f : Nat → α) : Nat → α := fun x => (lk x).getD (f x)
def ovs {α : Type} : List (Nat → Option α) → (Nat → Bool) → Nat → (Nat → α) → Nat → α
  | [], _, _, f => f
  | lk :: r, L, i, f => ovs r L (i + 1) (if L i = true then ov lk f else f)

theorem ovs_agree {α : Type} {L L' : Nat → Bool} {x : Nat} : ∀ (lks : List (Nat → Option α)) (i : Nat) (f f' : Nat → α), (∀ k lk, lks[k]? = some lk → lk x ≠ none → L (i + k) = L' (i + k)) → f x = f' x → ovs lks L i f x = ovs lks L' i f' x
  | [], _, _, _, _, h => h
  | lk :: r, i, f, f', hk, h => by
    simp only [ovs]
    refine ovs_agree r (i + 1) _ _ (fun k lk' h1 h2 => ?_) ?_
    · have := hk (k + 1) lk' (by simpa using h1) h2
      rwa [show i + 1 + k = i + (k + 1) by omega]
    · cases hl : lk x with
      | none => split <;> split <;> simp [ov, hl, h]
      | some v =>
        have := hk 0 lk rfl (by rw [hl]; simp)
        rw [Nat.add_zero] at this
        rw [this]
        split
        · simp [ov, hl]
        · exact h
theorem ovs_none {α : Type} {L : Nat → Bool} {x : Nat} : ∀ (lks : List (Nat → Option α)) (i : Nat) (f : Nat → α), (∀ k lk, lks[k]? = some lk → L (i + k) = true → lk x = none) → ovs lks L i f x = f x
  | [], _, _, _ => rfl
  | lk :: r, i, f, hk => by
    simp only [ovs]
    rw [ovs_none r (i + 1) _ (fun k lk' h1 h2 => hk (k + 1) lk' (by simpa using h1) (by rwa [show i + (k + 1) = i + 1 + k by omega]))]
    split
    · rename_i hL
      have := hk 0 lk rfl (by simpa using hL)
      simp [ov, this]
    · rfl
theorem ovs_insert {α : Type} {L L' : Nat → Bool} {lk : Nat → Option α} : ∀ (lks : List (Nat → Option α)) (i j : Nat) (f : Nat → α), lks[j]? = some lk → L (i + j) = false → (∀ k, L' k = (L k || Nat.beq k (i + j))) →
    (∀ k lk', lks[k]? = some lk' → j < k → L (i + k) = true → ∀ x, lk x ≠ none → lk' x = none) → ovs lks L' i f = ov lk (ovs lks L i f)
  | lks, i, j, f, hj, hL, hL', hk => by
    funext x
    cases hx : lk x with
    | none =>
      simp only [ov, hx, Option.getD_none]
      refine ovs_agree lks i f f (fun k lk' h1 h2 => ?_) rfl
      rw [hL']
      cases hb : Nat.beq (i + k) (i + j) with
      | false => simp
      | true =>
        have := Nat.eq_of_beq_eq_true hb
        have : k = j := by omega
        subst this
        rw [hj] at h1
        injection h1 with h1
        subst h1
        exact absurd hx h2
    | some v =>
      simp only [ov, hx, Option.getD_some]
      -- by the length of what stands before
      revert i j f
      induction lks with
      | nil => intro i j f hj; simp at hj
      | cons l r ih =>
        intro i j f hj hL hL' hk
        simp only [ovs]
        cases j with
        | zero =>
          simp only [List.getElem?_cons_zero, Option.some.injEq] at hj
          subst hj
          have h1 : L' i = true := by rw [hL']; simp
          rw [if_pos h1, ovs_none r (i + 1) _ (fun k lk' h2 h3 => ?_)]
          · simp [ov, hx]
          · refine hk (k + 1) lk' (by simpa using h2) (by omega) ?_ x (by rw [hx]; simp)
            rw [hL'] at h3
            have : Nat.beq (i + 1 + k) (i + 0) = false := by
              cases hb : Nat.beq (i + 1 + k) (i + 0) with
              | false => rfl
              | true => have := Nat.eq_of_beq_eq_true hb; omega
            rw [this] at h3
            rw [show i + (k + 1) = i + 1 + k by omega]
            simpa using h3
        | succ j =>
          exact ih (i + 1) j _ (by simpa using hj) (by rw [show i + 1 + j = i + (j + 1) by omega]; exact hL) (fun k => by rw [hL', show i + (j + 1) = i + 1 + j by omega])
            (fun k lk' h2 h3 h4 => hk (k + 1) lk' (by simpa using h2) (by omega) (by rw [show i + (k + 1) = i + 1 + k by omega]; exact h4))
theorem ovs_append {α : Type} {L : Nat → Bool} : ∀ (l l' : List (Nat → Option α)) (i : Nat) (f : Nat → α), ovs (l ++ l') L i f = ovs l' L (i + l.length) (ovs l L i f)
  | [], l', i, f => rfl
  | x :: l, l', i, f => by
    simp only [List.cons_append, ovs, List.length_cons]
    rw [ovs_append l l' (i + 1) _, show i + 1 + l.length = i + (l.length + 1) by omega]
theorem ovs_congr {α : Type} {L L' : Nat → Bool} (l : List (Nat → Option α)) (i : Nat) (f : Nat → α) (h : ∀ k, k < l.length → L (i + k) = L' (i + k)) : ovs l L i f = ovs l L' i f := by
  funext x
  refine ovs_agree l i f f (fun k lk h1 _ => h k ?_) rfl
  exact (List.getElem?_eq_some_iff.1 h1).1

/-! ### what one operation of such a region did -/
structure Rec where
  rd : List Nat
  dst : Option Nat
  v : V
  R : List Nat
  W : Heap
  nw : List Nat

def lkE (r : Rec) (x : Nat) : Option V := match r.dst with | none => none | some d => bif Nat.beq x d then some r.v else none
def hlk : Heap → Nat → Option (Option Blk)
  | [], _ => none
  | (y, v) :: r, x => bif Nat.beq x y then some v else hlk r x
def lkH (r : Rec) (t : Nat) : Option (Option Blk) := hlk r.W t
theorem putF_ov (e : EF) (r : Rec) : putF e r.dst r.v = ov (lkE r) e := by
  funext x
  unfold putF ov lkE
  cases r.dst with
  | none => rfl
  | some d => simp only; cases Nat.beq x d <;> rfl
theorem appF_ov (h : HF) (W : Heap) : appF h W = ov (hlk W) h := by
  funext x
  unfold ov
  induction W with
  | nil => rfl
  | cons p W ih =>
    obtain ⟨y, v⟩ := p
    simp only [appF, hlk]
    cases Nat.beq x y
    · simpa using ih
    · rfl

def rdOf (o : Oper) : List Nat := o.op.operands.toList.filterMap fun | .tmp t => some t | _ => none

/-- The operation, wherever what it looks at is told alike, does what is recorded. -/
def RecOk (P : Program) (ops : Array Oper) (sz : Nat) (o : Oper) (e : EF) (h : HF) (r : Rec) : Prop :=
  r.dst = o.dst ∧ ∀ (e' : EF) (h' : HF), (∀ x ∈ r.rd, e' x = e x) → (∀ t ∈ r.R, h' t = h t) → (∀ t ∈ r.nw, FreshF t e' h') → ∀ w0 ok0 a w, RelF w0 ok0 e' h' sz a w → ∀ (K : Act → World → Prop) (Q : Exit → Act → World → Prop),
    (∀ a' w', RelF w0 ok0 (putF e' r.dst r.v) (appF h' r.W) sz a' w' → K a' w') → if Region.wanted o (yielded ops a.tmps) then o.wp P a w K Q else K (a.put o.dst undef) w

/-- So far the run has been as is recorded. -/
structure Did (P : Program) (ops : Array Oper) (S0 : St) (acc : List Rec) (S : St) : Prop where
  each : ∀ i r o, acc[i]? = some r → ops[i]? = some o → RecOk P ops S0.sz o (ovs (acc.map lkE) (fun k => Nat.blt k i) 0 (get S0.env)) (ovs (acc.map lkH) (fun k => Nat.blt k i) 0 (hget S0.H)) r
  env : get S.env = ovs (acc.map lkE) (fun _ => true) 0 (get S0.env)
  heap : hget S.H = ovs (acc.map lkH) (fun _ => true) 0 (hget S0.H)
  sz : S.sz = S0.sz

theorem Did.start {P : Program} {ops : Array Oper} {S0 : St} : Did P ops S0 [] S0 := ⟨fun i r o h => by simp at h, rfl, rfl, rfl⟩
theorem Did.step {P : Program} {ops : Array Oper} {S0 S : St} {acc : List Rec} (h : Did P ops S0 acc S) {o : Oper} (ho : ops[acc.length]? = some o) {r : Rec} (hr : RecOk P ops S0.sz o (get S.env) (hget S.H) r) :
    Did P ops S0 (acc ++ [r]) ⟨put S.env r.dst r.v, r.W ++ S.H, S.sz⟩ := by
  have cut : ∀ {α : Type} (l : List (Nat → Option α)) (x : Nat → Option α) (i : Nat) (f : Nat → α), i ≤ l.length → ovs (l ++ [x]) (fun k => Nat.blt k i) 0 f = ovs l (fun k => Nat.blt k i) 0 f := fun l x i f hi => by
    rw [ovs_append]
    simp only [ovs, Nat.zero_add]
    rw [if_neg]
    simp [Nat.blt]; omega
  have full : ∀ {α : Type} (l : List (Nat → Option α)) (f : Nat → α), ovs l (fun k => Nat.blt k l.length) 0 f = ovs l (fun _ => true) 0 f := fun l f =>
    ovs_congr l 0 f fun k hk => by simp [Nat.blt]; omega
  refine ⟨fun i r' o' hi ho' => ?_, ?_, ?_, h.sz⟩
  · rw [List.map_append, List.map_append, List.map_singleton, List.map_singleton]
    rcases Nat.lt_or_ge i acc.length with hlt | hge
    · rw [cut _ _ _ _ (by simp; omega), cut _ _ _ _ (by simp; omega)]
      exact h.each i r' o' (by rwa [List.getElem?_append_left hlt] at hi) ho'
    · have hi2 : i = acc.length := by
        have := (List.getElem?_eq_some_iff.1 hi).1
        simp at this
        omega
      subst hi2
      rw [cut _ _ _ _ (by simp), cut _ _ _ _ (by simp)]
      have e1 := full (acc.map lkE) (get S0.env)
      have e2 := full (acc.map lkH) (hget S0.H)
      rw [List.length_map] at e1 e2
      rw [e1, e2, ← h.env, ← h.heap]
      simp at hi
      subst hi
      rw [ho] at ho'
      injection ho' with ho'
      subst ho'
      exact hr
  · rw [List.map_append, ovs_append, ← h.env, List.map_singleton]
    simp only [ovs, if_true]
    rw [get_put, putF_ov]
  · rw [List.map_append, ovs_append, ← h.heap, List.map_singleton]
    simp only [ovs, if_true]
    rw [hget_app, appF_ov]
    rfl

theorem LOp.rec {P : Program} {ops : Array Oper} {o : Oper} {env : Env} {H : Heap} {R : List Nat} {v : V} {W : Heap} {nw : List Nat} {sz : Nat} (h : LOp P o env H R v W nw) (hok : opOk o sz = true) (hg : o.guard = none) :
    RecOk P ops sz o (get env) (hget H) ⟨rdOf o, o.dst, v, R, W, nw⟩ := by
  refine ⟨rfl, fun e' h' he hR hf w0 ok0 a w r K Q hK => ?_⟩
  rw [if_pos (by simp [Region.wanted, hg])]
  refine h e' h' (fun x hx => ?_) hR hf w0 ok0 sz a w hok r K Q hK
  cases x with
  | tmp t => exact he t (List.mem_filterMap.2 ⟨.tmp t, by simpa using hx, rfl⟩)
  | _ => rfl
theorem LOp.recYes {P : Program} {ops : Array Oper} {o : Oper} {env : Env} {H : Heap} {R : List Nat} {v : V} {W : Heap} {nw : List Nat} {sz : Nat} (h : LOp P o env H R v W nw) (hok : opOk o sz = true) {j t : Nat} {b want : Bool} (hg : o.guard = some (j, want)) (hj : guardSlot ops j = some t) (ht : get env t = .bool b) (hb : b = want) :
    RecOk P ops sz o (get env) (hget H) ⟨t :: rdOf o, o.dst, v, R, W, nw⟩ := by
  refine ⟨rfl, fun e' h' he hR hf w0 ok0 a w r K Q hK => ?_⟩
  have hy : yielded ops a.tmps j = some b := by
    obtain ⟨ok, G, hs, hr, h1, h2⟩ := r
    have h3 := hr t
    obtain ⟨hj, hjb⟩ := guardSlot_out hj
    rw [he t (by simp), ht, slot_lt _ _ hjb] at h3
    simp only [Rep] at h3
    have h4 : a.tmps[t]? = some (.bool b) := by
      cases h5 : a.tmps[t]? with
      | none => simp [h5, undef] at h3
      | some u => simp [h5] at h3; rw [h3]
    unfold yielded
    rw [hj]
    simp [h4]
  rw [if_pos (by simp [Region.wanted, hg, hy, hb])]
  refine h e' h' (fun x hx => ?_) hR hf w0 ok0 sz a w hok r K Q hK
  cases x with
  | tmp t => exact he t (List.mem_cons_of_mem _ (List.mem_filterMap.2 ⟨.tmp t, by simpa using hx, rfl⟩))
  | _ => rfl
theorem rec_no {P : Program} {ops : Array Oper} {o : Oper} {env : Env} {h : HF} {sz : Nat} {j t : Nat} {b want : Bool} (hg : o.guard = some (j, want)) (hj : guardSlot ops j = some t) (ht : get env t = .bool b) (hb : b = !want) :
    RecOk P ops sz o (get env) h ⟨[t], o.dst, .undef, [], [], []⟩ := by
  refine ⟨rfl, fun e' h' he hR hf w0 ok0 a w r K Q hK => ?_⟩
  obtain ⟨ok, G, hs, hr, h1, h2⟩ := r
  have hy : yielded ops a.tmps j = some b := by
    have h3 := hr t
    obtain ⟨hj, hjb⟩ := guardSlot_out hj
    rw [he t (by simp), ht, slot_lt _ _ hjb] at h3
    simp only [Rep] at h3
    have h4 : a.tmps[t]? = some (.bool b) := by
      cases h5 : a.tmps[t]? with
      | none => simp [h5, undef] at h3
      | some u => simp [h5] at h3; rw [h3]
    unfold yielded
    rw [hj]
    simp [h4]
  rw [if_neg (by simp [Region.wanted, hg, hy, hb])]
  refine hK _ _ ?_
  simp only [appF]
  cases hd : o.dst with
  | none => exact ⟨ok, G, hs, hr, h1, h2⟩
  | some d =>
    refine ⟨ok, G, hs, fun x => ?_, by simpa [Act.put] using h1, by simpa [Act.put] using h2⟩
    simp only [putF]
    cases hx : Nat.beq x d with
    | true => simp [Rep]
    | false =>
      have : d ≠ x := fun e => by subst e; simp at hx
      rw [slot_put_ne this]
      simpa using hr x

/-! ### the check -/
def edges (o : Oper) : List Nat := o.after.toList.filterMap fun e => bif Region.binds .any e then some e.on else none
/-- Which operations stand before each: a set of bits each. -/
def ancsGo : List Oper → List Nat → List Nat
  | [], acc => acc
  | o :: r, acc => ancsGo r (acc ++ [(edges o).foldl (fun m j => m ||| (1 <<< j) ||| acc.getD j 0) 0])
def freshRec (t : Nat) (r : Rec) : Bool := !men t r.v && r.W.all (fun p => Nat.beq p.1 t || match p.2 with | some (false, cs) => !menL t cs | _ => true)
def memN (x : Nat) (l : List Nat) : Bool := l.any (Nat.beq x)
def keys (W : Heap) : List Nat := W.map (·.1)
def dstIn (d : Option Nat) (l : List Nat) : Bool := match d with | none => false | some d => memN d l
def dstEq : Option Nat → Option Nat → Bool
  | some a, some b => Nat.beq a b
  | _, _ => false
def clash (r s : Rec) : Bool := dstEq r.dst s.dst || dstIn r.dst s.rd || dstIn s.dst r.rd || (keys r.W).any (fun t => memN t (keys s.W) || memN t s.R) || (keys s.W).any (fun t => memN t r.R) || r.nw.any (fun t => !freshRec t s)
/-- Pairs of an earlier one, at i, and later ones, from k on. -/
def apartFrom (i : Nat) (r : Rec) : List Rec → List Nat → Bool
  | [], _ => true
  | s :: ss, m :: ms => ((Nat.testBit m i) || !clash r s) && s.nw.all (fun t => freshRec t r) && apartFrom i r ss ms
  | _ :: _, [] => false
def apartAll : Nat → List Rec → List Nat → Bool
  | _, [], _ => true
  | i, r :: rs, _ :: ms => apartFrom i r rs ms && apartAll (i + 1) rs ms
  | _, _ :: _, [] => false
def lowerFrom : Nat → List Oper → Bool
  | _, [] => true
  | i, o :: r => (edges o).all (fun j => Nat.blt j i) && lowerFrom (i + 1) r
def drawOk (ops : List Oper) (S0 : St) (recs : List Rec) : Bool :=
  Nat.beq ops.length recs.length && lowerFrom 0 ops && apartAll 0 recs (ancsGo ops []) && recs.all (fun r => freshAll r.nw S0.env S0.H)
end Go.Hg
