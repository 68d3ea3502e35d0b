/- Collect over the living nodes: contracts of AppendSeq (88), Collect (82), Ring (70): RingOk. No condition but RingOk's own bounds. -/
import Derived.Test.YtikikdgfebbcmaaT16r
set_option linter.unusedVariables false
set_option linter.unusedSimpArgs false
namespace Go.Proofs
open Go.RowKit Go.Shelf Go.Hg
attribute [local go_sem] Oper.semAt_some

theorem ring_stops (n : Nat) (hn : 1 ≤ n) {vol nodes : Int} {live : List Bool} (h0 : 0 ≤ vol) (hv : vol ≤ 9223372036854775807) (hn1 : 1 ≤ nodes) (hn2 : nodes ≤ 64) (hll : live.length ≤ 1048576)
    {w : World} {ok : Nat → Prop} {us : List Value} (hok : ∀ b : Nat, ok b → b < w.heap.size) (hr : RepT w ok (fun _ => none) [.fp [i64 vol], .fp [i64 nodes], .fp [rowOf boolEnc live]] false us) :
    SeqStopsK Fence.wide n Try.prog 85 us.toArray (fun x : Int => #[Value.int .i64 x]) (KeepOk ok) (fun xs => xs = ringF vol nodes live) (fun pre => pre <+: ringF vol nodes live) (ringF vol nodes live).length w := by
  intro l J Jx W hW hJ hJx hY hj0
  simp only [RepT, Rep, RepL] at hr
  obtain ⟨_, _, rfl, ⟨A1, _, rfl, a1, _, _, rfl, _, rfl, rfl⟩, _, _, rfl, ⟨A2, _, rfl, a2, _, _, rfl, _, rfl, rfl⟩, _, _, rfl, ⟨A3, _, rfl, a3, u3, _, rfl, _, h3, rfl⟩, rfl⟩ := hr
  unfold rowOf at h3
  simp only [Rep] at h3
  obtain ⟨A, c, us3, rfl, hcl, hA, hb⟩ := h3
  have e3 := boolsL hb
  subst e3
  have hkw : KeepOk ok w W := KeepOk.of_below hW hok
  have a1' := At.one a1
  have a2' := At.one a2
  have a3' := At.one a3
  exact ring1_in n l hn vol nodes live h0 hv hn1 hn2 hll J Jx ok A1 A2 A3 A c hcl W (hkw.lt hok) a1'.2 a2'.2 a3'.2 ((hkw.cell a1'.2).trans a1'.1) ((hkw.cell a2'.2).trans a2'.1) ((hkw.cell a3'.2).trans a3'.1)
    (hA.mono (fun b hb => hkw b hb) (fun b hb => hb)) hJ hY hj0

theorem Try.ainfo3 : (Try.prog.info? 3).map (fun i => (i.zero, i.size, i.bytes)) = some (some (.int .i64 0), 1, 8) := by kernel_rfl

theorem keepOk_b {ok : Nat → Prop} {w : World} (hok : ∀ b : Nat, ok b → b < w.heap.size) (W : World) (l : Nat) (o o' : Obj) (hl : w.heap.size ≤ l) (h : W.heap[l]? = some o) (_ : o.isCells = false) (_ : o.isWalk = false) : KeepOk ok W (W.putObj l o') :=
  fun b hb => World.putObj_heap_other (by have := hok b hb; omega)

set_option maxRecDepth 100000 in
set_option maxHeartbeats 4000000 in
theorem append_in (n : Nat) (hn : 3 ≤ n) (sv : Array Value) (ok : Nat → Prop) (ys : List Int) (w : World) (hok : ∀ b : Nat, ok b → b < w.heap.size) (hlen : ys.length ≤ 64)
    (hseq : SeqStopsK Fence.wide (n - 1) Try.prog 85 sv (fun x : Int => #[Value.int .i64 x]) (KeepOk ok) (fun xs => xs = ys) (fun pre => pre <+: ys) ys.length w) :
    CallsIn Fence.wide n Try.prog 88 #[.slice none 0 0, .func (.func 85) #[] sv] w fun e W' => ∃ v, e = .returned v ∧ W'.ownsRow w.heap.size 3 1 v ys.length (ys.map (Value.int .i64)) ∧ (v = .slice none 0 0 ↔ ys = []) ∧ Below w.heap.size w W' := by
  have h1 : 1 ≤ n := by omega
  obtain ⟨i0, hi, hz0, hz1, hz2⟩ := info_parts Try.ainfo3
  refine callsIn_of_wp_marks Try.func88 rfl trivial ?_ rfl
  simp only [Try.ntmps88, List.size_toArray, List.length_cons, List.length_nil, Nat.reduceAdd, Nat.reduceSub, Array.replicate_succ, Array.replicate_zero, List.push_toArray, List.append_toArray, List.nil_append, List.cons_append]
  gi_wp2
  have bO := Boxed.new w 74 (.slice none 0 0)
  have hB0 : Below w.heap.size w (w.alloc (.cells #[.slice none 0 0] 74)) := (Below.refl _ w).alloc (Nat.le_refl _) _
  refine wpIn_rangeFunc_ownG rfl h1 (gf := 85) (lb := sv) rfl trivial (enters_of Try.func85 (by kernel_rfl) rfl)
    hseq (fun h k => KeepOk.trans h k) (keepOk_b (fun b hb => by have := hok b hb; simp; omega)) hB0 (fun _ => rfl)
    (fun pre W => (∃ v, Boxed W w.heap.size 74 v ∧ W.ownsRow w.heap.size 3 1 v pre.length (pre.map (Value.int .i64)) ∧ (v = .slice none 0 0 ↔ pre = [])) ∧ Below w.heap.size w W)
    (fun _ _ _ => False)
    (OwnFrom.and (Own.from (holdsRow_own w.heap.size w.heap.size 74 3 1 (fun pre : List Int => pre.length) (fun pre => pre.map (Value.int .i64)) (fun pre v => v = .slice none 0 0 ↔ pre = [])) _) (ownFrom_below (Nat.le_refl _) (by simp)))
    (fun _ _ _ _ _ hs _ _ => hs)
    ⟨⟨_, bO, World.ownsRow_nil _ _ _ _, by simp⟩, hB0⟩
    (fun x => { tmps := #[.slice none 0 0, .func (.func 85) #[] sv, .pointer (some ⟨w.heap.size, 0, none⟩), undef, .slice none 0 0, .int .i64 x, .func (.func 85) #[] sv, .int .i64 x, undef, undef, undef, undef, undef], defers := [] }) ?assign ?body ?done ?stop
  case assign =>
    intro l x W K hK
    gi_wp2
    exact hK
  case body =>
    rintro l pre x W ⟨⟨v, hv, hrow, hnil⟩, hB⟩ hlt
    have hc := hv.cell
    gi_wp2_with (gi_at_builtin; refine wpListIn_append_own _ rfl _ _ 74 rfl w.heap.size 3 i0 (.int .i64 0) 1 8 Try.underlying74 hi hz0 hz1 hz2 rfl (by decide) _ _ _ rfl (hrow.alloc _) ⟨W.heap.size, 0, none⟩ 1 1 [.int .i64 x] rfl rfl (cell_one_new _ _ _) (by simp [Value.oneCell']) (by unfold maxLen; omega) (by omega) (by have := hB.size; simp; omega) ?_; intro v' w1 hown' hgrow _; obtain ⟨g', cap', rfl⟩ := ownsRow_succ hown'; obtain ⟨hv1, hv2, hr2, hk2, hb2⟩ := hv.appended (by decide) hrow hB.size (Nat.le_refl _) hown' hgrow; have hc1 := hv1.cell; have hf1 := hv1.frozen)
    exact ⟨hk2.from _, fun b hb => hb2.block b (hok b hb), ⟨_, hv2, by simpa using hr2, by simp⟩, hB.trans hb2⟩
  case done =>
    rintro D ys' W hD rfl ⟨⟨v, hv, hrow, hnil⟩, hB⟩ hK
    have hc := hv.cell
    gi_wp2
    refine ⟨by simp, .inl ⟨_, _, rfl, run_takeDeferred hK, ?_⟩⟩
    exact ⟨_, results_tmp rfl _ _ _, v, rfl, ownsRow_putObj hrow _ hK rfl, hnil, hB.trans (belowK_b (w := w) (Nat.le_refl _) W D _ _ (by simp at hD; omega) hK rfl rfl)⟩
  case stop =>
    rintro D c pre W _ _ h _
    exact h.elim

theorem ints_row {w : World} {G : Nat → Option Nat} {base : Nat} {v : Value} {ys : List Int} (h : w.ownsRow base 3 1 v ys.length (ys.map (Value.int .i64))) {ok : Nat → Prop} (hok : ∀ b : Nat, base ≤ b → b < w.heap.size → ok b) : Rep w ok G (rowOf intEnc ys) false v := by
  unfold rowOf
  have hl : ∀ (zs : List Int), RepL w ok G (zs.flatMap intEnc) false (zs.map (Value.int .i64)) := fun zs => by
    induction zs with
    | nil => simp [RepL]
    | cons z zs ih =>
      simp only [List.flatMap_cons, intEnc, List.cons_append, List.nil_append, RepL, Rep, List.map_cons]
      exact ⟨_, _, rfl, rfl, rfl, ih⟩
  have hc := fun g => h.cells (g := g)
  obtain ⟨hx, h⟩ := h
  simp only [Rep]
  rcases h with ⟨rfl, h0⟩ | ⟨g, cap, cur, rfl, hg, hh, hn, hm, hs, ht⟩
  · have : ys = [] := List.eq_nil_of_length_eq_zero h0
    subst this
    exact ⟨none, 0, [], rfl, Nat.le_refl _, .inl rfl, by simp [RepL]⟩
  · refine ⟨_, cap, _, rfl, hn, .inr ⟨_, rfl, hok g hg (Array.getElem?_eq_some_iff.1 hh).1, fun j u hj => ?_⟩, hl ys⟩
    exact hc g rfl j u hj

set_option maxRecDepth 100000 in
set_option maxHeartbeats 1000000 in
theorem collect_ac (vol nodes : Int) (live : List Bool) (h0 : 0 ≤ vol) (hv : R64 vol) (hn1 : 1 ≤ nodes) (hn2 : nodes ≤ 64) (hll : live.length ≤ 1048576) :
    AC Try.prog 82 [.fn 85 [.fp [i64 vol], .fp [i64 nodes], .fp [rowOf boolEnc live]]] (rowOf intEnc (ringF vol nodes live)) := by
  intro w ok us hok hr
  simp only [RepT] at hr
  obtain ⟨u, _, rfl, hu, rfl⟩ := hr
  rw [Rep] at hu
  obtain ⟨caps, rfl, hcaps⟩ := hu
  have hs := ring_stops 3 (by omega) h0 hv.2 hn1 hn2 hll hok hcaps
  have hle := ringF_le vol nodes live
  have ha := callsIn_wide.1 (append_in 4 (by omega) caps.toArray ok (ringF vol nodes live) w hok (by omega) hs)
  clear hs hle
  refine (callsIn_wide (n := 5)).1 (callsIn_of_wp Try.func82 rfl trivial ?_ rfl)
  simp only [Try.ntmps82, List.size_toArray, List.length_cons, List.length_nil, Nat.reduceAdd, Nat.reduceSub, Array.replicate_succ, Array.replicate_zero, List.push_toArray, List.append_toArray, List.nil_append, List.cons_append]
  gi_wp2_with (refine ⟨trivial, ?_⟩; gi_at_call 88; refine (callsIn_wide.2 ha).mono ?_; rintro e w' ⟨v, rfl, hrow, _, hb⟩)
  go_ret
  exact ⟨v, rfl, ints_row hrow (fun b h1 h2 => .inr ⟨h1, h2⟩), hb⟩
end Go.Proofs
