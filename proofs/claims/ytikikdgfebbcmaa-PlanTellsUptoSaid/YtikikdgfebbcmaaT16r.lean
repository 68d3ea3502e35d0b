/- The living nodes: a range over a function. Contracts of the iterator (85), of AppendSeq (88), Collect (82), Ring (70). Premises: the bounds that the statements name. -/
import Derived.RangeFuncNested
import Derived.RangeFuncBound
import Derived.RangeFuncCalls
import Derived.RangeFuncLeaves
import Derived.Shelf.Abstract
import Derived.Shelf.RegionOpen
import Derived.WalkKit
import Derived.OwnWalkIn
import Derived.TacticsInMore
import Derived.LoopNIn
import Derived.LoopIn
import Derived.Maps.AppendAt
import Derived.Lib.Hide
import Derived.Test.YtikikdgfebbcmaaT16h
set_option linter.unusedVariables false
set_option linter.unusedSimpArgs false
namespace Go.Proofs
open Go.RowKit Go.Shelf Go.Hg
attribute [local go_sem] Oper.semAt_some

theorem AC.bool_at {P : Program} {f : FuncId} {args : List V} {b : Bool} (h : AC P f args (.bool b)) {w : World} {ok : Nat → Prop} {us : List Value} (hok : ∀ b : Nat, ok b → b < w.heap.size) (hr : RepT w ok (fun _ => none) args false us) :
    Calls P f us.toArray w fun e w' => e = .returned (.bool b) ∧ Below w.heap.size w w' :=
  (h w ok us hok hr).mono fun e w' ⟨u, he, hu, hb⟩ => ⟨by simp only [Rep] at hu; rw [he, hu], hb⟩

/-- What a round that goes on keeps. -/
def KeepOk (ok : Nat → Prop) (W W' : World) : Prop := ∀ b : Nat, ok b → W'.heap[b]? = W.heap[b]?

theorem boolsL {w : World} {ok : Nat → Prop} {G : Nat → Option Nat} {tk : Bool} : ∀ {l : List Bool} {us : List Value}, RepL w ok G (l.flatMap boolEnc) tk us → us = l.map Value.bool
  | [], us, h => by simpa [RepL] using h
  | b :: l, us, h => by
    simp only [List.flatMap_cons, boolEnc, List.cons_append, List.nil_append, RepL, Rep] at h
    obtain ⟨u, us', rfl, _, rfl, h⟩ := h
    rw [boolsL h]; rfl
theorem boolsL_mk {w : World} {ok : Nat → Prop} {G : Nat → Option Nat} {tk : Bool} : ∀ {l : List Bool}, RepL w ok G (l.flatMap boolEnc) tk (l.map Value.bool)
  | [] => by simp [RepL]
  | b :: l => by
    simp only [List.flatMap_cons, boolEnc, List.cons_append, List.nil_append, RepL, Rep, List.map_cons]
    exact ⟨_, _, rfl, rfl, rfl, boolsL_mk⟩
theorem At.one {w : World} {ok : Nat → Prop} {A : Addr} {u : Value} (h : At w ok (some A) [u]) : w.cell? A = some u ∧ ok A.block := by
  rcases h with h | ⟨ad, h1, h2, h3⟩
  · cases h
  · cases h1
    have := h3 0 u rfl
    rw [Addr.add_zero'] at this
    exact ⟨this, h2⟩
theorem KeepOk.cell {ok : Nat → Prop} {W W' : World} (h : KeepOk ok W W') {A : Addr} (ha : ok A.block) : W'.cell? A = W.cell? A := World.cell?_of_block (h _ ha)
theorem KeepOk.trans {ok : Nat → Prop} {A B C : World} (h : KeepOk ok A B) (k : KeepOk ok B C) : KeepOk ok A C := fun b hb => (k b hb).trans (h b hb)
theorem KeepOk.of_below {ok : Nat → Prop} {W W' : World} (hb : Below W.heap.size W W') (hok : ∀ b : Nat, ok b → b < W.heap.size) : KeepOk ok W W' := fun b h => hb.block b (hok b h)
theorem KeepOk.lt {ok : Nat → Prop} {W W' : World} (h : KeepOk ok W W') (hok : ∀ b : Nat, ok b → b < W.heap.size) : ∀ b : Nat, ok b → b < W'.heap.size := fun b hb => by
  have h1 := h b hb
  rw [Array.getElem?_eq_getElem (hok b hb)] at h1
  exact (Array.getElem?_eq_some_iff.1 h1).1
theorem grown_of_below {W W' : World} (hb : Below W.heap.size W W') : W.grownBy W' none := ⟨hb.os, hb.tape, hb.output, hb.size, fun k hk _ => hb.block k hk⟩

/-- The living nodes among the first k asked. -/
def ringK (vol nodes : Int) (live : List Bool) (k : Nat) : List Int := ((List.range k).map (fun (i : Nat) => (vol.tmod nodes + (i : Int)).tmod nodes)).filter (fun n => livesB n live)
theorem ringK_yes {vol nodes : Int} {live : List Bool} {k : Nat} (h : livesB ((vol.tmod nodes + (k : Int)).tmod nodes) live = true) : ringK vol nodes live (k + 1) = ringK vol nodes live k ++ [(vol.tmod nodes + (k : Int)).tmod nodes] := by
  unfold ringK
  rw [List.range_succ, List.map_append, List.filter_append]
  simp [h]
theorem ringK_no {vol nodes : Int} {live : List Bool} {k : Nat} (h : livesB ((vol.tmod nodes + (k : Int)).tmod nodes) live = false) : ringK vol nodes live (k + 1) = ringK vol nodes live k := by
  unfold ringK
  rw [List.range_succ, List.map_append, List.filter_append]
  simp [h]
theorem ringK_prefix (vol nodes : Int) (live : List Bool) {k n : Nat} (h : k ≤ n) : ringK vol nodes live k <+: ringK vol nodes live n := by
  induction n with
  | zero => have : k = 0 := by omega
            subst this; exact List.prefix_refl _
  | succ n ih =>
    rcases Nat.lt_or_ge n k with h1 | h1
    · have : k = n + 1 := by omega
      subst this; exact List.prefix_refl _
    · refine (ih h1).trans ?_
      cases hl : livesB ((vol.tmod nodes + (n : Int)).tmod nodes) live with
      | true => rw [ringK_yes hl]; exact List.prefix_append _ _
      | false => rw [ringK_no hl]; exact List.prefix_refl _
theorem ringK_lt {vol nodes : Int} {live : List Bool} {k n : Nat} (h : k < n) (hl : livesB ((vol.tmod nodes + (k : Int)).tmod nodes) live = true) : (ringK vol nodes live k).length < (ringK vol nodes live n).length := by
  have := (ringK_prefix vol nodes live (show k + 1 ≤ n by omega)).length_le
  rw [ringK_yes hl] at this
  simp at this
  omega

set_option maxRecDepth 100000 in
set_option maxHeartbeats 4000000 in
theorem ring1_in (n l : Nat) (hn : 1 ≤ n) (vol nodes : Int) (live : List Bool) (h0 : 0 ≤ vol) (hv : vol ≤ 9223372036854775807) (hn1 : 1 ≤ nodes) (hn2 : nodes ≤ 64) (hll : live.length ≤ 1048576)
    (J Jx : List Int → World → Prop) (ok : Nat → Prop) (A1 A2 A3 : Addr) (A : Option Addr) (c : Nat) (hcl : live.length ≤ c) (W : World) (hok : ∀ b : Nat, ok b → b < W.heap.size)
    (o1 : ok A1.block) (o2 : ok A2.block) (o3 : ok A3.block) (hc1 : W.cell? A1 = some (.int .i64 vol)) (hc2 : W.cell? A2 = some (.int .i64 nodes)) (hc3 : W.cell? A3 = some (.slice A live.length c)) (hA : At W ok A (live.map Value.bool))
    (hJ : AbidesFrom W.heap.size J)
    (hY : ∀ pre x W1, J pre W1 → pre.length < (ringF vol nodes live).length → YieldAt Fence.wide (n - 1) Try.prog l #[.int .i64 x] W1 fun e W' =>
      (e = .returned (.bool true) ∧ J (pre ++ [x]) W' ∧ KeepOk ok W1 W') ∨ (e = .returned (.bool false) ∧ Jx (pre ++ [x]) W'))
    (hj0 : J [] W) :
    CallsIn Fence.wide n Try.prog 85 #[.func (.yield l) #[] #[], .pointer (some A1), .pointer (some A2), .pointer (some A3)] W fun e W' => (∃ v, e = .returned v) ∧
      ((∃ xs, xs = ringF vol nodes live ∧ J xs W') ∨ (∃ pre, pre <+: ringF vol nodes live ∧ Jx pre W')) := by
  refine callsIn_of_wp Try.func85 rfl trivial ?_ rfl
  simp only [Try.ntmps85, List.size_toArray, List.length_cons, List.length_nil, Nat.reduceAdd, Nat.reduceSub, Array.replicate_succ, Array.replicate_zero, List.push_toArray, List.append_toArray, List.nil_append, List.cons_append]
  have hm : decide (1 ≤ nodes ∧ nodes ≤ 64) = true := decide_eq_true ⟨hn1, hn2⟩
  have hmay : ∀ w, Calls Try.prog 69 #[.int .i64 nodes] w fun e w' => e = .returned (.bool true) ∧ Below w.heap.size w w' := fun w => by
    have := AC.bool_at (site_may_ac nodes) (w := w) (ok := fun _ => False) (us := [.int .i64 nodes]) (fun _ h => h.elim) (by simp [RepT, Rep])
    rw [hm] at this
    exact this
  clear hm
  gi_wp2_with (first | (refine ⟨trivial, ?_⟩; gi_at_call 69; refine (callsIn_wide.2 (hmay _)).mono ?_; rintro e w1 ⟨rfl, hb1⟩; have hc2' : w1.cell? A2 = some (.int .i64 nodes) := (hb1.cell (hok _ o2)).trans hc2) | (gi_at_call 69; refine (callsIn_wide.2 (hmay _)).mono ?_; rintro e w1 ⟨rfl, hb1⟩; have hc2' : w1.cell? A2 = some (.int .i64 nodes) := (hb1.cell (hok _ o2)).trans hc2))
  have hokb : ∀ b : Nat, ok b → b < w1.heap.size := fun b hb => Nat.lt_of_lt_of_le (hok b hb) hb1.size
  have hk1 : KeepOk ok W w1 := KeepOk.of_below hb1 hok
  have hj1 : J [] w1 := hJ [] W w1 none hj0 (grown_of_below hb1) (fun r e => by cases e)
  have H1 := Lib.hid hc1
  have H2 := Lib.hid hc2
  have H3 := Lib.hid hc3
  clear hc1 hc2 hc2' hc3
  gi_loopw [15] (fun i wr => ∃ k : Nat, k ≤ nodes.toNat ∧ i = .int .i64 k ∧ J (ringK vol nodes live k) wr ∧ KeepOk ok W wr) (fun i _ => nodes.toNat - (intOf i).toNat)
  case atStart => exact ⟨0, Nat.zero_le _, rfl, hj1, hk1⟩
  case round =>
    obtain ⟨k, hk, rfl, hJs, hkw⟩ := hrel
    by_cases hlt : k < nodes.toNat
    · have hc1 : wr.cell? A1 = some (.int .i64 vol) := (hkw.cell o1).trans H1.out
      have hc2 : wr.cell? A2 = some (.int .i64 nodes) := (hkw.cell o2).trans H2.out
      have hc3 : wr.cell? A3 = some (.slice A live.length c) := (hkw.cell o3).trans H3.out
      have hkk : (k : Int) < nodes := by omega
      gi_wp2_with fail
      gi_region
      have hx : (RowKit.wrap64 (vol % nodes + (k : Int))).tmod nodes = (vol.tmod nodes + (k : Int)).tmod nodes := by
        have e1 : vol.tmod nodes = vol % nodes := Int.tmod_eq_emod_of_nonneg h0
        have e2 : 0 ≤ vol % nodes := Int.emod_nonneg _ (by omega)
        have e3 : vol % nodes < nodes := Int.emod_lt_of_pos _ (by omega)
        rw [e1]
        congr 1
        unfold RowKit.wrap64
        omega
      rw [hx]
      clear hx
      have hlive : ∀ w, KeepOk ok W w → Calls Try.prog 86 #[.int .i64 ((vol.tmod nodes + (k : Int)).tmod nodes), .slice A live.length c] w fun e w' => e = .returned (.bool (livesB ((vol.tmod nodes + (k : Int)).tmod nodes) live)) ∧ Below w.heap.size w w' := fun w hw =>
        AC.bool_at (site_lives_ac _ hll) (ok := ok) (us := [.int .i64 ((vol.tmod nodes + (k : Int)).tmod nodes), .slice A live.length c]) (hw.lt hok)
          (by simp only [RepT]; exact ⟨_, _, rfl, by simp only [Rep], _, _, rfl, by unfold rowOf; simp only [Rep]; exact ⟨A, c, _, rfl, hcl, hA.mono (fun b hb => hw b hb) (fun b hb => hb), boolsL_mk⟩, rfl⟩)
      have hyes := ringK_yes (vol := vol) (nodes := nodes) (live := live) (k := k)
      have hno := ringK_no (vol := vol) (nodes := nodes) (live := live) (k := k)
      have hlen := fun h => ringK_lt (vol := vol) (nodes := nodes) (live := live) hlt h
      have hpre := ringK_prefix vol nodes live (show k + 1 ≤ nodes.toNat by omega)
      generalize (vol.tmod nodes + (k : Int)).tmod nodes = x at *
      have hkd : KeepOk ok W wr.drew := hkw
      have Hyes := Lib.hid hyes
      have Hno := Lib.hid hno
      clear hyes hno
      have hjd : J (ringK vol nodes live k) wr.drew := hJ _ wr wr.drew none hJs ⟨rfl, rfl, rfl, Nat.le_refl _, fun _ _ _ => rfl⟩ (fun r e => by cases e)
      cases hb : livesB x live with
      | true =>
        rw [hb] at hlive
        have hl2 := hlen hb
        have Hb := Lib.hid hb
        clear hlen hb
        gi_wp2_with (first
          | (refine ⟨trivial, ?_⟩; gi_at_call 86; refine (callsIn_wide.2 (hlive _ hkd)).mono ?_; rintro e w2 ⟨rfl, hb2⟩; have hk2 : KeepOk ok W w2 := hkd.trans (KeepOk.of_below hb2 (hkd.lt hok)); have hj2 := hJ _ _ w2 none hjd (grown_of_below hb2) (fun r e => by cases e); obtain ⟨fn, tmps, assign, body, hy, hR⟩ := hY _ x w2 hj2 hl2)
          | gi_in)
        refine hR.mono ?_
        rintro e W3 (⟨rfl, hJ3, hk3⟩ | ⟨rfl, hJx3⟩)
        · gi_wp2
          go_roundw
          case rel => exact ⟨k + 1, by omega, by simp, by rw [Hyes.out Hb.out]; exact hJ3, hk2.trans hk3⟩
          case measure => simp [intOf]; omega
        · gi_wp2
          refine bodyPost_ret (results_none rfl _ _ _) rfl ?_
          exact ⟨⟨_, rfl⟩, .inr ⟨_, by rw [Hyes.out Hb.out] at hpre; exact hpre, hJx3⟩⟩
      | false =>
        rw [hb] at hlive
        have Hb := Lib.hid hb
        clear hlen hb
        gi_wp2_with (first
          | (refine ⟨trivial, ?_⟩; gi_at_call 86; refine (callsIn_wide.2 (hlive _ hkd)).mono ?_; rintro e w2 ⟨rfl, hb2⟩; have hk2 : KeepOk ok W w2 := hkd.trans (KeepOk.of_below hb2 (hkd.lt hok)); have hj2 := hJ _ _ w2 none hjd (grown_of_below hb2) (fun r e => by cases e))
          | gi_in)
        repeat (refine ⟨fun _ h => (by cases h), ?_⟩)
        gi_wp2
        go_roundw
        case rel => exact ⟨k + 1, by omega, by simp, by rw [Hno.out Hb.out]; exact hj2, hk2⟩
        case measure => simp [intOf]; omega
    · obtain rfl : k = nodes.toNat := by omega
      gi_wp2
      go_end0
      exact ⟨⟨_, rfl⟩, .inl ⟨_, rfl, hJs⟩⟩
end Go.Proofs
/- Collect over the living nodes: contracts of AppendSeq (88), Collect (82), Ring (70): RingOk. No condition but RingOk's own bounds. -/
set_option linter.unusedVariables false
set_option linter.unusedSimpArgs false
namespace Go.Proofs
open Go.RowKit Go.Shelf Go.Hg
attribute [local go_sem] Oper.semAt_some

theorem ring_stops (n : Nat) (hn : 1 ≤ n) {vol nodes : Int} {live : List Bool} (h0 : 0 ≤ vol) (hv : vol ≤ 9223372036854775807) (hn1 : 1 ≤ nodes) (hn2 : nodes ≤ 64) (hll : live.length ≤ 1048576)
    {w : World} {ok : Nat → Prop} {us : List Value} (hok : ∀ b : Nat, ok b → b < w.heap.size) (hr : RepT w ok (fun _ => none) [.fp [i64 vol], .fp [i64 nodes], .fp [rowOf boolEnc live]] false us) :
    SeqStopsK Fence.wide n Try.prog 85 us.toArray (fun x : Int => #[Value.int .i64 x]) (KeepOk ok) (fun xs => xs = ringF vol nodes live) (fun pre => pre <+: ringF vol nodes live) (ringF vol nodes live).length w := by
  intro l J Jx W hW hJ hJx hY hj0
  simp only [RepT, Rep, RepL] at hr
  obtain ⟨_, _, rfl, ⟨A1, _, rfl, a1, _, _, rfl, _, rfl, rfl⟩, _, _, rfl, ⟨A2, _, rfl, a2, _, _, rfl, _, rfl, rfl⟩, _, _, rfl, ⟨A3, _, rfl, a3, u3, _, rfl, _, h3, rfl⟩, rfl⟩ := hr
  unfold rowOf at h3
  simp only [Rep] at h3
  obtain ⟨A, c, us3, rfl, hcl, hA, hb⟩ := h3
  have e3 := boolsL hb
  subst e3
  have hkw : KeepOk ok w W := KeepOk.of_below hW hok
  have a1' := At.one a1
  have a2' := At.one a2
  have a3' := At.one a3
  exact ring1_in n l hn vol nodes live h0 hv hn1 hn2 hll J Jx ok A1 A2 A3 A c hcl W (hkw.lt hok) a1'.2 a2'.2 a3'.2 ((hkw.cell a1'.2).trans a1'.1) ((hkw.cell a2'.2).trans a2'.1) ((hkw.cell a3'.2).trans a3'.1)
    (hA.mono (fun b hb => hkw b hb) (fun b hb => hb)) hJ hY hj0

theorem Try.ainfo3 : (Try.prog.info? 3).map (fun i => (i.zero, i.size, i.bytes)) = some (some (.int .i64 0), 1, 8) := by kernel_rfl

theorem keepOk_b {ok : Nat → Prop} {w : World} (hok : ∀ b : Nat, ok b → b < w.heap.size) (W : World) (l : Nat) (o o' : Obj) (hl : w.heap.size ≤ l) (h : W.heap[l]? = some o) (_ : o.isCells = false) (_ : o.isWalk = false) : KeepOk ok W (W.putObj l o') :=
  fun b hb => World.putObj_heap_other (by have := hok b hb; omega)

set_option maxRecDepth 100000 in
set_option maxHeartbeats 4000000 in
theorem append_in (n : Nat) (hn : 3 ≤ n) (sv : Array Value) (ok : Nat → Prop) (ys : List Int) (w : World) (hok : ∀ b : Nat, ok b → b < w.heap.size) (hlen : ys.length ≤ 64)
    (hseq : SeqStopsK Fence.wide (n - 1) Try.prog 85 sv (fun x : Int => #[Value.int .i64 x]) (KeepOk ok) (fun xs => xs = ys) (fun pre => pre <+: ys) ys.length w) :
    CallsIn Fence.wide n Try.prog 88 #[.slice none 0 0, .func (.func 85) #[] sv] w fun e W' => ∃ v, e = .returned v ∧ W'.ownsRow w.heap.size 3 1 v ys.length (ys.map (Value.int .i64)) ∧ (v = .slice none 0 0 ↔ ys = []) ∧ Below w.heap.size w W' := by
  have h1 : 1 ≤ n := by omega
  obtain ⟨i0, hi, hz0, hz1, hz2⟩ := info_parts Try.ainfo3
  refine callsIn_of_wp_marks Try.func88 rfl trivial ?_ rfl
  simp only [Try.ntmps88, List.size_toArray, List.length_cons, List.length_nil, Nat.reduceAdd, Nat.reduceSub, Array.replicate_succ, Array.replicate_zero, List.push_toArray, List.append_toArray, List.nil_append, List.cons_append]
  gi_wp2
  have bO := Boxed.new w 74 (.slice none 0 0)
  have hB0 : Below w.heap.size w (w.alloc (.cells #[.slice none 0 0] 74)) := (Below.refl _ w).alloc (Nat.le_refl _) _
  refine wpIn_rangeFunc_ownG rfl h1 (gf := 85) (lb := sv) rfl trivial (enters_of Try.func85 (by kernel_rfl) rfl)
    hseq (fun h k => KeepOk.trans h k) (keepOk_b (fun b hb => by have := hok b hb; simp; omega)) hB0 (fun _ => rfl)
    (fun pre W => (∃ v, Boxed W w.heap.size 74 v ∧ W.ownsRow w.heap.size 3 1 v pre.length (pre.map (Value.int .i64)) ∧ (v = .slice none 0 0 ↔ pre = [])) ∧ Below w.heap.size w W)
    (fun _ _ _ => False)
    (OwnFrom.and (Own.from (holdsRow_own w.heap.size w.heap.size 74 3 1 (fun pre : List Int => pre.length) (fun pre => pre.map (Value.int .i64)) (fun pre v => v = .slice none 0 0 ↔ pre = [])) _) (ownFrom_below (Nat.le_refl _) (by simp)))
    (fun _ _ _ _ _ hs _ _ => hs)
    ⟨⟨_, bO, World.ownsRow_nil _ _ _ _, by simp⟩, hB0⟩
    (fun x => { tmps := #[.slice none 0 0, .func (.func 85) #[] sv, .pointer (some ⟨w.heap.size, 0, none⟩), undef, .slice none 0 0, .int .i64 x, .func (.func 85) #[] sv, .int .i64 x, undef, undef, undef, undef, undef], defers := [] }) ?assign ?body ?done ?stop
  case assign =>
    intro l x W K hK
    gi_wp2
    exact hK
  case body =>
    rintro l pre x W ⟨⟨v, hv, hrow, hnil⟩, hB⟩ hlt
    have hc := hv.cell
    gi_wp2_with (gi_at_builtin; refine wpListIn_append_own _ rfl _ _ 74 rfl w.heap.size 3 i0 (.int .i64 0) 1 8 Try.underlying74 hi hz0 hz1 hz2 rfl (by decide) _ _ _ rfl (hrow.alloc _) ⟨W.heap.size, 0, none⟩ 1 1 [.int .i64 x] rfl rfl (cell_one_new _ _ _) (by simp [Value.oneCell']) (by unfold maxLen; omega) (by omega) (by have := hB.size; simp; omega) ?_; intro v' w1 hown' hgrow _; obtain ⟨g', cap', rfl⟩ := ownsRow_succ hown'; obtain ⟨hv1, hv2, hr2, hk2, hb2⟩ := hv.appended (by decide) hrow hB.size (Nat.le_refl _) hown' hgrow; have hc1 := hv1.cell; have hf1 := hv1.frozen)
    exact ⟨hk2.from _, fun b hb => hb2.block b (hok b hb), ⟨_, hv2, by simpa using hr2, by simp⟩, hB.trans hb2⟩
  case done =>
    rintro D ys' W hD rfl ⟨⟨v, hv, hrow, hnil⟩, hB⟩ hK
    have hc := hv.cell
    gi_wp2
    refine ⟨by simp, .inl ⟨_, _, rfl, run_takeDeferred hK, ?_⟩⟩
    exact ⟨_, results_tmp rfl _ _ _, v, rfl, ownsRow_putObj hrow _ hK rfl, hnil, hB.trans (belowK_b (w := w) (Nat.le_refl _) W D _ _ (by simp at hD; omega) hK rfl rfl)⟩
  case stop =>
    rintro D c pre W _ _ h _
    exact h.elim

theorem ints_row {w : World} {G : Nat → Option Nat} {base : Nat} {v : Value} {ys : List Int} (h : w.ownsRow base 3 1 v ys.length (ys.map (Value.int .i64))) {ok : Nat → Prop} (hok : ∀ b : Nat, base ≤ b → b < w.heap.size → ok b) : Rep w ok G (rowOf intEnc ys) false v := by
  unfold rowOf
  have hl : ∀ (zs : List Int), RepL w ok G (zs.flatMap intEnc) false (zs.map (Value.int .i64)) := fun zs => by
    induction zs with
    | nil => simp [RepL]
    | cons z zs ih =>
      simp only [List.flatMap_cons, intEnc, List.cons_append, List.nil_append, RepL, Rep, List.map_cons]
      exact ⟨_, _, rfl, rfl, rfl, ih⟩
  have hc := fun g => h.cells (g := g)
  obtain ⟨hx, h⟩ := h
  simp only [Rep]
  rcases h with ⟨rfl, h0⟩ | ⟨g, cap, cur, rfl, hg, hh, hn, hm, hs, ht⟩
  · have : ys = [] := List.eq_nil_of_length_eq_zero h0
    subst this
    exact ⟨none, 0, [], rfl, Nat.le_refl _, .inl rfl, by simp [RepL]⟩
  · refine ⟨_, cap, _, rfl, hn, .inr ⟨_, rfl, hok g hg (Array.getElem?_eq_some_iff.1 hh).1, fun j u hj => ?_⟩, hl ys⟩
    exact hc g rfl j u hj

set_option maxRecDepth 100000 in
set_option maxHeartbeats 1000000 in
theorem collect_ac (vol nodes : Int) (live : List Bool) (h0 : 0 ≤ vol) (hv : R64 vol) (hn1 : 1 ≤ nodes) (hn2 : nodes ≤ 64) (hll : live.length ≤ 1048576) :
    AC Try.prog 82 [.fn 85 [.fp [i64 vol], .fp [i64 nodes], .fp [rowOf boolEnc live]]] (rowOf intEnc (ringF vol nodes live)) := by
  intro w ok us hok hr
  simp only [RepT] at hr
  obtain ⟨u, _, rfl, hu, rfl⟩ := hr
  rw [Rep] at hu
  obtain ⟨caps, rfl, hcaps⟩ := hu
  have hs := ring_stops 3 (by omega) h0 hv.2 hn1 hn2 hll hok hcaps
  have hle := ringF_le vol nodes live
  have ha := callsIn_wide.1 (append_in 4 (by omega) caps.toArray ok (ringF vol nodes live) w hok (by omega) hs)
  clear hs hle
  refine (callsIn_wide (n := 5)).1 (callsIn_of_wp Try.func82 rfl trivial ?_ rfl)
  simp only [Try.ntmps82, List.size_toArray, List.length_cons, List.length_nil, Nat.reduceAdd, Nat.reduceSub, Array.replicate_succ, Array.replicate_zero, List.push_toArray, List.append_toArray, List.nil_append, List.cons_append]
  gi_wp2_with (refine ⟨trivial, ?_⟩; gi_at_call 88; refine (callsIn_wide.2 ha).mono ?_; rintro e w' ⟨v, rfl, hrow, _, hb⟩)
  go_ret
  exact ⟨v, rfl, ints_row hrow (fun b h1 h2 => .inr ⟨h1, h2⟩), hb⟩
end Go.Proofs
/- Chapter 16: walks. Printed by gen.py. -/
set_option linter.unusedVariables false
set_option linter.unusedSimpArgs false
set_option maxRecDepth 100000
namespace Go.Proofs
open Go.Hg

theorem ring_ok : RingOk := by
  intro vol nodes live h0 hv hn1 hn2 hll
  refine AC.intro Try.func70 rfl (Nat.le_of_ble_eq_true rfl) ?_
  refine ok_reg ?_
  first
    | refine s1 rfl (lop_assign (v := .sl _ _) rfl) ?_
    | refine s1 rfl (lop_assign (v := .os _ _ _ _) rfl) ?_
    | refine s1 rfl (lop_assign (v := .z0) rfl) ?_
  refine ops_nil ?_
  refine ok_reg ?_
  refine s1 rfl (lop_move (v := .int _ _) rfl) ?_
  refine s1 rfl (lop_move (v := .int _ _) rfl) ?_
  first
    | refine s1 rfl (lop_move (v := .sl _ _) rfl) ?_
    | refine s1 rfl (lop_move (v := .os _ _ _ _) rfl) ?_
    | refine s1 rfl (lop_move (v := .z0) rfl) ?_
  refine s1 rfl (lop_call rfl Try.call77 (FrzL.tf rfl) (.inl rfl) (site_ring_ac vol nodes live)) ?_
  refine s1 rfl (lop_call rfl Try.call82 (FrzL.tf rfl) (.inl rfl) (collect_ac vol nodes live h0 hv hn1 hn2 hll)) ?_
  refine s1 rfl (lop_assign (v := .sl _ _) rfl) ?_
  refine ops_nil ?_
  refine ok_ret ?_
  exact ret_one rfl rfl rfl rfl rfl

end Go.Proofs
