/- A place besides: contract of site.Next (53): NextOk. -/
import Derived.Test.YtikikdgfebbcmaaT16r
set_option linter.unusedVariables false
set_option linter.unusedSimpArgs false
namespace Go.Proofs
open Go.RowKit Go.Shelf Go.Hg
attribute [local go_sem] Oper.semAt_some

def plVals (l : List PlD) : List Value := l.flatMap fun p => [.int .i64 p.r, .int .i64 p.n]
theorem plL {w : World} {ok : Nat → Prop} {G : Nat → Option Nat} {tk : Bool} : ∀ {l : List PlD} {us : List Value}, RepL w ok G (l.flatMap PlD.enc) tk us → us = plVals l
  | [], us, h => by simpa [RepL, plVals] using h
  | b :: l, us, h => by
    simp only [List.flatMap_cons, PlD.enc, List.cons_append, List.nil_append, RepL, Rep] at h
    obtain ⟨u, us', rfl, _, rfl, u2, us2, rfl, _, rfl, h⟩ := h
    rw [plL h]; simp [plVals]
theorem plL_mk {w : World} {ok : Nat → Prop} {G : Nat → Option Nat} {tk : Bool} : ∀ {l : List PlD}, RepL w ok G (l.flatMap PlD.enc) tk (plVals l)
  | [] => by simp [RepL, plVals]
  | b :: l => by
    simp only [List.flatMap_cons, PlD.enc, List.cons_append, List.nil_append, RepL, Rep, plVals]
    exact ⟨_, _, rfl, rfl, rfl, _, _, rfl, rfl, rfl, plL_mk⟩
theorem plVals_length : ∀ l : List PlD, (plVals l).length = l.length * 2
  | [] => rfl
  | b :: l => by simp only [plVals, List.flatMap_cons, List.length_append, List.length_cons, List.length_nil]; have := plVals_length l; unfold plVals at this; omega
theorem plVals_at : ∀ {l : List PlD} {i : Nat} (h : i < l.length), (plVals l)[2 * i]? = some (.int .i64 l[i].r) ∧ (plVals l)[2 * i + 1]? = some (.int .i64 l[i].n)
  | b :: l, 0, _ => ⟨rfl, rfl⟩
  | b :: l, i + 1, h => by
    have h2 := plVals_at (l := l) (i := i) (by simpa using h)
    have e : plVals (b :: l) = .int .i64 b.r :: .int .i64 b.n :: plVals l := rfl
    rw [e, show 2 * (i + 1) = 2 * i + 1 + 1 by omega]
    simpa using h2

theorem pl_cell {w : World} {ok : Nat → Prop} {ad : Addr} {l : List PlD} (h : At w ok (some ad) (plVals l)) {i : Nat} (hi : i < l.length) : w.cell? (ad.add (2 * i)) = some (.int .i64 l[i].r) ∧ w.cell? (ad.add (2 * i + 1)) = some (.int .i64 l[i].n) := by
  have h2 := plVals_at hi
  rcases h with h | ⟨ad', h1, _, hc⟩
  · rw [h] at h2; simp at h2
  · cases h1
    exact ⟨hc _ _ h2.1, hc _ _ h2.2⟩

/-- The part that leaves early. -/
def nextEarly (l : List PlD) (nodes : Int) : Prop := l = [] ∨ ¬ (1 ≤ nodes ∧ nodes ≤ 64) ∨ l.any (fun p => decide (p.r ≠ (l.getD 0 ⟨0, 0⟩).r)) = true

/-- Is the node's place among l? -/
def contB (l : List PlD) (x : Int) : Bool := decide (0 ≤ idxOf (fun p => decide ((⟨(l.getD 0 ⟨0, 0⟩).r, x⟩ : PlD) = p)) l)
theorem cont_calls {l : List PlD} (hl : l.length ≤ 1048577) {hl0 : 0 < l.length} (ok : Nat → Prop) {w : World} (hok : ∀ b : Nat, ok b → b < w.heap.size) {ad : Addr} {cl : Nat} (hcl : l.length ≤ cl) (had : At w ok (some ad) (plVals l)) {W : World} (hB : Below w.heap.size w W) (x : Int) :
    Calls Try.prog 78 #[.slice (some ad) l.length cl, .agg #[.int .i64 l[0].r, .int .i64 x]] W fun e w' => e = .returned (.bool (contB l x)) ∧ Below W.heap.size W w' := by
  have := AC.bool_at (contains_Place_ac (l := l) (by omega) ⟨l[0].r, x⟩) (w := W) (ok := ok) (us := [.slice (some ad) l.length cl, .agg #[.int .i64 l[0].r, .int .i64 x]])
    (fun b h => by have := hok b h; have := hB.size; omega)
    (by
      simp only [RepT, rowOf, Rep]
      exact ⟨_, _, rfl, ⟨some ad, cl, _, rfl, hcl, had.mono (fun b h => hB.block b (hok b h)) (fun b h => h), plL_mk⟩, _, _, rfl, ⟨[.int .i64 l[0].r, .int .i64 x], rfl, by simp only [PlD.enc, RepL, Rep]; exact ⟨_, _, rfl, rfl, rfl, _, _, rfl, rfl, rfl, rfl⟩⟩, rfl⟩)
  unfold contB
  rw [getD_at _ hl0]
  exact this

theorem three_set {W : World} {b b' : Nat} {a0 a1 a2 : Value} {T T' : TypeId} (h6 : W.heap[b]? = some (.cells #[a0, a1] T (0, 0))) (h7 : W.heap[b']? = some (.cells #[a2] T' (0, 0))) (hne : b ≠ b') (u v z : Value) :
    (((W.setCell ⟨b, 0, none⟩ u).setCell ⟨b, 1, none⟩ v).setCell ⟨b', 0, none⟩ z).cell? ⟨b, 0, none⟩ = some u ∧ (((W.setCell ⟨b, 0, none⟩ u).setCell ⟨b, 1, none⟩ v).setCell ⟨b', 0, none⟩ z).cell? ⟨b, 1, none⟩ = some v ∧ (((W.setCell ⟨b, 0, none⟩ u).setCell ⟨b, 1, none⟩ v).setCell ⟨b', 0, none⟩ z).cell? ⟨b', 0, none⟩ = some z := by
  have c0 : W.cell? ⟨b, 0, none⟩ = some a0 := by simp [World.cell?, h6]
  have c1 : W.cell? ⟨b, 1, none⟩ = some a1 := by simp [World.cell?, h6]
  have c2 : W.cell? ⟨b', 0, none⟩ = some a2 := by simp [World.cell?, h7]
  have n1 : (⟨b, 0, none⟩ : Addr) ≠ ⟨b, 1, none⟩ := by simp
  have n1' : (⟨b, 1, none⟩ : Addr) ≠ ⟨b, 0, none⟩ := by simp
  have n2 : (⟨b', 0, none⟩ : Addr) ≠ ⟨b, 0, none⟩ := by intro e; injection e with e1; exact hne e1.symm
  have n2' : (⟨b, 0, none⟩ : Addr) ≠ ⟨b', 0, none⟩ := by intro e; injection e with e1; exact hne e1
  have n3 : (⟨b', 0, none⟩ : Addr) ≠ ⟨b, 1, none⟩ := by simp
  have n3' : (⟨b, 1, none⟩ : Addr) ≠ ⟨b', 0, none⟩ := by simp
  have d0 := World.cell?_setCell_same W ⟨b, 0, none⟩ u c0
  have d1 := World.cell?_setCell_same (W.setCell ⟨b, 0, none⟩ u) ⟨b, 1, none⟩ v ((World.cell?_setCell_other W _ _ u n1).trans c1)
  have d2 := (World.cell?_setCell_other (W.setCell ⟨b, 0, none⟩ u) _ _ v n1').trans d0
  have e2 := (World.cell?_setCell_other (W.setCell ⟨b, 0, none⟩ u) _ _ v n3').trans ((World.cell?_setCell_other W _ _ u n2').trans c2)
  exact ⟨(World.cell?_setCell_other _ _ _ z n2).trans d2, (World.cell?_setCell_other _ _ _ z n3).trans d1, World.cell?_setCell_same _ _ z e2⟩
theorem res53 {tmps : Array Value} {W : World} {b6 b7 : Nat} {u v z : Value} (h6 : tmps.getD 6 undef = .pointer (some ⟨b6, 0, none⟩)) (h7 : tmps.getD 7 undef = .pointer (some ⟨b7, 0, none⟩))
    (c60 : W.cell? ⟨b6, 0, none⟩ = some u) (c61 : W.cell? ⟨b6, 1, none⟩ = some v) (c70 : W.cell? ⟨b7, 0, none⟩ = some z) : (results Try.f53 tmps).run Try.prog W = .ok (.tuple #[.agg #[u, v], z]) W := by
  refine run_results_list (us := [.agg #[u, v], z]) ?_
  have hr : Try.f53.results.toList = [.cell 6 41, .cell 7 47] := rfl
  have e1 := run_loadVar_agg Try.isAgg41 Try.sizeOf41 W ⟨b6, 0, none⟩ [u, v] rfl (fun j x hj => by
    match j with
    | 0 => simp at hj; subst hj; exact c60
    | 1 => simp at hj; subst hj; exact c61
    | j + 2 => simp at hj)
  have e2 := run_loadVar_one Try.isAgg47 W ⟨b7, 0, none⟩ z c70
  rw [hr]
  simp only [List.mapM_cons, List.mapM_nil, resOf, h6, h7, asAddr, Sem.run_bind, Sem.run_pure, Result.andThen_ok, e1, e2]
theorem any_contB (l : List PlD) (k : PlD) : l.any (fun p => decide (p = k)) = decide (0 ≤ idxOf (fun p => decide (k = p)) l) := by
  rcases idxOf_cases (fun p => decide (k = p)) l with ⟨h1, h2⟩ | ⟨i, hi, h1, h2, _⟩
  · rw [h1]
    rw [show l.any (fun p => decide (p = k)) = false from by
      rw [List.any_eq_false]
      intro p hp
      have := h2 p hp
      simp only [decide_eq_false_iff_not] at this
      simpa using fun e => this e.symm]
    rfl
  · rw [h1, decide_eq_true (by omega)]
    rw [List.any_eq_true]
    exact ⟨l[i], List.getElem_mem hi, by simpa using (of_decide_eq_true h2).symm⟩
theorem nextF_eq {l : List PlD} {nodes : Int} {live : List Bool} (hl0 : 0 < l.length) (hn1 : 1 ≤ nodes) (hn2 : nodes ≤ 64) (hany : idxOf (fun p : PlD => decide (p.r ≠ l[0].r)) l < 0) {fr : Int}
    (hfr : (if l[l.length - 1].n.tmod nodes < 0 then 0 else l[l.length - 1].n.tmod nodes) = fr) :
    nextF l nodes live = match (ringF fr nodes live).find? (fun n => !contB l n) with | some n => (⟨l[0].r, n⟩, 0) | none => (⟨0, 0⟩, 10) := by
  unfold nextF
  have h1 : ¬ (l = [] ∨ ¬ (1 ≤ nodes ∧ nodes ≤ 64)) := by
    rintro (h | h)
    · rw [h] at hl0; simp at hl0
    · omega
  rw [if_neg h1]
  rw [getD_at (i := 0) _ hl0, getD_at (i := l.length - 1) _ (by omega)]
  have h2 : l.any (fun p => decide (p.r ≠ l[0].r)) = false := by
    rcases idxOf_cases (fun p : PlD => decide (p.r ≠ l[0].r)) l with ⟨_, h⟩ | ⟨i, hi, h, _⟩
    · rw [List.any_eq_false]
      intro p hp
      have := h p hp
      rw [this]; simp
    · omega
  rw [h2, if_neg (by simp), show (if 0 > l[l.length - 1].n.tmod nodes then 0 else l[l.length - 1].n.tmod nodes) = fr from hfr]
  have h3 : (fun n => !l.any (fun p => decide (p = (⟨l[0].r, n⟩ : PlD)))) = (fun n => !contB l n) := by
    funext n
    unfold contB
    rw [getD_at (i := 0) _ hl0, any_contB]
  rw [h3]
  cases (ringF fr nodes live).find? (fun n => !contB l n) <;> rfl
theorem nextF_none {l : List PlD} {nodes : Int} {live : List Bool} (hl0 : 0 < l.length) (hn1 : 1 ≤ nodes) (hn2 : nodes ≤ 64) (hany : idxOf (fun p : PlD => decide (p.r ≠ l[0].r)) l < 0) {fr : Int}
    (hfr : (if l[l.length - 1].n.tmod nodes < 0 then 0 else l[l.length - 1].n.tmod nodes) = fr) (h : ∀ x ∈ ringF fr nodes live, contB l x = true) : nextF l nodes live = (⟨0, 0⟩, 10) := by
  rw [nextF_eq hl0 hn1 hn2 hany hfr, List.find?_eq_none.2 (fun x hx => by rw [h x hx]; simp)]
theorem nextF_some {l : List PlD} {nodes : Int} {live : List Bool} (hl0 : 0 < l.length) (hn1 : 1 ≤ nodes) (hn2 : nodes ≤ 64) (hany : idxOf (fun p : PlD => decide (p.r ≠ l[0].r)) l < 0) {fr : Int}
    (hfr : (if l[l.length - 1].n.tmod nodes < 0 then 0 else l[l.length - 1].n.tmod nodes) = fr) {pre : List Int} {x : Int} (hp : pre ++ [x] <+: ringF fr nodes live) (h : ∀ x ∈ pre, contB l x = true) (hx : contB l x = false) : nextF l nodes live = (⟨l[0].r, x⟩, 0) := by
  obtain ⟨r, hr⟩ := hp
  rw [nextF_eq hl0 hn1 hn2 hany hfr, ← hr, List.find?_append, List.find?_append, List.find?_eq_none.2 (fun x hx => by rw [h x hx]; simp)]
  simp [hx]
theorem own_block {β : Type} {B b : Nat} (f : β → Array Value) (T : TypeId) : OwnFrom B (fun (s : β) (W : World) => W.heap[b]? = some (.cells (f s) T (0, 0))) := fun s X Y row h hg hr => by
  refine (hg.block b (Array.getElem?_eq_some_iff.1 h).1 (fun e => ?_)).trans h
  obtain ⟨_, o, ho, hc⟩ := hr b e.symm
  rw [h] at ho; cases ho; cases hc
theorem KeepsOthers.of_below {W W' : World} (hb : Below W.heap.size W W') : KeepsOthers W W' := ⟨hb.size, fun k o hk _ => (hb.block k (Array.getElem?_eq_some_iff.1 hk).1).trans hk⟩
theorem two_cells {W : World} {b : Nat} {u v : Value} {T : TypeId} (h : W.heap[b]? = some (.cells #[u, v] T (0, 0))) : W.cell? ⟨b, 0, none⟩ = some u ∧ W.cell? ⟨b, 1, none⟩ = some v ∧ W.frozen? ⟨b, 0, none⟩ = false ∧ W.frozen? ⟨b, 1, none⟩ = false := by
  refine ⟨?_, ?_, ?_, ?_⟩ <;> simp [World.cell?, World.frozen?, h]
theorem one_cell {W : World} {b : Nat} {u : Value} {T : TypeId} (h : W.heap[b]? = some (.cells #[u] T (0, 0))) : W.cell? ⟨b, 0, none⟩ = some u ∧ W.frozen? ⟨b, 0, none⟩ = false := by
  refine ⟨?_, ?_⟩ <;> simp [World.cell?, World.frozen?, h]

set_option maxRecDepth 100000 in
set_option maxHeartbeats 4000000 in
theorem next_in (n : Nat) (hn : 4 ≤ n) (l : List PlD) (nodes : Int) (live : List Bool) (hl : l.length ≤ 1048577) (hp : ∀ p ∈ l, R64 p.n) (hll : live.length ≤ 1048576) (hl0 : 0 < l.length) (hn1 : 1 ≤ nodes) (hn2 : nodes ≤ 64)
    (hany : idxOf (fun p : PlD => decide (p.r ≠ l[0].r)) l < 0)
    (ok : Nat → Prop) (ad : Addr) (cl : Nat) (hcl : l.length ≤ cl) (A : Option Addr) (c : Nat) (hc : live.length ≤ c) (w : World) (hok : ∀ b : Nat, ok b → b < w.heap.size) (oad : ok ad.block) (had : At w ok (some ad) (plVals l)) (hA : At w ok A (live.map Value.bool)) :
    CallsIn Fence.wide n Try.prog 53 #[.slice (some ad) l.length cl, .int .i64 nodes, .slice A live.length c] w fun e W' => e = .returned (.tuple #[.agg #[.int .i64 (nextF l nodes live).1.r, .int .i64 (nextF l nodes live).1.n], .int .i64 (nextF l nodes live).2]) ∧ Below w.heap.size w W' := by
  have h1 : 1 ≤ n := by omega
  refine callsIn_of_wp_marks Try.func53 rfl trivial ?_ rfl
  simp only [Try.ntmps53, List.size_toArray, List.length_cons, List.length_nil, Nat.reduceAdd, Nat.reduceSub, Array.replicate_succ, Array.replicate_zero, List.push_toArray, List.append_toArray, List.nil_append, List.cons_append]
  have hm : decide (1 ≤ nodes ∧ nodes ≤ 64) = true := decide_eq_true ⟨hn1, hn2⟩
  have hmay : ∀ w, Calls Try.prog 69 #[.int .i64 nodes] w fun e w' => e = .returned (.bool true) ∧ Below w.heap.size w w' := fun w => by
    have := AC.bool_at (site_may_ac nodes) (w := w) (ok := fun _ => False) (us := [.int .i64 nodes]) (fun _ h => h.elim) (by simp [RepT, Rep])
    rw [hm] at this
    exact this
  clear hm
  obtain ⟨W0, hW0⟩ : ∃ W0, ((w.alloc (.cells #[.slice (some ad) l.length cl] 30)).alloc (.cells #[.int .i64 0, .int .i64 0] 41)).alloc (.cells #[.int .i64 0] 47) = W0 := ⟨_, rfl⟩
  have hsz0 : W0.heap.size = w.heap.size + 3 := by rw [← hW0]; simp
  have hB0 : Below w.heap.size w W0 := by rw [← hW0]; exact (((Below.refl _ w).alloc (Nat.le_refl _) _).alloc (by simp) _).alloc (by simp; omega) _
  have g3 : W0.heap[w.heap.size]? = some (.cells #[.slice (some ad) l.length cl] 30 (0, 0)) := by
    rw [← hW0, Below.heap_alloc _ _ _ (by simp; omega), Below.heap_alloc _ _ _ (by simp)]; exact World.alloc_heap_new w _
  have g6 : W0.heap[w.heap.size + 1]? = some (.cells #[.int .i64 0, .int .i64 0] 41 (0, 0)) := by
    rw [← hW0, Below.heap_alloc _ _ _ (by simp)]
    have := World.alloc_heap_new (w.alloc (.cells #[.slice (some ad) l.length cl] 30)) (.cells #[.int .i64 0, .int .i64 0] 41)
    rwa [World.size_alloc] at this
  have g7 : W0.heap[w.heap.size + 2]? = some (.cells #[.int .i64 0] 47 (0, 0)) := by
    rw [← hW0]
    have := World.alloc_heap_new ((w.alloc (.cells #[.slice (some ad) l.length cl] 30)).alloc (.cells #[.int .i64 0, .int .i64 0] 41)) (.cells #[.int .i64 0] 47)
    rwa [World.size_alloc, World.size_alloc] at this
  have hcf : ∀ (b1 : Nat) (W : World), Below w.heap.size w W → w.heap.size ≤ b1 → b1 < W.heap.size → W.cell? ⟨b1, 0, none⟩ = some (.int .i64 l[0].r) → Calls Try.prog 75 #[.slice (some ad) l.length cl, .func (.func 76) #[] #[.pointer (some ⟨b1, 0, none⟩)]] W fun e w' => e = .returned (.bool false) ∧ Below W.heap.size W w' := fun b1 W hb h2 h3 h4 => by
    have := AC.bool_at (containsFunc_Place_ac (l := l) (by omega) l[0].r) (w := W) (ok := fun b => ok b ∨ b = b1) (us := [.slice (some ad) l.length cl, .func (.func 76) #[] #[.pointer (some ⟨b1, 0, none⟩)]])
      (fun b h => h.elim (fun h => by have := hok b h; have := hb.size; omega) (fun h => by omega))
      (by
        simp only [RepT, rowOf, Rep]
        refine ⟨_, _, rfl, ⟨some ad, cl, _, rfl, hcl, had.mono (fun b h => hb.block b (hok b h)) (fun b h => .inl h), plL_mk⟩, _, _, rfl, ⟨[.pointer (some ⟨b1, 0, none⟩)], rfl, _, _, rfl, ⟨⟨b1, 0, none⟩, [.int .i64 l[0].r], rfl, .inr ⟨_, rfl, .inr rfl, ?_⟩, by simp only [RepL, Rep]; exact ⟨_, _, rfl, rfl, rfl, rfl⟩⟩, rfl⟩, rfl⟩
        intro j u hj
        match j with
        | 0 => simp at hj; subst hj; rw [Addr.add_zero']; exact h4
        | j + 1 => simp at hj)
    rw [decide_eq_false (by omega)] at this
    exact this
  have hadd : ({ block := (ad.add ((l.length - 1) * 2)).block, off := (ad.add ((l.length - 1) * 2)).off + 1 } : Addr) = ad.add (2 * (l.length - 1) + 1) := by
    unfold Addr.add
    rw [if_neg (show ¬ 2 * (l.length - 1) + 1 = 0 by omega)]
    split
    · first | (simp; omega) | simp
    · first | (simp; omega) | simp
  have hlast := (pl_cell had (i := l.length - 1) (by omega)).2
  rw [← hadd] at hlast
  have hzr : R64 l[l.length - 1].n := hp _ (List.getElem_mem _)
  generalize hzz : l[l.length - 1].n = z at hlast hzr
  have Hzz := Lib.hid hzz
  have hcn : ∀ W, Below w.heap.size w W → W.cell? { block := (ad.add ((l.length - 1) * 2)).block, off := (ad.add ((l.length - 1) * 2)).off + 1 } = some (.int .i64 z) := fun W hb =>
    (hb.cell (p := { block := (ad.add ((l.length - 1) * 2)).block, off := (ad.add ((l.length - 1) * 2)).off + 1 }) (by show (ad.add _).block < _; rw [block_add]; exact hok _ oad)).trans hlast
  have Hcn := Lib.hid hcn
  clear hzz hlast hadd hcn
  have h77 : ∀ (fr : Int) (W : World), Below w.heap.size w W → Calls Try.prog 77 #[.int .i64 fr, .int .i64 nodes, .slice A live.length c] W fun e w' => ∃ us : List Value, e = .returned (.func (.func 85) #[] us.toArray) ∧
      RepT w' (fun b => ok b ∨ (W.heap.size ≤ b ∧ b < w'.heap.size)) (fun _ => none) [.fp [i64 fr], .fp [i64 nodes], .fp [rowOf boolEnc live]] false us ∧ Below W.heap.size W w' := fun fr W hb => by
    refine (site_ring_ac fr nodes live W ok [.int .i64 fr, .int .i64 nodes, .slice A live.length c] (fun b h => by have := hok b h; have := hb.size; omega) ?_).mono ?_
    · simp only [RepT, rowOf, Rep]
      exact ⟨_, _, rfl, rfl, _, _, rfl, rfl, _, _, rfl, ⟨A, c, _, rfl, hc, hA.mono (fun b h => hb.block b (hok b h)) (fun b h => h), boolsL_mk⟩, rfl⟩
    · rintro e w' ⟨u, rfl, hu, hb'⟩
      simp only [Rep] at hu
      obtain ⟨us, rfl, hus⟩ := hu
      exact ⟨us, rfl, hus, hb'⟩
  have HW0 := Lib.hid hW0
  clear hW0
  gi_wp2_with (first
    | (refine ⟨trivial, ?_⟩; gi_at_call 69; rw [HW0.out]; refine (callsIn_wide.2 (hmay _)).mono ?_; rintro e w1 ⟨rfl, hb1⟩; have e3 : Boxed w1 w.heap.size 30 (.slice (some ad) l.length cl) := (hb1.block _ (by omega)).trans g3; have c3 := e3.cell; have hbw : Below w.heap.size w w1 := hB0.trans (hb1.mono (by omega)); have cr0 : w1.cell? ad = some (.int .i64 l[0].r) := (hbw.cell (hok _ oad)).trans (by have := (pl_cell had hl0).1; rwa [Nat.mul_zero, Addr.add_zero'] at this); have n8 := Boxed.new w1 3 (.int .i64 l[0].r); have e3a := e3.alloc (.cells #[.int .i64 l[0].r] 3); have c3a := e3a.cell; have hbw2 := hbw.alloc hbw.size (.cells #[.int .i64 l[0].r] 3))
    | (refine ⟨trivial, ?_⟩; gi_at_call 75; refine (callsIn_wide.2 (hcf _ _ hbw2 hbw.size n8.lt n8.cell)).mono ?_; rintro e w3 ⟨rfl, hb3⟩; have e3b : Boxed w3 w.heap.size 30 (.slice (some ad) l.length cl) := (hb3.block _ e3a.lt).trans e3a; have c3b := e3b.cell; have hbw3 : Below w.heap.size w w3 := hbw2.trans (hb3.mono hbw2.size); have cn := Hcn.out w3 hbw3)
    | (refine ⟨trivial, ?_⟩; gi_at_call 77; refine (callsIn_wide.2 (h77 _ _ hbw3)).mono ?_; rintro e w4 ⟨us, rfl, hus, hb4⟩)
    | gi_in)
  · exact absurd hl0 (by rw [‹l = []›]; simp)
  · have HUS := hus
    rw [if_pos h] at hus
    have e3c : Boxed w4 w.heap.size 30 (.slice (some ad) l.length cl) := (hb4.block _ e3b.lt).trans e3b
    have hs3 : w1.heap.size + 1 ≤ w3.heap.size := by have := hb3.size; simpa using this
    have hs4 := hb4.size
    have hs1 : w.heap.size + 3 ≤ w1.heap.size := by have := hb1.size; omega
    have lift : ∀ (k : Nat) (o : Obj), k < w.heap.size + 3 → W0.heap[k]? = some o → w4.heap[k]? = some o := fun k o hk h => by
      rw [hb4.block k (by omega), hb3.block k (by simp; omega), Below.heap_alloc _ _ _ (by omega), hb1.block k (by omega)]; exact h
    have d6 : w4.heap[w.heap.size + 1]? = some (.cells #[.int .i64 0, .int .i64 0] 41 (0, 0)) := lift _ _ (by omega) g6
    have d7 : w4.heap[w.heap.size + 2]? = some (.cells #[.int .i64 0] 47 (0, 0)) := lift _ _ (by omega) g7
    have d8 : Boxed w4 w1.heap.size 3 (.int .i64 l[0].r) := (hb4.block _ (by omega)).trans ((hb3.block _ (by simp)).trans n8)
    have hbw4 : Below w.heap.size w w4 := hbw3.trans (hb4.mono hbw3.size)
    have hk4 : ∀ b : Nat, (ok b ∨ w3.heap.size ≤ b ∧ b < w4.heap.size) → b < w4.heap.size := fun b h => h.elim (fun h => by have := hok b h; have := hbw4.size; omega) (fun h => h.2)
    have hst := ring_stops (n - 1) (by omega) (vol := (0 : Int)) (nodes := nodes) (live := live) (by omega) (by have := Int.tmod_lt_of_pos z (show 0 < nodes by omega); omega) hn1 hn2 hll hk4 hus
    clear g3 g6 g7 e3 e3a e3b n8 c3 c3a c3b cr0 cn lift hcf h77 hmay
    refine wpIn_rangeFunc_ownG rfl h1 (gf := 85) (lb := us.toArray) rfl trivial (enters_of Try.func85 (by kernel_rfl) rfl) hst (fun h k => KeepOk.trans h k) (keepOk_b hk4) (Below.refl _ _) (fun _ => rfl)
      (fun pre W => (∀ x ∈ pre, contB l x = true) ∧ Boxed W w.heap.size 30 (.slice (some ad) l.length cl) ∧ W.heap[w.heap.size + 1]? = some (.cells #[.int .i64 0, .int .i64 0] 41 (0, 0)) ∧ W.heap[w.heap.size + 2]? = some (.cells #[.int .i64 0] 47 (0, 0)) ∧ Boxed W w1.heap.size 3 (.int .i64 l[0].r) ∧ Below w.heap.size w W ∧ w4.heap.size ≤ W.heap.size)
      (fun cc pre W => cc = .ret ∧ (∃ pre' x, pre = pre' ++ [x] ∧ (∀ y ∈ pre', contB l y = true) ∧ contB l x = false ∧ W.cell? ⟨w.heap.size + 1, 0, none⟩ = some (.int .i64 l[0].r) ∧ W.cell? ⟨w.heap.size + 1, 1, none⟩ = some (.int .i64 x) ∧ W.cell? ⟨w.heap.size + 1 + 1, 0, none⟩ = some (.int .i64 0)) ∧ Below w.heap.size w W)
      ?hI ?hIx ⟨by simp, e3c, d6, d7, d8, hbw4, Nat.le_refl _⟩
      (fun x => { tmps := #[.slice (some ad) l.length cl, .int .i64 nodes, .slice A live.length c, .pointer (some ⟨w.heap.size, 0, none⟩), undef, undef, .pointer (some ⟨w.heap.size + 1, 0, none⟩), .pointer (some ⟨w.heap.size + 1 + 1, 0, none⟩), .pointer (some ⟨w1.heap.size, 0, none⟩), .int .i64 ((0 : Int)), .int .i64 x, .slice (some ad) l.length cl, .int .i64 l.length, .bool false, .bool false, .int .i64 nodes, .bool true, .bool false, .bool false, undef, .slice (some ad) l.length cl, .pointer (some ad), .pointer (some ad), .int .i64 l[0].r, .slice (some ad) l.length cl, .func (.func 76) #[] #[.pointer (some ⟨w1.heap.size, 0, none⟩)], .bool false, undef, .slice (some ad) l.length cl, .slice (some ad) l.length cl, .int .i64 l.length, .int .i64 (l.length - 1), .pointer (some (ad.add ((l.length - 1) * 2))), .pointer (some ⟨(ad.add ((l.length - 1) * 2)).block, (ad.add ((l.length - 1) * 2)).off + 1, none⟩), .int .i64 z, .int .i64 nodes, .int .i64 (z.tmod nodes), .int .i64 ((0 : Int)), .int .i64 ((0 : Int)), .int .i64 nodes, .slice A live.length c, .func (.func 85) #[] us.toArray, .int .i64 x, undef, undef, undef, undef, undef, undef, undef, undef, undef, undef], defers := [] }) ?assign ?body ?done ?stop
    case hI =>
      refine OwnFrom.and (fun s X Y row h hg hr => h) (OwnFrom.and (own_block (fun _ => _) _) (OwnFrom.and (own_block (fun _ => _) _) (OwnFrom.and (own_block (fun _ => _) _) (OwnFrom.and (own_block (fun _ => _) _) (OwnFrom.and (ownFrom_below (Nat.le_refl _) hbw4.size) ?_)))))
      exact fun s X Y row h hg hr => Nat.le_trans h hg.size
    case hIx =>
      refine fun cc => OwnFrom.and (fun s X Y row h hg hr => h) (OwnFrom.and ?_ (ownFrom_below (Nat.le_refl _) hbw4.size))
      rintro s X Y row ⟨pre', x, h1, h2, h3, h4, h5, h6⟩ hg hr
      exact ⟨pre', x, h1, h2, h3, cell_kept h4 hg (fun r e => (hr r e).2), cell_kept h5 hg (fun r e => (hr r e).2), cell_kept h6 hg (fun r e => (hr r e).2)⟩
    case assign =>
      intro l' x W K hK
      gi_wp2
      exact hK
    case body =>
      rintro l' pre x W ⟨hpre, e3, d6, d7, d8, hB, hS⟩ hlt
      have c3 := e3.cell
      have c8 := d8.cell
      have h78 := cont_calls (hl0 := hl0) hl ok hok hcl had hB x
      cases hx : contB l x with
      | true =>
        rw [hx] at h78
        have Hx := Lib.hid hx
        clear hx
        gi_wp2_with (first
          | (refine ⟨trivial, (fun _ => by omega), ?_⟩; gi_at_call 78; refine (CallsIn.inRound l' (callsIn_wide.2 h78)).mono ?_; rintro e w5 ⟨rfl, hb5⟩)
          | gi_in)
        refine ⟨(KeepsOthers.of_below hb5).from _, fun b hb => hb5.block b (by have := hk4 b hb; omega), ?_, ?_, (hb5.block _ (by omega)).trans d6, (hb5.block _ (by omega)).trans d7, (hb5.block _ d8.lt).trans d8, hB.trans (hb5.mono hB.size), Nat.le_trans hS hb5.size⟩
        · intro y hy
          rcases List.mem_append.1 hy with hy | hy
          · exact hpre y hy
          · simp at hy; subst hy; exact Hx.out
        · exact (hb5.block _ e3.lt).trans e3
      | false =>
        rw [hx] at h78
        have Hx := Lib.hid hx
        clear hx
        gi_wp2_with (first
          | (refine ⟨trivial, (fun _ => by omega), ?_⟩; gi_at_call 78; refine (CallsIn.inRound l' (callsIn_wide.2 h78)).mono ?_; rintro e w5 ⟨rfl, hb5⟩; have e8 : Boxed w5 w1.heap.size 3 (.int .i64 l[0].r) := (hb5.block _ d8.lt).trans d8; have c8' := e8.cell; have e6 : w5.heap[w.heap.size + 1]? = some (.cells #[.int .i64 0, .int .i64 0] 41 (0, 0)) := (hb5.block _ (by omega)).trans d6; have e7 : w5.heap[w.heap.size + 2]? = some (.cells #[.int .i64 0] 47 (0, 0)) := (hb5.block _ (by omega)).trans d7; obtain ⟨c60, c61, f60, f61⟩ := two_cells e6; obtain ⟨c70, f70⟩ := one_cell e7)
          | gi_in)
        refine ⟨((((KeepsOthers.of_below hb5).trans (KeepsOthers.setCell _ _ _)).trans (KeepsOthers.setCell _ _ _)).trans (KeepsOthers.setCell _ _ _)).from _, ⟨rfl, ⟨pre, x, rfl, hpre, Hx.out, ?_, ?_, ?_⟩, ((((hB.trans (hb5.mono hB.size)).setCell (p := ⟨w.heap.size + 1, 0, none⟩) (by simp) _).setCell (p := ⟨w.heap.size + 1, 1, none⟩) (by simp) _).setCell (p := ⟨w.heap.size + 1 + 1, 0, none⟩) (by simp; omega) _)⟩⟩
        · exact (three_set e6 e7 (by omega) _ _ _).1
        · exact (three_set e6 e7 (by omega) _ _ _).2.1
        · exact (three_set e6 e7 (by omega) _ _ _).2.2
    case done =>
      rintro D ys W hD rfl ⟨hpre, e3, d6, d7, d8, hB, hS⟩ hK
      obtain ⟨c60, c61, f60, f61⟩ := two_cells d6
      obtain ⟨c70, f70⟩ := one_cell d7
      have hnx := nextF_none hl0 hn1 hn2 hany (fr := (0 : Int)) (live := live) (by rw [Hzz.out]; exact if_pos h) hpre
      have Hnx := Lib.hid hnx
      clear hnx
      gi_wp2
      have hK' := (((KeepsOthers.setCell W ⟨w.heap.size + 1, 0, none⟩ (.int .i64 0)).trans (KeepsOthers.setCell _ ⟨w.heap.size + 1, 1, none⟩ (.int .i64 0))).trans (KeepsOthers.setCell _ ⟨w.heap.size + 1 + 1, 0, none⟩ (.int .i64 10))).same D _ hK rfl
      obtain ⟨k0, k1, k2⟩ := three_set d6 d7 (by omega) (.int .i64 0) (.int .i64 0) (.int .i64 10)
      have kk := fun (a : Addr) (v : Value) h => cell_kept (a := a) (v := v) h (grownBy_putObj' _ D (.deferred none)) (fun r e => by cases e; exact ⟨_, hK', rfl⟩)
      refine ⟨by simp, .inl ⟨_, _, rfl, run_takeDeferred hK', ?_⟩⟩
      exact ⟨_, res53 rfl rfl (kk _ _ k0) (kk _ _ k1) (kk _ _ k2), by rw [Hnx.out], ((((hB.setCell (p := ⟨w.heap.size + 1, 0, none⟩) (by simp) _).setCell (p := ⟨w.heap.size + 1, 1, none⟩) (by simp) _).setCell (p := ⟨w.heap.size + 1 + 1, 0, none⟩) (by simp; omega) _)).trans (belowK_b (w := w) (Nat.le_refl _) _ D _ _ (by omega) hK' rfl rfl)⟩
    case stop =>
      rintro D cc pre W hD hpf ⟨rfl, ⟨pre', x, rfl, hpre, hx, c60, c61, c70⟩, hB⟩ hK
      have hnx := nextF_some hl0 hn1 hn2 hany (fr := (0 : Int)) (live := live) (by rw [Hzz.out]; exact if_pos h) hpf hpre hx
      have Hnx := Lib.hid hnx
      clear hnx
      gi_wp2
      have kk := fun (a : Addr) (v : Value) h => cell_kept (a := a) (v := v) h (grownBy_putObj' W D (.deferred none)) (fun r e => by cases e; exact ⟨_, hK, rfl⟩)
      refine ⟨by simp, .inl ⟨_, _, rfl, run_takeDeferred hK, ?_⟩⟩
      exact ⟨_, res53 rfl rfl (kk _ _ c60) (kk _ _ c61) (kk _ _ c70), by rw [Hnx.out], hB.trans (belowK_b (w := w) (Nat.le_refl _) _ D _ _ (by omega) hK rfl rfl)⟩
  · have HUS := hus
    rw [if_neg (by omega)] at hus
    have e3c : Boxed w4 w.heap.size 30 (.slice (some ad) l.length cl) := (hb4.block _ e3b.lt).trans e3b
    have hs3 : w1.heap.size + 1 ≤ w3.heap.size := by have := hb3.size; simpa using this
    have hs4 := hb4.size
    have hs1 : w.heap.size + 3 ≤ w1.heap.size := by have := hb1.size; omega
    have lift : ∀ (k : Nat) (o : Obj), k < w.heap.size + 3 → W0.heap[k]? = some o → w4.heap[k]? = some o := fun k o hk h => by
      rw [hb4.block k (by omega), hb3.block k (by simp; omega), Below.heap_alloc _ _ _ (by omega), hb1.block k (by omega)]; exact h
    have d6 : w4.heap[w.heap.size + 1]? = some (.cells #[.int .i64 0, .int .i64 0] 41 (0, 0)) := lift _ _ (by omega) g6
    have d7 : w4.heap[w.heap.size + 2]? = some (.cells #[.int .i64 0] 47 (0, 0)) := lift _ _ (by omega) g7
    have d8 : Boxed w4 w1.heap.size 3 (.int .i64 l[0].r) := (hb4.block _ (by omega)).trans ((hb3.block _ (by simp)).trans n8)
    have hbw4 : Below w.heap.size w w4 := hbw3.trans (hb4.mono hbw3.size)
    have hk4 : ∀ b : Nat, (ok b ∨ w3.heap.size ≤ b ∧ b < w4.heap.size) → b < w4.heap.size := fun b h => h.elim (fun h => by have := hok b h; have := hbw4.size; omega) (fun h => h.2)
    have hst := ring_stops (n - 1) (by omega) (vol := z.tmod nodes) (nodes := nodes) (live := live) (by omega) (by have := Int.tmod_lt_of_pos z (show 0 < nodes by omega); omega) hn1 hn2 hll hk4 hus
    clear g3 g6 g7 e3 e3a e3b n8 c3 c3a c3b cr0 cn lift hcf h77 hmay
    refine wpIn_rangeFunc_ownG rfl h1 (gf := 85) (lb := us.toArray) rfl trivial (enters_of Try.func85 (by kernel_rfl) rfl) hst (fun h k => KeepOk.trans h k) (keepOk_b hk4) (Below.refl _ _) (fun _ => rfl)
      (fun pre W => (∀ x ∈ pre, contB l x = true) ∧ Boxed W w.heap.size 30 (.slice (some ad) l.length cl) ∧ W.heap[w.heap.size + 1]? = some (.cells #[.int .i64 0, .int .i64 0] 41 (0, 0)) ∧ W.heap[w.heap.size + 2]? = some (.cells #[.int .i64 0] 47 (0, 0)) ∧ Boxed W w1.heap.size 3 (.int .i64 l[0].r) ∧ Below w.heap.size w W ∧ w4.heap.size ≤ W.heap.size)
      (fun cc pre W => cc = .ret ∧ (∃ pre' x, pre = pre' ++ [x] ∧ (∀ y ∈ pre', contB l y = true) ∧ contB l x = false ∧ W.cell? ⟨w.heap.size + 1, 0, none⟩ = some (.int .i64 l[0].r) ∧ W.cell? ⟨w.heap.size + 1, 1, none⟩ = some (.int .i64 x) ∧ W.cell? ⟨w.heap.size + 1 + 1, 0, none⟩ = some (.int .i64 0)) ∧ Below w.heap.size w W)
      ?hI ?hIx ⟨by simp, e3c, d6, d7, d8, hbw4, Nat.le_refl _⟩
      (fun x => { tmps := #[.slice (some ad) l.length cl, .int .i64 nodes, .slice A live.length c, .pointer (some ⟨w.heap.size, 0, none⟩), undef, undef, .pointer (some ⟨w.heap.size + 1, 0, none⟩), .pointer (some ⟨w.heap.size + 1 + 1, 0, none⟩), .pointer (some ⟨w1.heap.size, 0, none⟩), .int .i64 (z.tmod nodes), .int .i64 x, .slice (some ad) l.length cl, .int .i64 l.length, .bool false, .bool false, .int .i64 nodes, .bool true, .bool false, .bool false, undef, .slice (some ad) l.length cl, .pointer (some ad), .pointer (some ad), .int .i64 l[0].r, .slice (some ad) l.length cl, .func (.func 76) #[] #[.pointer (some ⟨w1.heap.size, 0, none⟩)], .bool false, undef, .slice (some ad) l.length cl, .slice (some ad) l.length cl, .int .i64 l.length, .int .i64 (l.length - 1), .pointer (some (ad.add ((l.length - 1) * 2))), .pointer (some ⟨(ad.add ((l.length - 1) * 2)).block, (ad.add ((l.length - 1) * 2)).off + 1, none⟩), .int .i64 z, .int .i64 nodes, .int .i64 (z.tmod nodes), .int .i64 (z.tmod nodes), .int .i64 (z.tmod nodes), .int .i64 nodes, .slice A live.length c, .func (.func 85) #[] us.toArray, .int .i64 x, undef, undef, undef, undef, undef, undef, undef, undef, undef, undef], defers := [] }) ?assign ?body ?done ?stop
    case hI =>
      refine OwnFrom.and (fun s X Y row h hg hr => h) (OwnFrom.and (own_block (fun _ => _) _) (OwnFrom.and (own_block (fun _ => _) _) (OwnFrom.and (own_block (fun _ => _) _) (OwnFrom.and (own_block (fun _ => _) _) (OwnFrom.and (ownFrom_below (Nat.le_refl _) hbw4.size) ?_)))))
      exact fun s X Y row h hg hr => Nat.le_trans h hg.size
    case hIx =>
      refine fun cc => OwnFrom.and (fun s X Y row h hg hr => h) (OwnFrom.and ?_ (ownFrom_below (Nat.le_refl _) hbw4.size))
      rintro s X Y row ⟨pre', x, h1, h2, h3, h4, h5, h6⟩ hg hr
      exact ⟨pre', x, h1, h2, h3, cell_kept h4 hg (fun r e => (hr r e).2), cell_kept h5 hg (fun r e => (hr r e).2), cell_kept h6 hg (fun r e => (hr r e).2)⟩
    case assign =>
      intro l' x W K hK
      gi_wp2
      exact hK
    case body =>
      rintro l' pre x W ⟨hpre, e3, d6, d7, d8, hB, hS⟩ hlt
      have c3 := e3.cell
      have c8 := d8.cell
      have h78 := cont_calls (hl0 := hl0) hl ok hok hcl had hB x
      cases hx : contB l x with
      | true =>
        rw [hx] at h78
        have Hx := Lib.hid hx
        clear hx
        gi_wp2_with (first
          | (refine ⟨trivial, (fun _ => by omega), ?_⟩; gi_at_call 78; refine (CallsIn.inRound l' (callsIn_wide.2 h78)).mono ?_; rintro e w5 ⟨rfl, hb5⟩)
          | gi_in)
        refine ⟨(KeepsOthers.of_below hb5).from _, fun b hb => hb5.block b (by have := hk4 b hb; omega), ?_, ?_, (hb5.block _ (by omega)).trans d6, (hb5.block _ (by omega)).trans d7, (hb5.block _ d8.lt).trans d8, hB.trans (hb5.mono hB.size), Nat.le_trans hS hb5.size⟩
        · intro y hy
          rcases List.mem_append.1 hy with hy | hy
          · exact hpre y hy
          · simp at hy; subst hy; exact Hx.out
        · exact (hb5.block _ e3.lt).trans e3
      | false =>
        rw [hx] at h78
        have Hx := Lib.hid hx
        clear hx
        gi_wp2_with (first
          | (refine ⟨trivial, (fun _ => by omega), ?_⟩; gi_at_call 78; refine (CallsIn.inRound l' (callsIn_wide.2 h78)).mono ?_; rintro e w5 ⟨rfl, hb5⟩; have e8 : Boxed w5 w1.heap.size 3 (.int .i64 l[0].r) := (hb5.block _ d8.lt).trans d8; have c8' := e8.cell; have e6 : w5.heap[w.heap.size + 1]? = some (.cells #[.int .i64 0, .int .i64 0] 41 (0, 0)) := (hb5.block _ (by omega)).trans d6; have e7 : w5.heap[w.heap.size + 2]? = some (.cells #[.int .i64 0] 47 (0, 0)) := (hb5.block _ (by omega)).trans d7; obtain ⟨c60, c61, f60, f61⟩ := two_cells e6; obtain ⟨c70, f70⟩ := one_cell e7)
          | gi_in)
        refine ⟨((((KeepsOthers.of_below hb5).trans (KeepsOthers.setCell _ _ _)).trans (KeepsOthers.setCell _ _ _)).trans (KeepsOthers.setCell _ _ _)).from _, ⟨rfl, ⟨pre, x, rfl, hpre, Hx.out, ?_, ?_, ?_⟩, ((((hB.trans (hb5.mono hB.size)).setCell (p := ⟨w.heap.size + 1, 0, none⟩) (by simp) _).setCell (p := ⟨w.heap.size + 1, 1, none⟩) (by simp) _).setCell (p := ⟨w.heap.size + 1 + 1, 0, none⟩) (by simp; omega) _)⟩⟩
        · exact (three_set e6 e7 (by omega) _ _ _).1
        · exact (three_set e6 e7 (by omega) _ _ _).2.1
        · exact (three_set e6 e7 (by omega) _ _ _).2.2
    case done =>
      rintro D ys W hD rfl ⟨hpre, e3, d6, d7, d8, hB, hS⟩ hK
      obtain ⟨c60, c61, f60, f61⟩ := two_cells d6
      obtain ⟨c70, f70⟩ := one_cell d7
      have hnx := nextF_none hl0 hn1 hn2 hany (fr := z.tmod nodes) (live := live) (by rw [Hzz.out]; exact if_neg (by omega)) hpre
      have Hnx := Lib.hid hnx
      clear hnx
      gi_wp2
      have hK' := (((KeepsOthers.setCell W ⟨w.heap.size + 1, 0, none⟩ (.int .i64 0)).trans (KeepsOthers.setCell _ ⟨w.heap.size + 1, 1, none⟩ (.int .i64 0))).trans (KeepsOthers.setCell _ ⟨w.heap.size + 1 + 1, 0, none⟩ (.int .i64 10))).same D _ hK rfl
      obtain ⟨k0, k1, k2⟩ := three_set d6 d7 (by omega) (.int .i64 0) (.int .i64 0) (.int .i64 10)
      have kk := fun (a : Addr) (v : Value) h => cell_kept (a := a) (v := v) h (grownBy_putObj' _ D (.deferred none)) (fun r e => by cases e; exact ⟨_, hK', rfl⟩)
      refine ⟨by simp, .inl ⟨_, _, rfl, run_takeDeferred hK', ?_⟩⟩
      exact ⟨_, res53 rfl rfl (kk _ _ k0) (kk _ _ k1) (kk _ _ k2), by rw [Hnx.out], ((((hB.setCell (p := ⟨w.heap.size + 1, 0, none⟩) (by simp) _).setCell (p := ⟨w.heap.size + 1, 1, none⟩) (by simp) _).setCell (p := ⟨w.heap.size + 1 + 1, 0, none⟩) (by simp; omega) _)).trans (belowK_b (w := w) (Nat.le_refl _) _ D _ _ (by omega) hK' rfl rfl)⟩
    case stop =>
      rintro D cc pre W hD hpf ⟨rfl, ⟨pre', x, rfl, hpre, hx, c60, c61, c70⟩, hB⟩ hK
      have hnx := nextF_some hl0 hn1 hn2 hany (fr := z.tmod nodes) (live := live) (by rw [Hzz.out]; exact if_neg (by omega)) hpf hpre hx
      have Hnx := Lib.hid hnx
      clear hnx
      gi_wp2
      have kk := fun (a : Addr) (v : Value) h => cell_kept (a := a) (v := v) h (grownBy_putObj' W D (.deferred none)) (fun r e => by cases e; exact ⟨_, hK, rfl⟩)
      refine ⟨by simp, .inl ⟨_, _, rfl, run_takeDeferred hK, ?_⟩⟩
      exact ⟨_, res53 rfl rfl (kk _ _ c60) (kk _ _ c61) (kk _ _ c70), by rw [Hnx.out], hB.trans (belowK_b (w := w) (Nat.le_refl _) _ D _ _ (by omega) hK rfl rfl)⟩
end Go.Proofs
