/- Loads and stores, reading out what is owned ('Frz'), contracts of functions ('AC', 'ACH') and calls. No condition. -/
import Derived.Test.YtajlkpogccbboaaHgC
set_option linter.unusedVariables false
set_option linter.unusedSimpArgs false
namespace Go.Hg
open Go.RowKit

/-! ### loads -/
section
variable {P : Program}
/-- Cells that lie at an address, loaded as a variable of a type. -/
theorem run_loadVar_agg {T n : Nat} (hagg : ∀ w, (isAgg T).run P w = .ok true w) (hsz : ∀ w, (sizeOf T).run P w = .ok n w) (w : World) (ad : Addr) (us : List Value) (hl : us.length = n)
    (hc : ∀ j u, us[j]? = some u → w.cell? (ad.add j) = some u) : (loadVar T ad).run P w = .ok (.agg us.toArray) w := by
  simp [loadVar, hagg, hsz, ← hl, run_loadCells_list (P := P) w ad us hc]
theorem run_loadVar_one {T : Nat} (hagg : ∀ w, (isAgg T).run P w = .ok false w) (w : World) (ad : Addr) (u : Value) (hc : w.cell? ad = some u) : (loadVar T ad).run P w = .ok u w := by
  simp [loadVar, hagg, hc]

theorem lit_add (g o j : Nat) : (⟨g, o, none⟩ : Addr).add j = ⟨g, o + j, none⟩ := Addr.add_lit g o j

/-- A variable inside a block of the call's own. -/
theorem load_rf_agg {T n b off : Nat} {f : Bool} {cs ys : List V} (hagg : ∀ w, (isAgg T).run P w = .ok true w) (hsz : ∀ w, (sizeOf T).run P w = .ok n w) {w : World} {ok : Nat → Prop} {G : Nat → Option Nat}
    {us rest : List Value} {ty : TypeId} {fr : Nat × Nat} (hh : w.heap[b]? = some (.cells (us ++ rest).toArray ty fr)) (hr : RepL w ok G cs (!f) us) (hl : off + n ≤ cs.length) (hys : (cs.drop off).take n = ys) :
    ∃ u, (loadVar T ⟨b, off, none⟩).run P w = .ok u w ∧ Rep w ok G (.agg ys) true u := by
  subst hys
  have h1 := (hr.drop off).take n
  refine ⟨.agg ((us.drop off).take n).toArray, run_loadVar_agg hagg hsz w _ _ ?_ ?_, ?_⟩
  · rw [List.length_take, List.length_drop, hr.length]; omega
  · intro j u hj
    rw [lit_add, cell_of_row w _ _ _ _ _ hh]
    rw [List.getElem?_take] at hj
    split at hj
    · rw [List.getElem?_drop] at hj
      have hlt : off + j < us.length := by
        rcases Nat.lt_or_ge (off + j) us.length with h | h
        · exact h
        · rw [List.getElem?_eq_none h] at hj; cases hj
      simpa [List.getElem?_append_left hlt] using hj
    · cases hj
  · simp only [Rep]
    refine ⟨_, rfl, ?_⟩
    cases f
    · exact h1
    · exact RepL.to_true _ _ h1
theorem load_rf_one {T b off : Nat} {f : Bool} {cs : List V} {v : V} (hagg : ∀ w, (isAgg T).run P w = .ok false w) {w : World} {ok : Nat → Prop} {G : Nat → Option Nat}
    {us rest : List Value} {ty : TypeId} {fr : Nat × Nat} (hh : w.heap[b]? = some (.cells (us ++ rest).toArray ty fr)) (hr : RepL w ok G cs (!f) us) (hv : cs[off]? = some v) :
    ∃ u, (loadVar T ⟨b, off, none⟩).run P w = .ok u w ∧ Rep w ok G v true u := by
  obtain ⟨u, h1, h2, h3⟩ := hr.get off hv
  refine ⟨u, run_loadVar_one hagg w _ u ?_, ?_⟩
  · rw [cell_of_row w _ _ _ _ _ hh]
    have hlt : off < us.length := (List.getElem?_eq_some_iff.1 h1).1
    simpa [List.getElem?_append_left hlt] using h1
  · cases f
    · exact h3
    · exact Rep.to_true _ _ h3
theorem load_fp_agg {T n : Nat} {cs ys : List V} (hagg : ∀ w, (isAgg T).run P w = .ok true w) (hsz : ∀ w, (sizeOf T).run P w = .ok n w) {w : World} {ok : Nat → Prop} {G : Nat → Option Nat} {A : Addr} {us : List Value}
    (ha : At w ok (some A) us) (hr : RepL w ok G cs false us) (hl : n ≤ cs.length) (hys : cs.take n = ys) : ∃ u, (loadVar T A).run P w = .ok u w ∧ Rep w ok G (.agg ys) true u := by
  subst hys
  refine ⟨.agg (us.take n).toArray, run_loadVar_agg hagg hsz w _ _ (by rw [List.length_take, hr.length]; omega) ?_, ?_⟩
  · rcases ha with rfl | ⟨ad, h1, h2, h3⟩
    · simp
    · injection h1 with h1
      subst h1
      intro j u hj
      rw [List.getElem?_take] at hj
      split at hj
      · exact h3 j u hj
      · cases hj
  · simp only [Rep]
    exact ⟨_, rfl, RepL.to_true _ _ (hr.take n)⟩
theorem load_fp_one {T : Nat} {cs : List V} {v : V} (hagg : ∀ w, (isAgg T).run P w = .ok false w) {w : World} {ok : Nat → Prop} {G : Nat → Option Nat} {A : Addr} {us : List Value}
    (ha : At w ok (some A) us) (hr : RepL w ok G cs false us) (hv : cs[0]? = some v) : ∃ u, (loadVar T A).run P w = .ok u w ∧ Rep w ok G v true u := by
  obtain ⟨u, h1, h2, h3⟩ := hr.get 0 hv
  refine ⟨u, run_loadVar_one hagg w _ u ?_, Rep.to_true _ _ h3⟩
  rcases ha with rfl | ⟨ad, h4, h5, h6⟩
  · simp at h1
  · injection h4 with h4
    subst h4
    have := h6 0 u h1
    rwa [Addr.add_zero'] at this
end

/-! ### stores -/
/-- Only block g has been written. -/
structure Wr (w : World) (g : Nat) (w' : World) : Prop where
  os : w'.os = w.os
  tape : w'.tape = w.tape
  output : w'.output = w.output
  size : w'.heap.size = w.heap.size
  block : ∀ k, k ≠ g → w'.heap[k]? = w.heap[k]?
theorem Wr.refl (w : World) (g : Nat) : Wr w g w := ⟨rfl, rfl, rfl, rfl, fun _ _ => rfl⟩
theorem Wr.trans {a b c : World} {g : Nat} (h : Wr a g b) (k : Wr b g c) : Wr a g c :=
  ⟨k.os.trans h.os, k.tape.trans h.tape, k.output.trans h.output, k.size.trans h.size, fun i hi => (k.block i hi).trans (h.block i hi)⟩
theorem wr_setCell (w : World) (p : Addr) (u : Value) : Wr w p.block (w.setCell p u) := ⟨rfl, rfl, rfl, by simp, fun k hk => Below.heap_setCell w p u k hk⟩

theorem run_storeCells_hg {P : Program} (g o : Nat) (ty : TypeId) (fr : Nat × Nat) : ∀ (vs : List Value) (i : Nat) (pre post : List Value) (mid : List Value) (w : World),
    w.heap[g]? = some (.cells (pre ++ mid ++ post).toArray ty fr) → pre.length = o + i → mid.length = vs.length → (fr.2 ≤ fr.1 ∨ (pre ++ mid ++ post).length ≤ fr.1) → (∀ u ∈ vs, u.oneCell' = true) →
    ∃ w', (storeCells ⟨g, o, none⟩ vs i).run P w = .ok () w' ∧ Wr w g w' ∧ w'.heap[g]? = some (.cells (pre ++ vs ++ post).toArray ty fr)
  | [], i, pre, post, mid, w, hh, hp, hm, hf, h1 => by
    have : mid = [] := List.eq_nil_of_length_eq_zero (by simpa using hm)
    subst this
    exact ⟨w, by simp [storeCells], Wr.refl w g, hh⟩
  | v :: vs, i, pre, post, mid, w, hh, hp, hm, hf, h1 => by
    obtain ⟨m, mid, rfl⟩ : ∃ m mid', mid = m :: mid' := by
      cases mid with
      | nil => simp at hm
      | cons m mid => exact ⟨m, mid, rfl⟩
    have hlen : o + i < (pre ++ m :: mid ++ post).length := by simp; omega
    have hcell : w.cell? ⟨g, o + i, none⟩ = some m := by
      rw [cell_of_row w _ _ _ _ _ hh]
      simp [← hp]
    have hfz : w.frozen? ⟨g, o + i, none⟩ = false := by
      simp only [World.frozen?, hh]
      rcases hf with hf | hf
      · simp; omega
      · simp at hf hlen ⊢; omega
    have hst : (store ⟨g, o + i, none⟩ v).run P w = .ok () (w.setCell ⟨g, o + i, none⟩ v) := by
      rw [run_store P w _ v _ (h1 v (by simp)), hcell]
      simp [hfz]
    have hh' : (w.setCell ⟨g, o + i, none⟩ v).heap[g]? = some (.cells ((pre ++ [v]) ++ mid ++ post).toArray ty fr) := by
      simp only [World.setCell, Array.getElem?_modify, ↓reduceIte, hh, Option.map_some]
      simp [← hp]
    obtain ⟨w', hrun, hwr, hb⟩ := run_storeCells_hg g o ty fr vs (i + 1) (pre ++ [v]) post mid _ hh' (by simp; omega) (by simpa using hm) (by simpa using hf) (fun u hu => h1 u (by simp [hu]))
    refine ⟨w', ?_, (wr_setCell w ⟨g, o + i, none⟩ v).trans hwr, by simpa using hb⟩
    simp only [storeCells, Sem.run_bind, lit_add, hst, Result.andThen_ok]
    exact hrun

def vsplice (cs : List V) (off : Nat) (vs : List V) : List V := cs.take off ++ vs ++ cs.drop (off + vs.length)

theorem Sim.write {w0 : World} {ok0 : Fr} {w : World} {ok : Nat → Prop} {G : Nat → Option Nat} {h : HF} (hs : Sim w0 ok0 w ok G h) {t g : Nat} {b : Blk} (ht : h t = some b) (hg : G t = some g) {w' : World} (hw : Wr w g w')
    {us rest : List Value} {ty : TypeId} {fr : Nat × Nat} (hb : w'.heap[g]? = some (.cells (us ++ rest).toArray ty fr)) (hsz : ∀ (cs : Array Value) (ty' : TypeId) (fr' : Nat × Nat), w.heap[g]? = some (.cells cs ty' fr') → ty' = ty ∧ (us ++ rest).length = cs.size)
    {f : Bool} {cs : List V} (hc : RepL w ok G cs (!f) us) (h1 : ∀ u ∈ rest, u.oneCell' = true) (hfr : fr.2 ≤ fr.1 ∨ (us ++ rest).length ≤ fr.1) :
    Sim w0 ok0 w' ok G (appF h [(t, some (f, cs))]) ∧ WS w ok w' := by
  obtain ⟨f0, cs0⟩ := b
  obtain ⟨hB, hnok, us0, rest0, ty0, fr0, hh0, _⟩ : (ok0.mine g ∨ w0.heap.size ≤ g) ∧ ¬ ok g ∧ ∃ (us rest : List Value) (ty : TypeId) (fr : Nat × Nat), w.heap[g]? = some (.cells (us ++ rest).toArray ty fr) ∧ True := by
    rcases hs.tok t f0 cs0 ht with h0 | ⟨b, hb, h1, h2, us, rest, ty, fr, h3, _⟩
    · rw [h0.1] at hg; cases hg
    · rw [hg] at hb
      injection hb with hb
      subst hb
      exact ⟨h1, h2, us, rest, ty, fr, h3, trivial⟩
  have hws : WS w ok w' := ⟨fun b hb => hw.block b (fun e => hnok (e ▸ hb)), fun b cs1 ty1 fr1 h2 => by
    by_cases hbg : b = g
    · subst hbg
      obtain ⟨rfl, h4⟩ := hsz cs1 ty1 fr1 h2
      exact ⟨_, fr, hb, by simpa using h4⟩
    · exact ⟨cs1, fr1, by rw [hw.block b hbg]; exact h2, rfl⟩, by rw [hw.size]; exact Nat.le_refl _⟩
  have hmv : Mv w ok G w' ok G := hws.mv fun _ h => h
  refine ⟨⟨?_, fun b hb => by rw [hw.size]; exact hs.okb b hb, hs.okn, hs.oko, ?_, ?_⟩, hws⟩
  · exact hs.below.then (m' := fun b => b = g) ⟨hw.os, hw.tape, hw.output, by rw [hw.size]; exact Nat.le_refl _, fun k hk hn => hw.block k hn, hws.siz⟩ (fun b hb hlt => by subst hb; rcases hB with h | h; exact h; omega)
  · intro t' f' cs' ht'
    simp only [appF] at ht'
    cases hx : Nat.beq t' t with
    | true =>
      have : t' = t := Nat.eq_of_beq_eq_true hx
      subst this
      rw [hx] at ht'
      simp only [cond_true, Option.some.injEq, Prod.mk.injEq] at ht'
      obtain ⟨rfl, rfl⟩ := ht'
      exact .inr ⟨g, hg, hB, hnok, us, rest, ty, fr, hb, RepL.mv hmv cs _ us (fun _ _ _ => rfl) hc, h1, hfr⟩
    | false =>
      have hne : t' ≠ t := fun e => by subst e; simp at hx
      rw [hx] at ht'
      simp only [cond_false] at ht'
      rcases hs.tok t' f' cs' ht' with h0 | ⟨b', hb', h2, h3, us', rest', ty', fr', h4, h5, h6, h7⟩
      · exact .inl h0
      refine .inr ⟨b', hb', h2, h3, us', rest', ty', fr', ?_, RepL.mv hmv cs' _ us' (fun _ _ _ => rfl) h5, h6, h7⟩
      rw [hw.block _ (fun e => hne (hs.inj t' t b' (by rw [ht']; simp) (by rw [ht]; simp) hb' (by rw [hg, e])))]
      exact h4
  · have key : ∀ x, appF h [(t, some (f, cs))] x ≠ none → h x ≠ none := fun x hn => by
      simp only [appF] at hn
      cases hb : Nat.beq x t with
      | true => rw [Nat.eq_of_beq_eq_true hb, ht]; simp
      | false => rw [hb] at hn; simpa using hn
    exact fun t1 t2 b h1 h2 he => hs.inj t1 t2 b (key t1 h1) (key t2 h2) he

/-- A store into a block of the call's own. -/
theorem lop_store {P : Program} {env : Env} {H : Heap} {T n t off : Nat} {f : Bool} {cs : List V} {x y : Operand} {v : V} {d : Option Tmp} {ty : TypeId} {ps : String} {af : Array Edge} {gd : Option (Nat × Bool)}
    (hx : ev (get env) x = .rf t off) (hH : hget H t = some (f, cs)) (hy : ev (get env) y = v) (hsz : ∀ w, (sizeOf T).run P w = .ok n w) (hsol : v.solid = true) (hn : v.cells.length = n) (hl : off + n ≤ cs.length) :
    LOp P ⟨d, .store T x y, ty, ps, af, gd⟩ env H [t] .undef [(t, some (f && tf v, vsplice cs off v.cells))] [] := by
  intro e' h' he hR _ w0 ok0 sz a w hok r next Q hnx
  obtain ⟨ok, G, hs, hr, h1, h2⟩ := r
  have hxv : Rep w ok G (.rf t off) true (a.eval x) := by
    have := Rep.ev hr x (opd_ok hok x (by simp [Op.operands]))
    rwa [he x (by simp [Op.operands]), hx] at this
  have hyv : Rep w ok G v true (a.eval y) := by
    have := Rep.ev hr y (opd_ok hok y (by simp [Op.operands]))
    rwa [he y (by simp [Op.operands]), hy] at this
  have ht : h' t = some (f, cs) := (hR t (by simp)).trans hH
  simp only [Rep, true_and] at hxv
  obtain ⟨g, hg, hxv⟩ := hxv
  obtain ⟨us, rest, ty0, fr, hh, hc, hone, hfz⟩ : ∃ (us rest : List Value) (ty : TypeId) (fr : Nat × Nat), w.heap[g]? = some (.cells (us ++ rest).toArray ty fr) ∧ RepL w ok G cs (!f) us ∧ (∀ u ∈ rest, u.oneCell' = true) ∧ (fr.2 ≤ fr.1 ∨ (us ++ rest).length ≤ fr.1) := by
    rcases hs.tok t f cs ht with h0 | ⟨b, hb, _, _, h3⟩
    · rw [h0.1] at hg; cases hg
    · rw [hg] at hb
      injection hb with hb
      subst hb
      exact h3
  have hcl := Rep.cellsL hyv hsol
  have hlen : (a.eval y).cells.toList.length = n := by rw [hcl.length, hn]
  have hul := hc.length
  have hsplit : us ++ rest = us.take off ++ (us.drop off).take n ++ (us.drop (off + n) ++ rest) := by
    rw [List.append_assoc, ← List.append_assoc ((us.drop off).take n), ← List.drop_drop, List.take_append_drop, ← List.append_assoc, List.take_append_drop]
  obtain ⟨w', hrun, hwr, hb⟩ := run_storeCells_hg (P := P) g off ty0 fr (a.eval y).cells.toList 0 (us.take off) (us.drop (off + n) ++ rest) ((us.drop off).take n) w (by rw [← hsplit]; exact hh)
    (by rw [List.length_take, Nat.add_zero]; omega) (by rw [List.length_take, List.length_drop, hlen]; omega) (by rw [← hsplit]; exact hfz) hcl.one
  have hsz' : (a.eval y).cells.size = n := by rw [← hlen]; simp
  have hex : (execOp a.eval ⟨d, .store T x y, ty, ps, af, gd⟩).run P w = .ok .skip w' := by
    simp [execOp, Instr.storeAt, Instr.sureAddr, hxv, storeVar, hsz, hsz', hrun]
  have hre : us.take off ++ (a.eval y).cells.toList ++ (us.drop (off + n) ++ rest) = (us.take off ++ (a.eval y).cells.toList ++ us.drop (off + n)) ++ rest := by simp
  rw [hre] at hb
  have hcs : RepL w ok G (vsplice cs off v.cells) (!(f && tf v)) (us.take off ++ (a.eval y).cells.toList ++ us.drop (off + n)) := by
    have hdn : off + v.cells.length = off + n := by rw [hn]
    unfold vsplice
    rw [hdn]
    cases f with
    | true =>
      cases htf : tf v with
      | true =>
        simp only [Bool.and_self, Bool.not_true] at hc ⊢
        have hcl' : RepL w ok G v.cells false (a.eval y).cells.toList := by
          refine RepL.tf_any _ _ ?_ hcl
          cases v <;> first
            | (simpa [V.cells, tfL] using htf)
            | (simpa [V.cells, tf] using htf)
        exact ((hc.take off).append hcl').append (hc.drop (off + n))
      | false =>
        simp only [Bool.and_false, Bool.not_false]
        have hc' : RepL w ok G cs true us := RepL.to_true _ _ hc
        exact ((hc'.take off).append hcl).append (hc'.drop (off + n))
    | false =>
      simp only [Bool.false_and, Bool.not_false] at hc ⊢
      exact ((hc.take off).append hcl).append (hc.drop (off + n))
  have hll : (us.take off ++ (a.eval y).cells.toList ++ us.drop (off + n) ++ rest).length = (us ++ rest).length := by
    simp only [List.length_append, List.length_take, List.length_drop, hlen]; omega
  obtain ⟨hs', hws⟩ := hs.write ht hg hwr hb (fun cs1 ty1 fr1 h3 => by
    rw [hh] at h3
    injection h3 with h3
    injection h3 with h3 h4 h5
    subst h3
    exact ⟨h4.symm, by rw [hll]; simp⟩) hcs hone (by rw [hll]; exact hfz)
  unfold Oper.wp
  rw [hex]
  exact hnx _ _ (rel_put hs' (fun z => Rep.mv (hws.mv fun _ h => h) _ _ _ (fun _ _ _ => rfl) (hr z)) h1 h2 (dst_lt hok) (by simp [Rep]))

/-! ### reading out what is owned -/
mutual
inductive Frz (h : HF) (R : List Nat) : V → V → Prop
  | tf {v : V} : tf v = true → Frz h R v v
  | z : Frz h R .z0 (.sl 0 [])
  | os {t off sz n : Nat} {f : Bool} {blk cs : List V} : t ∈ R → h t = some (f, blk) → off + n * sz ≤ blk.length → FrzL h R ((blk.drop off).take (n * sz)) cs → Frz h R (.os t off sz n) (.sl n cs)
  | osf {t off sz n : Nat} {blk cs : List V} : t ∈ R → h t = some (true, blk) → off + n * sz ≤ blk.length → (blk.drop off).take (n * sz) = cs → Frz h R (.os t off sz n) (.sl n cs)
  | rff {t off : Nat} {blk cs : List V} : t ∈ R → h t = some (true, blk) → blk.drop off = cs → Frz h R (.rf t off) (.fp cs)
  | agg {cs cs' : List V} : FrzL h R cs cs' → Frz h R (.agg cs) (.agg cs')
  | tup {cs cs' : List V} : FrzL h R cs cs' → Frz h R (.tup cs) (.tup cs')
  | fn {g : FuncId} {cs cs' : List V} : FrzL h R cs cs' → Frz h R (.fn g cs) (.fn g cs')
inductive FrzL (h : HF) (R : List Nat) : List V → List V → Prop
  | nil : FrzL h R [] []
  | cons {v v' : V} {vs vs' : List V} : Frz h R v v' → FrzL h R vs vs' → FrzL h R (v :: vs) (v' :: vs')
end
theorem FrzL.tf {h : HF} {R : List Nat} : ∀ {vs : List V}, tfL vs = true → FrzL h R vs vs
  | [], _ => .nil
  | v :: vs, ht => by
    simp only [tfL, Bool.and_eq_true] at ht
    exact .cons (.tf ht.1) (FrzL.tf ht.2)

theorem FrzL.len {h : HF} {R : List Nat} : ∀ {vs vs' : List V}, FrzL h R vs vs' → vs'.length = vs.length
  | _, _, .nil => rfl
  | _, _, .cons _ h2 => by simp [FrzL.len h2]

structure SeesF (w : World) (ok : Nat → Prop) (G : Nat → Option Nat) (h : HF) (R : List Nat) : Prop where
  tok : ∀ t ∈ R, ∀ (f : Bool) (cs : List V), h t = some (f, cs) → (G t = none ∧ cs = []) ∨ ∃ b, G t = some b ∧ ∃ (us rest : List Value) (ty : TypeId) (fr : Nat × Nat),
    w.heap[b]? = some (.cells (us ++ rest).toArray ty fr) ∧ RepL w ok G cs (!f) us
theorem Sim.sees {w0 : World} {ok0 : Fr} {w : World} {ok : Nat → Prop} {G : Nat → Option Nat} {h : HF} (hs : Sim w0 ok0 w ok G h) (R : List Nat) : SeesF w ok G h R :=
  ⟨fun t _ f cs ht => (hs.tok t f cs ht).imp id fun ⟨b, hb, _, _, us, rest, ty, fr, h3, h4, _⟩ => ⟨b, hb, us, rest, ty, fr, h3, h4⟩⟩
def okR (ok : Nat → Prop) (G : Nat → Option Nat) (R : List Nat) : Nat → Prop := fun b => ok b ∨ ∃ t ∈ R, G t = some b

theorem at_block {w : World} {ok : Nat → Prop} {g off : Nat} {us rest : List Value} {ty : TypeId} {fr : Nat × Nat} (hh : w.heap[g]? = some (.cells (us ++ rest).toArray ty fr)) (hok : ok g) : At w ok (some ⟨g, off, none⟩) (us.drop off) := by
  refine .inr ⟨_, rfl, hok, fun j u hj => ?_⟩
  rw [lit_add, cell_of_row w _ _ _ _ _ hh]
  rw [List.getElem?_drop] at hj
  have hlt : off + j < us.length := (List.getElem?_eq_some_iff.1 hj).1
  simpa [List.getElem?_append_left hlt] using hj

mutual
theorem Frz.sound {w : World} {ok : Nat → Prop} {G G0 : Nat → Option Nat} {h : HF} {R : List Nat} (hs : SeesF w ok G h R) : ∀ {v v' : V}, Frz h R v v' → ∀ {u : Value}, Rep w ok G v true u → Rep w (okR ok G R) G0 v' false u
  | _, _, .tf (v := v) ht, u, hr => Rep.mv (ok' := okR ok G R) (G' := G0) ⟨fun _ _ => rfl, fun b hb => .inl hb, fun _ cs _ fr h => ⟨cs, fr, h, rfl⟩⟩ v false u (fun h => by cases h) (Rep.tf_any (G' := G) v u ht hr)
  | _, _, .z, u, hr => by
    simp only [Rep] at hr ⊢
    obtain ⟨A, rfl⟩ := hr
    exact ⟨A, 0, [], rfl, Nat.le_refl _, .inl rfl, by simp [RepL]⟩
  | _, _, .os (t := t) (off := off) (sz := sz) (n := n) (f := f) (blk := blk) (cs := cs) hR hh hl hf, u, hr => by
    have htk := hs.tok t hR f blk hh
    simp only [Rep] at hr ⊢
    obtain ⟨_, hr⟩ := hr
    rcases hr with ⟨b, c, o', cs', ty', fr', hb, rfl, h4, h5, h6, h7, h8⟩ | ⟨hb, rfl, A, rfl⟩
    case inr =>
      have : cs = [] := by
        have hl := FrzL.len hf
        simpa using hl
      subst this
      exact ⟨A, 0, [], rfl, Nat.le_refl _, .inl rfl, by simp [RepL]⟩
    obtain ⟨us, rest, ty, fr, h1, h2⟩ : ∃ (us rest : List Value) (ty : TypeId) (fr : Nat × Nat), w.heap[b]? = some (.cells (us ++ rest).toArray ty fr) ∧ RepL w ok G blk (!f) us := by
      rcases htk with h0 | ⟨b', hb', h⟩
      · rw [h0.1] at hb; cases hb
      · rw [hb] at hb'; injection hb' with hb'; subst hb'; exact h
    have h2' : RepL w ok G blk true us := by
      cases f
      · exact h2
      · exact RepL.to_true _ _ h2
    have hwin := FrzL.sound hs (G0 := G0) hf ((h2'.drop off).take (n * sz))
    refine ⟨some ⟨b, o', none⟩, c, _, rfl, h4, ?_, hwin⟩
    rcases h8 with h8 | h8
    · have hn : n = 0 := by omega
      subst hn
      exact .inl (by simp)
    · subst h8
      exact (at_block h1 (.inr ⟨t, hR, hb⟩)).take _
  | _, _, .osf (t := t) (off := off) (sz := sz) (n := n) (blk := blk) (cs := cs) hR hh hl hcs, u, hr => by
    subst hcs
    have htk := hs.tok t hR true blk hh
    simp only [Rep] at hr ⊢
    obtain ⟨_, hr⟩ := hr
    rcases hr with ⟨b, c, o', cs', ty', fr', hb, rfl, h4, h5, h6, h7, h8⟩ | ⟨hb, rfl, A, rfl⟩
    case inr => exact ⟨A, 0, [], rfl, Nat.le_refl _, .inl rfl, by simp [RepL]⟩
    obtain ⟨us, rest, ty, fr, h1, h2⟩ : ∃ (us rest : List Value) (ty : TypeId) (fr : Nat × Nat), w.heap[b]? = some (.cells (us ++ rest).toArray ty fr) ∧ RepL w ok G blk (!true) us := by
      rcases htk with h0 | ⟨b', hb', h⟩
      · rw [h0.1] at hb; cases hb
      · rw [hb] at hb'; injection hb' with hb'; subst hb'; exact h
    have hwin : RepL w (okR ok G R) G0 ((blk.drop off).take (n * sz)) false ((us.drop off).take (n * sz)) :=
      RepL.mv (w := w) (ok := ok) (G := G) ⟨fun _ _ => rfl, fun b hb => .inl hb, fun _ cs _ fr h => ⟨cs, fr, h, rfl⟩⟩ _ false _ (fun h => by cases h) ((h2.drop off).take (n * sz))
    refine ⟨some ⟨b, o', none⟩, c, _, rfl, h4, ?_, hwin⟩
    rcases h8 with h8 | h8
    · have hn : n = 0 := by omega
      subst hn
      exact .inl (by simp)
    · subst h8
      exact (at_block h1 (.inr ⟨t, hR, hb⟩)).take _
  | _, _, .rff (t := t) (off := off) (blk := blk) (cs := cs) hR hh hcs, u, hr => by
    subst hcs
    have htk := hs.tok t hR true blk hh
    simp only [Rep] at hr ⊢
    obtain ⟨_, b, hb, rfl⟩ := hr
    obtain ⟨us, rest, ty, fr, h1, h2⟩ : ∃ (us rest : List Value) (ty : TypeId) (fr : Nat × Nat), w.heap[b]? = some (.cells (us ++ rest).toArray ty fr) ∧ RepL w ok G blk (!true) us := by
      rcases htk with h0 | ⟨b', hb', h⟩
      · rw [h0.1] at hb; cases hb
      · rw [hb] at hb'; injection hb' with hb'; subst hb'; exact h
    exact ⟨_, us.drop off, rfl, at_block h1 (.inr ⟨t, hR, hb⟩), RepL.mv (w := w) (ok := ok) (G := G) ⟨fun _ _ => rfl, fun b hb => .inl hb, fun _ cs _ fr h => ⟨cs, fr, h, rfl⟩⟩ _ false _ (fun h => by cases h) (h2.drop off)⟩
  | _, _, .agg hf, u, hr => by
    simp only [Rep] at hr ⊢
    obtain ⟨us, h1, h2⟩ := hr
    exact ⟨us, h1, FrzL.sound hs hf h2⟩
  | _, _, .tup hf, u, hr => by
    simp only [Rep] at hr ⊢
    obtain ⟨us, h1, h2⟩ := hr
    exact ⟨us, h1, FrzL.soundT hs hf h2⟩
  | _, _, .fn hf, u, hr => by
    simp only [Rep] at hr ⊢
    obtain ⟨us, h1, h2⟩ := hr
    exact ⟨us, h1, FrzL.soundT hs hf h2⟩
theorem FrzL.sound {w : World} {ok : Nat → Prop} {G G0 : Nat → Option Nat} {h : HF} {R : List Nat} (hs : SeesF w ok G h R) : ∀ {vs vs' : List V}, FrzL h R vs vs' → ∀ {us : List Value}, RepL w ok G vs true us → RepL w (okR ok G R) G0 vs' false us
  | _, _, .nil, us, hr => by simpa [RepL] using hr
  | _, _, .cons h1 h2, us, hr => by
    simp only [RepL] at hr ⊢
    obtain ⟨u, us', h3, h4, h5, h6⟩ := hr
    exact ⟨u, us', h3, h4, Frz.sound hs h1 h5, FrzL.sound hs h2 h6⟩
theorem FrzL.soundT {w : World} {ok : Nat → Prop} {G G0 : Nat → Option Nat} {h : HF} {R : List Nat} (hs : SeesF w ok G h R) : ∀ {vs vs' : List V}, FrzL h R vs vs' → ∀ {us : List Value}, RepT w ok G vs true us → RepT w (okR ok G R) G0 vs' false us
  | _, _, .nil, us, hr => by simpa [RepT] using hr
  | _, _, .cons h1 h2, us, hr => by
    simp only [RepT] at hr ⊢
    obtain ⟨u, us', h3, h5, h6⟩ := hr
    exact ⟨u, us', h3, Frz.sound hs h1 h5, FrzL.soundT hs h2 h6⟩
end
end Go.Hg
