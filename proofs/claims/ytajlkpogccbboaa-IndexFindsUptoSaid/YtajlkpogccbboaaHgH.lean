/- The laws of single operations: addresses, loads, new variables, literals. No condition. -/
import Derived.Test.YtajlkpogccbboaaHgG
import Derived.Laws.Slices
import Derived.Laws.MakeOwn
set_option linter.unusedVariables false
set_option linter.unusedSimpArgs false
namespace Go.Hg
open Go.RowKit

section
variable {P : Program} {env : Env} {H : Heap} {d : Option Tmp} {ty : TypeId} {ps : String} {af : Array Edge} {gd : Option (Nat × Bool)}

/-! ### addresses -/
theorem lop_fieldAddr_rf {x : Operand} {t off i fo n : Nat} {T : TypeId} {fs : Array Field} {f : Field} (hx : ev (get env) x = .rf t off) (hT : P.underlying T = some (.struct fs)) (hf : fs[i]? = some f) (hfo : f.offset = fo) (hsz : ∀ w, (sizeOf f.type).run P w = .ok n w) (hn : n ≠ 0) :
    LOp P ⟨d, .fieldAddr T x i, ty, ps, af, gd⟩ env H [] (.rf t (off + fo)) [] [] :=
  lop_pure fun w ok G ρ h => by
    have h1 := h x (by simp [Op.operands])
    rw [hx] at h1
    simp only [Rep] at h1
    obtain ⟨_, b, hb, h2⟩ := h1
    refine ⟨.pointer (some ⟨b, off + fo, none⟩), ?_, by simp only [Rep]; exact ⟨trivial, b, hb, rfl⟩⟩
    simp [execOp, Instr.fieldAt, run_underlying hT, hf, h2, Instr.sureAddr, fieldPlace, hsz, hn, hfo, lit_add]
theorem lop_fieldAddr_fp {x : Operand} {cs ys : List V} {i fo n : Nat} {T : TypeId} {fs : Array Field} {f : Field} (hx : ev (get env) x = .fp cs) (hT : P.underlying T = some (.struct fs)) (hf : fs[i]? = some f) (hfo : f.offset = fo) (hsz : ∀ w, (sizeOf f.type).run P w = .ok n w) (hn : n ≠ 0) (hy : cs.drop fo = ys) :
    LOp P ⟨d, .fieldAddr T x i, ty, ps, af, gd⟩ env H [] (.fp ys) [] [] :=
  lop_pure fun w ok G ρ h => by
    have h1 := h x (by simp [Op.operands])
    rw [hx] at h1
    simp only [Rep] at h1
    obtain ⟨A, us, h2, h3, h4⟩ := h1
    subst hy
    refine ⟨.pointer (some (A.add fo)), ?_, by simp only [Rep]; exact ⟨_, us.drop fo, rfl, by simpa using h3.drop fo, h4.drop fo⟩⟩
    simp [execOp, Instr.fieldAt, run_underlying hT, hf, h2, Instr.sureAddr, fieldPlace, hsz, hn, hfo]
theorem ix_run {T e sz n : Nat} (hT : P.underlying T = some (.slice e)) (hsz : ∀ w, (sizeOf e).run P w = .ok sz w) {A : Addr} {c : Nat} {k : IntKind} {i : Nat} (hi : i < n) (w : World) :
    (Instr.indexAt T (.slice (some A) n c) (.int k (i : Int))).run P w = .ok (.pointer (some (A.add (i * sz)))) w := by
  have : (0 : Int) ≤ i ∧ (i : Int) < n := ⟨by omega, by omega⟩
  simp [Instr.indexAt, asIntOf, run_underlying hT, hsz, hi]
theorem lop_indexAddr_sl {x y : Operand} {n sz i : Nat} {cs ys : List V} {k : IntKind} {z : Int} {T e : TypeId} (hx : ev (get env) x = .sl n cs) (hy : ev (get env) y = .int k z) (hT : P.underlying T = some (.slice e)) (hsz : ∀ w, (sizeOf e).run P w = .ok sz w) (hz : z = (i : Int)) (hi : i < n) (hys : cs.drop (i * sz) = ys) (hne : cs ≠ []) :
    LOp P ⟨d, .indexAddr T x y, ty, ps, af, gd⟩ env H [] (.fp ys) [] [] :=
  lop_pure fun w ok G ρ h => by
    have h1 := h x (by simp [Op.operands])
    have h2 := h y (by simp [Op.operands])
    rw [hx] at h1
    rw [hy] at h2
    simp only [Rep] at h1 h2
    subst hz
    subst hys
    obtain ⟨A, c, us, h3, h4, h5, h6⟩ := h1
    have hus : us ≠ [] := fun e => hne (List.eq_nil_of_length_eq_zero (by rw [← h6.length, e]; rfl))
    obtain ⟨ad, rfl, h7⟩ : ∃ ad, A = some ad ∧ At w ok (some ad) us := by
      rcases h5 with h5 | ⟨ad, rfl, h5⟩
      · exact absurd h5 hus
      · exact ⟨ad, rfl, .inr ⟨ad, rfl, h5⟩⟩
    refine ⟨.pointer (some (ad.add (i * sz))), ?_, by simp only [Rep]; exact ⟨_, us.drop (i * sz), rfl, by simpa using h7.drop (i * sz), h6.drop _⟩⟩
    simp [execOp, h3, h2, ix_run hT hsz hi]
theorem lop_indexAddr_os {x y : Operand} {t off n sz i : Nat} {k : IntKind} {z : Int} {T e : TypeId} (hx : ev (get env) x = .os t off sz n) (hy : ev (get env) y = .int k z) (hT : P.underlying T = some (.slice e)) (hsz : ∀ w, (sizeOf e).run P w = .ok sz w) (hz : z = (i : Int)) (hi : i < n) :
    LOp P ⟨d, .indexAddr T x y, ty, ps, af, gd⟩ env H [] (.rf t (off + i * sz)) [] [] :=
  lop_pure fun w ok G ρ h => by
    have h1 := h x (by simp [Op.operands])
    have h2 := h y (by simp [Op.operands])
    rw [hx] at h1
    rw [hy] at h2
    simp only [Rep] at h1 h2
    subst hz
    obtain ⟨_, ⟨b, c, o', cs, ty', fr, hb, h3, h4, h5, h6, h7, h8⟩ | ⟨_, h3, _⟩⟩ := h1
    case inr => omega
    have ho : o' = off := by rcases h8 with h8 | h8 <;> omega
    subst ho
    refine ⟨.pointer (some ⟨b, o' + i * sz, none⟩), ?_, by simp only [Rep]; exact ⟨trivial, b, hb, rfl⟩⟩
    simp [execOp, h3, h2, ix_run hT hsz hi, lit_add]
theorem lop_indexAddr_ar {x y : Operand} {t off n sz i : Nat} {k : IntKind} {z : Int} {T e : TypeId} (hx : ev (get env) x = .rf t off) (hy : ev (get env) y = .int k z) (hT : P.underlying T = some (.array n e)) (hsz : ∀ w, (sizeOf e).run P w = .ok sz w) (hz : z = (i : Int)) (hi : i < n) :
    LOp P ⟨d, .indexAddr T x y, ty, ps, af, gd⟩ env H [] (.rf t (off + i * sz)) [] [] :=
  lop_pure fun w ok G ρ h => by
    have h1 := h x (by simp [Op.operands])
    have h2 := h y (by simp [Op.operands])
    rw [hx] at h1
    rw [hy] at h2
    simp only [Rep] at h1 h2
    subst hz
    obtain ⟨_, b, hb, h3⟩ := h1
    refine ⟨.pointer (some ⟨b, off + i * sz, none⟩), ?_, by simp only [Rep]; exact ⟨trivial, b, hb, rfl⟩⟩
    simp [execOp, h3, h2, Instr.indexAt, asIntOf, run_underlying hT, Instr.sureAddr, hsz, hi, lit_add]

/-! ### loads -/
theorem Sees.at_ {w : World} {ok : Nat → Prop} {G : Nat → Option Nat} {R : List Nat} (hs : Sees w ok G H R) {t g : Nat} (ht : t ∈ R) {f : Bool} {cs : List V} (hH : hget H t = some (f, cs)) (hg : G t = some g) :
    ∃ (us rest : List Value) (ty : TypeId) (fr : Nat × Nat), w.heap[g]? = some (.cells (us ++ rest).toArray ty fr) ∧ RepL w ok G cs (!f) us ∧ (∀ u ∈ rest, u.oneCell' = true) ∧ (fr.2 ≤ fr.1 ∨ (us ++ rest).length ≤ fr.1) := by
  rcases hs.tok t ht f cs hH with h0 | ⟨b, hb, h⟩
  · rw [h0.1] at hg; cases hg
  · rw [hg] at hb; injection hb with hb; subst hb; exact h
theorem lop_load_rf_agg {x : Operand} {t off n : Nat} {f : Bool} {cs ys : List V} {T : TypeId} (hx : ev (get env) x = .rf t off) (hH : hget H t = some (f, cs)) (hagg : ∀ w, (isAgg T).run P w = .ok true w) (hsz : ∀ w, (sizeOf T).run P w = .ok n w) (hl : off + n ≤ cs.length) (hys : (cs.drop off).take n = ys) :
    LOp P ⟨d, .load T x, ty, ps, af, gd⟩ env H [t] (.agg ys) [] [] :=
  lop_read fun w ok G ρ hs h => by
    have h1 := h x (by simp [Op.operands])
    rw [hx] at h1
    simp only [Rep] at h1
    obtain ⟨_, g, hg, h2⟩ := h1
    obtain ⟨us, rest, ty', fr, h3, h4, _⟩ := hs.at_ (by simp) hH hg
    obtain ⟨u, h5, h6⟩ := load_rf_agg (P := P) hagg hsz h3 h4 hl hys
    exact ⟨u, by simp [execOp, Instr.loadAt, h2, Instr.sureAddr, h5], h6⟩
theorem lop_load_rf {x : Operand} {t off : Nat} {f : Bool} {cs : List V} {v : V} {T : TypeId} (hx : ev (get env) x = .rf t off) (hH : hget H t = some (f, cs)) (hagg : ∀ w, (isAgg T).run P w = .ok false w) (hv : cs[off]? = some v) :
    LOp P ⟨d, .load T x, ty, ps, af, gd⟩ env H [t] v [] [] :=
  lop_read fun w ok G ρ hs h => by
    have h1 := h x (by simp [Op.operands])
    rw [hx] at h1
    simp only [Rep] at h1
    obtain ⟨_, g, hg, h2⟩ := h1
    obtain ⟨us, rest, ty', fr, h3, h4, _⟩ := hs.at_ (by simp) hH hg
    obtain ⟨u, h5, h6⟩ := load_rf_one (P := P) hagg h3 h4 hv
    exact ⟨u, by simp [execOp, Instr.loadAt, h2, Instr.sureAddr, h5], h6⟩
theorem lop_load_fp_agg {x : Operand} {n : Nat} {cs ys : List V} {T : TypeId} (hx : ev (get env) x = .fp cs) (hagg : ∀ w, (isAgg T).run P w = .ok true w) (hsz : ∀ w, (sizeOf T).run P w = .ok n w) (hl : n ≤ cs.length) (hys : cs.take n = ys) :
    LOp P ⟨d, .load T x, ty, ps, af, gd⟩ env H [] (.agg ys) [] [] :=
  lop_pure fun w ok G ρ h => by
    have h1 := h x (by simp [Op.operands])
    rw [hx] at h1
    simp only [Rep] at h1
    obtain ⟨A, us, h2, h3, h4⟩ := h1
    obtain ⟨u, h5, h6⟩ := load_fp_agg (P := P) hagg hsz h3 h4 hl hys
    exact ⟨u, by simp [execOp, Instr.loadAt, h2, Instr.sureAddr, h5], h6⟩
theorem lop_load_fp {x : Operand} {cs : List V} {v : V} {T : TypeId} (hx : ev (get env) x = .fp cs) (hagg : ∀ w, (isAgg T).run P w = .ok false w) (hv : cs[0]? = some v) :
    LOp P ⟨d, .load T x, ty, ps, af, gd⟩ env H [] v [] [] :=
  lop_pure fun w ok G ρ h => by
    have h1 := h x (by simp [Op.operands])
    rw [hx] at h1
    simp only [Rep] at h1
    obtain ⟨A, us, h2, h3, h4⟩ := h1
    obtain ⟨u, h5, h6⟩ := load_fp_one (P := P) hagg h3 h4 hv
    exact ⟨u, by simp [execOp, Instr.loadAt, h2, Instr.sureAddr, h5], h6⟩

/-! ### new variables -/
theorem cells_tf {v : V} : tfL v.cells = tf v := by cases v <;> simp [V.cells, tfL, tf]
theorem lop_box {x : Operand} {v : V} {t e : Nat} {f : Bool} {cs : List V} (hx : ev (get env) x = v) (hs : v.solid = true) (hf : tf v = f) (hc : v.cells = cs) (hm : f = false → menL t cs = false) : LOp P ⟨d, .box e x, ty, ps, af, gd⟩ env H [] (.rf t 0) [(t, some (f, cs))] [t] :=
  lop_alloc (fun w ok G ρ h => by
    have h1 := h x (by simp [Op.operands])
    rw [hx] at h1
    have h2 := Rep.cellsL h1 hs
    subst hc
    refine ⟨.pointer (some ⟨w.heap.size, 0, none⟩), (ρ x).cells.toList, [], e, (0, 0), 0, ?_, ?_, by simp, by simp, fun w' G' h3 h4 => by simp only [Rep]; exact ⟨trivial, _, h4, rfl⟩⟩
    · simp [execOp, Instr.box, newVar, newRow, World.drewN_zero]
    · cases f with
      | true => exact RepL.tf_any _ _ (by rw [cells_tf]; exact hf) h2
      | false => exact h2) hm
theorem lop_new {t e : Nat} {z : Value} {cs : List V} (hz : ∀ w, (zeroValue e).run P w = .ok z w) (hk : okC z = true) (hsol : (ofC z).solid = true) (htf : tf (ofC z) = true) (hc : (ofC z).cells = cs) : LOp P ⟨d, .alloc e, ty, ps, af, gd⟩ env H [] (.rf t 0) [(t, some (true, cs))] [t] :=
  lop_alloc (fun w ok G ρ h => by
    subst hc
    have h2 : RepL w ok G (ofC z).cells false z.cells.toList := Rep.cellsL (Rep.ofC z hk) hsol
    refine ⟨.pointer (some ⟨w.heap.size, 0, none⟩), z.cells.toList, [], e, (0, 0), 0, ?_, h2, by simp, by simp, fun w' G' h3 h4 => by simp only [Rep]; exact ⟨trivial, _, h4, rfl⟩⟩
    simp [execOp, Instr.alloc, hz, newVar, newRow, World.drewN_zero]) (fun h => by cases h)

/-! ### literals -/
theorem map_range0 (f : Nat → Value) : (Array.range 0).map f = #[] := Array.eq_empty_of_size_eq_zero (by simp)
def vfill (place : Nat → Option (Nat × Nat)) (cells : List V) : List (Nat × V) → Option (List V)
  | [] => some cells
  | (i, v) :: rest => match place i with
    | none => none
    | some (off, size) => bif v.solid && Nat.beq v.cells.length size && Nat.ble (off + size) cells.length then vfill place (vsplice cells off v.cells) rest else none

theorem foldl_splice : ∀ (cs : List Value) (off j : Nat) (a : Array Value), off + j + cs.length ≤ a.size →
    ((cs.zipIdx j).foldl (fun (a : Array Value) (p : Value × Nat) => a.setIfInBounds (off + p.2) p.1) a).toList = a.toList.take (off + j) ++ cs ++ a.toList.drop (off + j + cs.length)
  | [], off, j, a, h => by simp
  | c :: cs, off, j, a, h => by
    simp only [List.length_cons] at h
    simp only [List.zipIdx_cons, List.foldl_cons]
    rw [foldl_splice cs off (j + 1) _ (by simp; omega)]
    simp only [Array.toList_setIfInBounds, List.length_cons]
    have hlt : off + j < a.toList.length := by rw [Array.length_toList]; omega
    rw [show off + (j + 1) = off + j + 1 by omega, List.take_set, List.drop_set]
    rw [if_pos (by omega)]
    rw [List.take_succ_eq_append_getElem hlt, List.set_append]
    have hl : (a.toList.take (off + j)).length = off + j := by rw [List.length_take]; omega
    rw [hl, if_neg (Nat.lt_irrefl _), Nat.sub_self]
    simp [Nat.add_assoc, Nat.add_comm 1]

theorem fill_rep {w : World} {ok : Nat → Prop} {G : Nat → Option Nat} {place : Nat → Option (Nat × Nat)} : ∀ (parts : List (Nat × V)) (us : List (Nat × Value)) (cells : List V) (ucells : Array Value) (out : List V),
    RepL w ok G cells true ucells.toList → vfill place cells parts = some out → parts.length = us.length → (∀ (j : Nat) (p : Nat × V) (u : Nat × Value), parts[j]? = some p → us[j]? = some u → p.1 = u.1 ∧ Rep w ok G p.2 true u.2) →
    ∃ uout, Instr.fill place ucells us = some uout ∧ RepL w ok G out true uout.toList
  | [], us, cells, ucells, out, hc, hf, hl, hp => by
    have : us = [] := List.eq_nil_of_length_eq_zero (by simpa using hl.symm)
    subst this
    simp only [vfill, Option.some.injEq] at hf
    subst hf
    exact ⟨ucells, rfl, hc⟩
  | (i, v) :: parts, us, cells, ucells, out, hc, hf, hl, hp => by
    obtain ⟨⟨i', u⟩, us, rfl⟩ : ∃ p us', us = p :: us' := by
      cases us with
      | nil => simp at hl
      | cons p us => exact ⟨p, us, rfl⟩
    obtain ⟨h1, h2⟩ := hp 0 (i, v) (i', u) rfl rfl
    simp only at h1 h2
    subst h1
    simp only [vfill] at hf
    cases hpl : place i with
    | none => rw [hpl] at hf; cases hf
    | some os =>
      obtain ⟨off, size⟩ := os
      rw [hpl] at hf
      simp only at hf
      cases hb : (v.solid && Nat.beq v.cells.length size && Nat.ble (off + size) cells.length) with
      | false => rw [hb] at hf; cases hf
      | true =>
        rw [hb] at hf
        simp only [cond_true] at hf
        simp only [Bool.and_eq_true] at hb
        obtain ⟨⟨hsol, hb1⟩, hb2⟩ := hb
        have hsize : v.cells.length = size := Nat.eq_of_beq_eq_true hb1
        have hoff : off + size ≤ cells.length := Nat.le_of_ble_eq_true hb2
        have hcl := Rep.cellsL h2 hsol
        have hul : u.cells.size = size := by rw [← hsize, ← hcl.length]; simp
        have hucl : ucells.size = cells.length := by rw [← hc.length]; simp
        have hsp := foldl_splice u.cells.toList off 0 ucells (by simp; omega)
        have hnew : RepL w ok G (vsplice cells off v.cells) true (((u.cells.toList.zipIdx 0).foldl (fun (a : Array Value) (p : Value × Nat) => a.setIfInBounds (off + p.2) p.1) ucells).toList) := by
          rw [hsp]
          unfold vsplice
          simp only [Nat.add_zero, Array.length_toList, hul, hsize]
          exact ((hc.take off).append hcl).append (hc.drop (off + size))
        obtain ⟨uout, h3, h4⟩ := fill_rep parts us _ _ out hnew hf (by simpa using hl) (fun j p u' hj hu => hp (j + 1) p u' (by simpa using hj) (by simpa using hu))
        refine ⟨uout, ?_, h4⟩
        simp only [Instr.fill, hpl]
        rw [if_neg (by simp [hul]; omega)]
        rw [← h3]
        congr 1
        rw [← Array.foldl_toList]
        simp

def evp (e : EF) (ps : List (Nat × Operand)) : List (Nat × V) := ps.map fun p => (p.1, ev e p.2)
theorem evp_reps {w : World} {ok : Nat → Prop} {G : Nat → Option Nat} {ρ : Operand → Value} {e : EF} {l : List (Nat × Operand)} (h : ∀ x ∈ l.map (·.2), Rep w ok G (ev e x) true (ρ x)) :
    (evp e l).length = (l.map fun p => (p.1, ρ p.2)).length ∧ ∀ (j : Nat) (p : Nat × V) (u : Nat × Value), (evp e l)[j]? = some p → (l.map fun p => (p.1, ρ p.2))[j]? = some u → p.1 = u.1 ∧ Rep w ok G p.2 true u.2 := by
  refine ⟨by simp [evp], fun j p u hp hu => ?_⟩
  simp only [evp, List.getElem?_map, Option.map_eq_some_iff] at hp hu
  obtain ⟨q, hq, rfl⟩ := hp
  obtain ⟨q', hq', rfl⟩ := hu
  rw [hq] at hq'
  injection hq' with hq'
  subst hq'
  exact ⟨rfl, h q.2 (List.mem_map.2 ⟨q, List.mem_of_getElem? hq, rfl⟩)⟩

/-- Where a struct's fields stand. -/
def placesOf (fs : Array Field) : Sem (Array (Nat × Nat)) := fs.mapM fun f => do pure (f.offset, ← sizeOf f.type)
theorem lop_build {parts : Array (Nat × Operand)} {T : TypeId} {fs : Array Field} {z : Value} {pl : Array (Nat × Nat)} {cs : List V} (hT : P.underlying T = some (.struct fs)) (hz : ∀ w, (zeroValue T).run P w = .ok z w) (hk : okC z = true) (hsol : (ofC z).solid = true)
    (hpl : ∀ w, (placesOf fs).run P w = .ok pl w) (hf : vfill (fun i => pl[i]?) (ofC z).cells (evp (get env) parts.toList) = some cs) : LOp P ⟨d, .build T parts, ty, ps, af, gd⟩ env H [] (.agg cs) [] [] :=
  lop_pure fun w ok G ρ h => by
    have h2 : RepL w ok G (ofC z).cells true z.cells.toList := Rep.cellsL (Rep.ofC z hk) hsol
    obtain ⟨h3, h4⟩ := evp_reps (l := parts.toList) (ρ := ρ) (e := get env) (w := w) (ok := ok) (G := G) (fun x hx => h x (by simpa [Op.operands] using hx))
    obtain ⟨uout, h5, h6⟩ := fill_rep _ _ _ _ _ h2 hf h3 h4
    refine ⟨.agg uout, ?_, by simp only [Rep]; exact ⟨uout.toList, by simp, h6⟩⟩
    have hpl' : Sem.run P (fs.mapM fun f => do pure (f.offset, ← sizeOf f.type)) w = .ok pl w := hpl w
    simp only [execOp, Instr.build, Sem.run_bind, hz, Result.andThen_ok, run_underlying hT, hpl']
    have h7 : (parts.map fun (i, x) => (i, ρ x)).toList = parts.toList.map fun p => (p.1, ρ p.2) := by simp
    rw [h7, h5]
    simp
theorem lop_buildSlice {parts : Array (Nat × Operand)} {T e n sz t : Nat} {z : Value} {cs : List V} {f : Bool} (hT : P.underlying T = some (.slice e)) (hsz : ∀ w, (sizeOf e).run P w = .ok sz w) (h0 : 0 < sz) (hz : ∀ w, (zeroValue e).run P w = .ok z w) (hk : okC z = true) (hsol : (ofC z).solid = true) (hzl : (ofC z).cells.length = sz)
    (hn : n * sz ≤ 16777216) (hf : vfill (fun i => some (i * sz, sz)) (List.replicate n (ofC z).cells).flatten (evp (get env) parts.toList) = some cs) (hcs : n = 0 ∨ 0 < n) (htf : tfL cs = f) (hm : f = false → menL t cs = false) :
    LOp P ⟨d, .buildSlice T n parts, ty, ps, af, gd⟩ env H [] (.os t 0 sz n) [(t, some (f, cs))] [t] :=
  lop_alloc (fun w ok G ρ h => by
    have h2 : RepL w ok G (ofC z).cells true z.cells.toList := Rep.cellsL (Rep.ofC z hk) hsol
    have hzs : z.cells.size = sz := by rw [← hzl, ← h2.length]; simp
    have hrow : ∀ m, RepL w ok G (List.replicate m (ofC z).cells).flatten true ((Array.range (m * sz)).map (z.cells[· % z.cells.size]!)).toList := by
      intro m
      have key : ((Array.range (m * sz)).map (z.cells[· % z.cells.size]!)).toList = (List.replicate m z.cells.toList).flatten := by
        apply List.ext_getElem?
        intro j
        rcases Nat.lt_or_ge j (m * sz) with hj | hj
        · have hq : j / sz < m := Nat.div_lt_of_lt_mul (by rwa [Nat.mul_comm])
          have hr : j % sz < sz := Nat.mod_lt _ h0
          have h8 : (List.replicate m z.cells.toList).flatten[j]? = z.cells.toList[j % sz]? := by
            induction m generalizing j with
            | zero => omega
            | succ m ih =>
              rw [List.replicate_succ, List.flatten_cons]
              rcases Nat.lt_or_ge j sz with h9 | h9
              · rw [List.getElem?_append_left (by simpa [hzs] using h9), Nat.mod_eq_of_lt h9]
              · rw [List.getElem?_append_right (by simpa [hzs] using h9)]
                simp only [Array.length_toList, hzs]
                have h10 : (j - sz) % sz = j % sz := by
                  conv => rhs; rw [← Nat.sub_add_cancel h9]
                  simp
                have h11 : j - sz < m * sz := by rw [Nat.add_mul, Nat.one_mul] at hj; omega
                rw [ih (j - sz) h11 (Nat.div_lt_of_lt_mul (by rwa [Nat.mul_comm])) (Nat.mod_lt _ h0), h10]
          rw [h8]
          simp [hj, hzs, hr]
        · rw [List.getElem?_eq_none (by simpa using hj), List.getElem?_eq_none (by simpa [hzs] using hj)]
      rw [key]
      clear key
      induction m with
      | zero => simp [RepL]
      | succ m ih => simpa [List.replicate_succ] using h2.append ih
    obtain ⟨h3, h4⟩ := evp_reps (l := parts.toList) (ρ := ρ) (e := get env) (w := w) (ok := ok) (G := G) (fun x hx => h x (by simpa [Op.operands] using hx))
    obtain ⟨uout, h5, h6⟩ := fill_rep _ _ _ _ _ (hrow n) hf h3 h4
    have hul : uout.size = n * sz := by
      have h9 := h6.length
      have h10 : cs.length = n * sz := by
        have key : ∀ (parts : List (Nat × V)) (cells out : List V), vfill (fun i => some (i * sz, sz)) cells parts = some out → out.length = cells.length := by
          intro parts
          induction parts with
          | nil => intro cells out h; simp only [vfill, Option.some.injEq] at h; rw [h]
          | cons p parts ih =>
            intro cells out h
            obtain ⟨i, v⟩ := p
            simp only [vfill] at h
            cases hb : (v.solid && Nat.beq v.cells.length sz && Nat.ble (i * sz + sz) cells.length) with
            | false => rw [hb] at h; cases h
            | true =>
              rw [hb] at h
              simp only [Bool.and_eq_true] at hb
              have e1 : v.cells.length = sz := Nat.eq_of_beq_eq_true hb.1.2
              have e2 : i * sz + sz ≤ cells.length := Nat.le_of_ble_eq_true hb.2
              rw [ih _ _ (by simpa using h)]
              unfold vsplice
              simp only [List.length_append, List.length_take, List.length_drop, e1]
              omega
        rw [key _ _ _ hf]
        have key2 : ∀ n, (List.replicate n (ofC z).cells).flatten.length = n * sz := by
          intro n
          induction n with
          | zero => simp
          | succ n ih => rw [List.replicate_succ, List.flatten_cons, List.length_append, hzl, ih, Nat.add_mul, Nat.one_mul, Nat.add_comm]
        exact key2 n
      rw [h10] at h9
      simpa using h9
    have h7 : (parts.map fun (i, x) => (i, ρ x)).toList = parts.toList.map fun p => (p.1, ρ p.2) := by simp
    refine ⟨.slice (some ⟨w.heap.size, 0, none⟩) n n, uout.toList, [], e, (0, 0), 0, ?_, ?_, by simp, by simp, fun w' G' h8 h9 => ?_⟩
    · simp only [execOp, Instr.buildSlice, Sem.run_bind, run_underlying hT, Result.andThen_ok, hsz]
      rw [if_neg (by omega)]
      rcases hcs with rfl | hn0
      · have h5' : Instr.fill (fun i => some (i * sz, sz)) #[] (parts.map fun (i, x) => (i, ρ x)).toList = some uout := by
          rw [h7]
          simp only [Nat.zero_mul, map_range0] at h5
          exact h5
        simp only [Nat.zero_mul, if_true, Sem.run_pure, Result.andThen_ok, map_range0, h5']
        simp [newRow, World.drewN_zero]
      · have hne : ¬ (n * sz = 0) := by
          have := Nat.mul_pos hn0 h0
          omega
        rw [h7]
        simp [hne, hz, h5, newRow, World.drewN_zero]
    · cases f with
      | true => exact RepL.tf_any _ _ htf h6
      | false => exact h6
    · simp only [Rep]
      exact ⟨trivial, .inl ⟨w.heap.size, n, 0, _, e, (0, 0), h9, rfl, Nat.le_refl _, h0, h8, by simp [hul], .inr rfl⟩⟩) hm
end
end Go.Hg
