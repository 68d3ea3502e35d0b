/- Structs of two whole numbers that are compared; lists of structs in a row. No condition. -/
import Derived.Test.YtajlkpogccbboaaHgP
import Derived.Laws.StructEq
set_option linter.unusedVariables false
set_option linter.unusedSimpArgs false
namespace Go.Hg
open Go.RowKit

section
variable {P : Program}
theorem eqF_go (d : Nat) (xs ys : Array Value) (f : Field) (fs : List Field) (w : World) {a b : Value} {r s : Bool} (hn : f.name ≠ "_") (ha : (part f.type xs f.offset).run P w = .ok a w) (hb : (part f.type ys f.offset).run P w = .ok b w)
    (he : (Op.equalIn d f.type a b).run P w = .ok r w) (hr : (Op.eqFields d xs ys fs).run P w = .ok s w) : (Op.eqFields d xs ys (f :: fs)).run P w = .ok (r && s) w := by
  rw [Op.eqFields]
  simp only [if_pos hn, Sem.run_bind, ha, hb, he, Result.andThen_ok]
  cases r
  · simp
  · simpa using hr
theorem run_eq2 {T : TypeId} {f0 f1 : Field} {k0 k1 : IntKind} (hT : P.underlying T = some (.struct #[f0, f1])) (hp : P.stoodInHeld T = false) (n0 : f0.name ≠ "_") (n1 : f1.name ≠ "_") (o0 : f0.offset = 0) (o1 : f1.offset = 1)
    (u0 : P.underlying f0.type = some (.int k0)) (u1 : P.underlying f1.type = some (.int k1)) (g0 : ∀ w, (isAgg f0.type).run P w = .ok false w) (g1 : ∀ w, (isAgg f1.type).run P w = .ok false w) (a b c d : Int) (w : World) :
    (binOp .eql T (.agg #[.int k0 a, .int k1 b]) (.agg #[.int k0 c, .int k1 d])).run P w = .ok (.bool (decide (a = c ∧ b = d))) w := by
  have hf : P.fieldsOf T = #[f0, f1] := by simp [Program.fieldsOf, hT]
  rw [run_eql_struct, run_equalIn_struct w 9999 T _ _ (by rw [hf]; exact hT) hp, hf]
  have h1 : (Op.eqFields 9999 #[.int k0 a, .int k1 b] #[.int k0 c, .int k1 d] [f0, f1]).run P w = .ok ((a == c) && ((b == d) && true)) w := by
    refine eqF_go _ _ _ _ _ w n0 (a := .int k0 a) (b := .int k0 c) ?_ ?_ (run_equalIn_int w 9998 f0.type k0 k0 a c u0) ?_
    · simp [part, g0, o0]
    · simp [part, g0, o0]
    · refine eqF_go _ _ _ _ _ w n1 (a := .int k1 b) (b := .int k1 d) ?_ ?_ (run_equalIn_int w 9998 f1.type k1 k1 b d u1) ?_
      · simp [part, g1, o1]
      · simp [part, g1, o1]
      · simp [Op.eqFields]
  show (Sem.run P (Op.eqFields 9999 _ _ [f0, f1]) w).andThen _ = _
  rw [h1]
  simp only [Result.andThen_ok, Bool.and_true]
  congr 2
  by_cases h2 : a = c <;> by_cases h3 : b = d <;> simp [h2, h3]
theorem run_ne2 {T : TypeId} {f0 f1 : Field} {k0 k1 : IntKind} (hT : P.underlying T = some (.struct #[f0, f1])) (hp : P.stoodInHeld T = false) (n0 : f0.name ≠ "_") (n1 : f1.name ≠ "_") (o0 : f0.offset = 0) (o1 : f1.offset = 1)
    (u0 : P.underlying f0.type = some (.int k0)) (u1 : P.underlying f1.type = some (.int k1)) (g0 : ∀ w, (isAgg f0.type).run P w = .ok false w) (g1 : ∀ w, (isAgg f1.type).run P w = .ok false w) (a b c d : Int) (w : World) :
    (binOp .neq T (.agg #[.int k0 a, .int k1 b]) (.agg #[.int k0 c, .int k1 d])).run P w = .ok (.bool (!decide (a = c ∧ b = d))) w := by
  have h := run_eq2 (P := P) hT hp n0 n1 o0 o1 u0 u1 g0 g1 a b c d w
  rw [run_eql_struct] at h
  rw [run_neq_struct]
  cases hr : (Op.equalIn 10000 T (.agg #[.int k0 a, .int k1 b]) (.agg #[.int k0 c, .int k1 d])).run P w with
  | ok r w' =>
    rw [hr] at h
    simp only [Result.andThen_ok, Result.ok.injEq, Value.bool.injEq] at h
    rw [h.1, h.2]
    rfl
  | halt x w' => rw [hr] at h; simp [Result.andThen] at h
end

/-! ### rows of structs -/
theorem flat_length {α : Type} {enc : α → List V} {sz : Nat} (hs : ∀ x, (enc x).length = sz) : ∀ l : List α, (l.flatMap enc).length = l.length * sz
  | [] => by simp
  | x :: l => by
    rw [List.flatMap_cons, List.length_append, hs, flat_length hs l, List.length_cons, Nat.add_mul, Nat.one_mul, Nat.add_comm]
theorem flat_drop {α : Type} {enc : α → List V} {sz : Nat} (hs : ∀ x, (enc x).length = sz) : ∀ (l : List α) (i : Nat), (l.flatMap enc).drop (i * sz) = (l.drop i).flatMap enc
  | l, 0 => by simp
  | [], i + 1 => by simp
  | x :: l, i + 1 => by
    rw [List.flatMap_cons, List.drop_succ_cons, ← flat_drop hs l i, Nat.add_mul, Nat.one_mul, Nat.add_comm, ← List.drop_drop]
    congr 1
    rw [← hs x, List.drop_left]
theorem flat_at {α : Type} {enc : α → List V} {sz : Nat} (hs : ∀ x, (enc x).length = sz) {l : List α} {i : Nat} (h : i < l.length) : (l.flatMap enc).drop (i * sz) = enc l[i] ++ (l.drop (i + 1)).flatMap enc := by
  rw [flat_drop hs, List.drop_eq_getElem_cons h, List.flatMap_cons]
theorem flat_ne {α : Type} {enc : α → List V} {sz : Nat} (hs : ∀ x, (enc x).length = sz) (h0 : 0 < sz) {l : List α} {i : Nat} (h : i < l.length) : l.flatMap enc ≠ [] := by
  intro e
  have h1 := flat_length hs l
  rw [e] at h1
  have h2 : 0 < l.length * sz := Nat.mul_pos (by omega) h0
  simp only [List.length_nil] at h1
  omega
theorem flat_take {α : Type} {enc : α → List V} {sz : Nat} (hs : ∀ x, (enc x).length = sz) : ∀ (l : List α) (i : Nat), (l.flatMap enc).take (i * sz) = (l.take i).flatMap enc
  | l, 0 => by simp
  | [], i + 1 => by simp
  | x :: l, i + 1 => by
    rw [List.flatMap_cons, List.take_succ_cons, List.flatMap_cons, ← flat_take hs l i, Nat.add_mul, Nat.one_mul, Nat.add_comm, List.take_append, hs, Nat.add_sub_cancel_left, List.take_of_length_le (by rw [hs]; omega)]
theorem tfL_append : ∀ (a b : List V), tfL (a ++ b) = (tfL a && tfL b)
  | [], b => rfl
  | v :: a, b => by simp [tfL, tfL_append a b, Bool.and_assoc]
theorem tfL_flat {α : Type} {enc : α → List V} (h : ∀ x, tfL (enc x) = true) : ∀ l : List α, tfL (l.flatMap enc) = true
  | [] => rfl
  | x :: l => by rw [List.flatMap_cons, tfL_append, h, tfL_flat h l]; rfl
end Go.Hg
