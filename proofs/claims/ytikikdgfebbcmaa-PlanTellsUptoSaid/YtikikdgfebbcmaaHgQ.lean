/- Structs of two whole numbers that are compared; lists of structs in a row. No condition. -/
import Derived.Test.YtikikdgfebbcmaaHgP
import Derived.Laws.StructEq
set_option linter.unusedVariables false
set_option linter.unusedSimpArgs false
namespace Go.Hg
open Go.RowKit

section
variable {P : Program}
theorem eqF_go (d : Nat) (xs ys : Array Value) (f : Field) (fs : List Field) (w : World) {a b : Value} {r s : Bool} (hn : f.name ≠ "_") (ha : (part f.type xs f.offset).run P w = .ok a w) (hb : (part f.type ys f.offset).run P w = .ok b w)
    (he : (Op.equalIn d f.type a b).run P w = .ok r w) (hr : (Op.eqFields d xs ys fs).run P w = .ok s w) : (Op.eqFields d xs ys (f :: fs)).run P w = .ok (r && s) w := by
  rw [Op.eqFields]
  simp only [if_pos hn, Sem.run_bind, ha, hb, he, Result.andThen_ok]
  cases r
  · simp
  · simpa using hr
theorem run_eq2 {T : TypeId} {f0 f1 : Field} {k0 k1 : IntKind} (hT : P.underlying T = some (.struct #[f0, f1])) (hp : P.stoodInHeld T = false) (n0 : f0.name ≠ "_") (n1 : f1.name ≠ "_") (o0 : f0.offset = 0) (o1 : f1.offset = 1)
    (u0 : P.underlying f0.type = some (.int k0)) (u1 : P.underlying f1.type = some (.int k1)) (g0 : ∀ w, (isAgg f0.type).run P w = .ok false w) (g1 : ∀ w, (isAgg f1.type).run P w = .ok false w) (a b c d : Int) (w : World) :
    (binOp .eql T (.agg #[.int k0 a, .int k1 b]) (.agg #[.int k0 c, .int k1 d])).run P w = .ok (.bool (decide (a = c ∧ b = d))) w := by
  have hf : P.fieldsOf T = #[f0, f1] := by simp [Program.fieldsOf, hT]
  rw [run_eql_struct, run_equalIn_struct w 9999 T _ _ (by rw [hf]; exact hT) hp, hf]
  have h1 : (Op.eqFields 9999 #[.int k0 a, .int k1 b] #[.int k0 c, .int k1 d] [f0, f1]).run P w = .ok ((a == c) && ((b == d) && true)) w := by
    refine eqF_go _ _ _ _ _ w n0 (a := .int k0 a) (b := .int k0 c) ?_ ?_ (run_equalIn_int w 9998 f0.type k0 k0 a c u0) ?_
    · simp [part, g0, o0]
    · simp [part, g0, o0]
    · refine eqF_go _ _ _ _ _ w n1 (a := .int k1 b) (b := .int k1 d) ?_ ?_ (run_equalIn_int w 9998 f1.type k1 k1 b d u1) ?_
      · simp [part, g1, o1]
      · simp [part, g1, o1]
      · simp [Op.eqFields]
  show (Sem.run P (Op.eqFields 9999 _ _ [f0, f1]) w).andThen _ = _
  rw [h1]
  simp only [Result.andThen_ok, Bool.and_true]
  congr 2
  by_cases h2 : a = c <;> by_cases h3 : b = d <;> simp [h2, h3]
theorem run_ne2 {T : TypeId} {f0 f1 : Field} {k0 k1 : IntKind} (hT : P.underlying T = some (.struct #[f0, f1])) (hp : P.stoodInHeld T = false) (n0 : f0.name ≠ "_") (n1 : f1.name ≠ "_") (o0 : f0.offset = 0) (o1 : f1.offset = 1)
    (u0 : P.underlying f0.type = some (.int k0)) (u1 : P.underlying f1.type = some (.int k1)) (g0 : ∀ w, (isAgg f0.type).run P w = .ok false w) (g1 : ∀ w, (isAgg f1.type).run P w = .ok false w) (a b c d : Int) (w : World) :
    (binOp .neq T (.agg #[.int k0 a, .int k1 b]) (.agg #[.int k0 c, .int k1 d])).run P w = .ok (.bool (!decide (a = c ∧ b = d))) w := by
  have h := run_eq2 (P := P) hT hp n0 n1 o0 o1 u0 u1 g0 g1 a b c d w
  rw [run_eql_struct] at h
  rw [run_neq_struct]
  cases hr : (Op.equalIn 10000 T (.agg #[.int k0 a, .int k1 b]) (.agg #[.int k0 c, .int k1 d])).run P w with
  | ok r w' =>
    rw [hr] at h
    simp only [Result.andThen_ok, Result.ok.injEq, Value.bool.injEq] at h
    rw [h.1, h.2]
    rfl
  | halt x w' => rw [hr] at h; simp [Result.andThen] at h
end

/-! ### rows of structs -/
theorem flat_length {α : Type} {enc : α → List V} {sz : Nat} (hs : ∀ x, (enc x).length = sz) : ∀ l : List α, (l.flatMap enc).length = l.length * sz
  | [] => by simp
  | x :: l => by
    rw [List.flatMap_cons, List.length_append, hs, flat_length hs l, List.length_cons, Nat.add_mul, Nat.one_mul, Nat.add_comm]
theorem flat_drop {α : Type} {enc : α → List V} {sz : Nat} (hs : ∀ x, (enc x).length = sz) : ∀ (l : List α) (i : Nat), (l.flatMap enc).drop (i * sz) = (l.drop i).flatMap enc
  | l, 0 => by simp
  | [], i + 1 => by simp
  | x :: l, i + 1 => by
    rw [List.flatMap_cons, List.drop_succ_cons, ← flat_drop hs l i, Nat.add_mul, Nat.one_mul, Nat.add_comm, ← List.drop_drop]
    congr 1
    rw [← hs x, List.drop_left]
theorem flat_at {α : Type} {enc : α → List V} {sz : Nat} (hs : ∀ x, (enc x).length = sz) {l : List α} {i : Nat} (h : i < l.length) : (l.flatMap enc).drop (i * sz) = enc l[i] ++ (l.drop (i + 1)).flatMap enc := by
  rw [flat_drop hs, List.drop_eq_getElem_cons h, List.flatMap_cons]
theorem flat_ne {α : Type} {enc : α → List V} {sz : Nat} (hs : ∀ x, (enc x).length = sz) (h0 : 0 < sz) {l : List α} {i : Nat} (h : i < l.length) : l.flatMap enc ≠ [] := by
  intro e
  have h1 := flat_length hs l
  rw [e] at h1
  have h2 : 0 < l.length * sz := Nat.mul_pos (by omega) h0
  simp only [List.length_nil] at h1
  omega
theorem flat_take {α : Type} {enc : α → List V} {sz : Nat} (hs : ∀ x, (enc x).length = sz) : ∀ (l : List α) (i : Nat), (l.flatMap enc).take (i * sz) = (l.take i).flatMap enc
  | l, 0 => by simp
  | [], i + 1 => by simp
  | x :: l, i + 1 => by
    rw [List.flatMap_cons, List.take_succ_cons, List.flatMap_cons, ← flat_take hs l i, Nat.add_mul, Nat.one_mul, Nat.add_comm, List.take_append, hs, Nat.add_sub_cancel_left, List.take_of_length_le (by rw [hs]; omega)]
theorem tfL_append : ∀ (a b : List V), tfL (a ++ b) = (tfL a && tfL b)
  | [], b => rfl
  | v :: a, b => by simp [tfL, tfL_append a b, Bool.and_assoc]
theorem tfL_flat {α : Type} {enc : α → List V} (h : ∀ x, tfL (enc x) = true) : ∀ l : List α, tfL (l.flatMap enc) = true
  | [] => rfl
  | x :: l => by rw [List.flatMap_cons, tfL_append, h, tfL_flat h l]; rfl
end Go.Hg
/- A slice held against nil. No condition. -/
set_option linter.unusedVariables false
set_option linter.unusedSimpArgs false
namespace Go.Hg
open Go.RowKit

section
variable {P : Program} {ops : Array Oper} {rest : List Oper} {env : Env} {H : Heap} {sz : Nat} {K : St → Prop} {d : Nat} {ty : TypeId} {ps : String} {af : Array Edge}

theorem run_eql_nil {T e : TypeId} (hT : P.underlying T = some (.slice e)) (A : Option Addr) (n c : Nat) (w : World) : (binOp .eql T (.slice A n c) (.slice none 0 0)).run P w = .ok (.bool A.isNone) w := by
  have h : (Op.equalIn (9999 + 1) T (.slice A n c) (.slice none 0 0)).run P w = .ok A.isNone w := by
    rw [Op.equalIn]
    cases A <;> simp [run_underlying hT]
  have h2 : binOp .eql T (.slice A n c) (.slice none 0 0) = (do pure (.bool (← Op.equalIn (9999 + 1) T (.slice A n c) (.slice none 0 0)))) := rfl
  rw [h2]
  simp [h]

/-- A frozen slice held against nil: an empty one may be nil or not. -/
theorem op_slnil {T T' e n : Nat} {x : Operand} {cs : List V} (hok : opOk ⟨some d, .binOp .eql T x (.const (.slice none 0 0)) T', ty, ps, af, none⟩ sz = true) (hx : ev (get env) x = .sl n cs) (hT : P.underlying T = some (.slice e))
    (ht : cs = [] → OpsOk P ops rest ⟨(d, .bool true) :: env, H, sz⟩ K) (hf : OpsOk P ops rest ⟨(d, .bool false) :: env, H, sz⟩ K) :
    OpsOk P ops (⟨some d, .binOp .eql T x (.const (.slice none 0 0)) T', ty, ps, af, none⟩ :: rest) ⟨env, H, sz⟩ K := by
  intro w0 ok0 a w r Q hq
  obtain ⟨ok, G, hs, hr, h1, h2⟩ := r
  have hxv : Rep w ok G (.sl n cs) true (a.eval x) := by
    have := Rep.ev hr x (opd_ok hok x (by simp [Op.operands]))
    rwa [hx] at this
  simp only [Rep] at hxv
  obtain ⟨A, c, us, hA, hle, hat, hrl⟩ := hxv
  have hrun : (execOp a.eval ⟨some d, .binOp .eql T x (.const (.slice none 0 0)) T', ty, ps, af, none⟩).run P w = .ok (.value (.bool A.isNone)) w := by
    have hc : a.eval (.const (.slice none 0 0)) = .slice none 0 0 := rfl
    have hg : (eqGuard .eql T x (.const (.slice none 0 0)) (.slice A n c) (.slice none 0 0)).run P w = .ok () w := by simp [eqGuard]
    simp only [execOp, hA, hc, Sem.run_bind, hg, Result.andThen_ok, run_eql_nil hT, Sem.run_pure]
  unfold wpList
  rw [if_pos (by simp [Region.wanted])]
  refine .inl ?_
  unfold Oper.wp
  rw [hrun]
  have hput := fun b => rel_put (v := .bool b) (dst := some d) (u := .bool b) (e := get env) (h := hget H) (sz := sz) hs hr h1 h2 (dst_lt hok) (by simp [Rep])
  cases A with
  | none =>
    have hcs : cs = [] := by
      have hus : us = [] := by
        rcases hat with h | ⟨ad, h, _⟩
        · exact h
        · cases h
      subst hus
      have := hrl.length
      exact List.eq_nil_of_length_eq_zero this.symm
    exact ht hcs w0 ok0 _ w (hput true) Q hq
  | some ad => exact hf w0 ok0 _ w (hput false) Q hq

/-- A scope in which the run jumps back to one label, what stands behind the label told once. -/
theorem ok_scopeR {ι : Type} {S : St} {Q : Exit → St → Prop} {c rest' : Code} (l : Nat) (hf : findLabel c l = some (.seq .skip rest')) (I : ι → St) (μ : ι → Nat) (i0 : ι)
    (pass : ∀ i, Ok P rest' (I i) (fun e S' => match e with | .goto l' => l' = l ∧ ∃ j, μ j < μ i ∧ Le S' (I j) | e => Q e S'))
    (first : (∀ T, Le T (I i0) → Ok P (.seq (.label l) rest') T (fun e S' => match e with | .goto l' => l' = l ∧ ∃ j, Le S' (I j) | e => Q e S')) → Ok P c S (fun e S' => match e with | .goto l' => l' = l ∧ ∃ j, Le S' (I j) | e => Q e S')) : Ok P (.scope c) S Q := by
  refine ok_scope l hf I μ (first fun T hT => ?_) (fun i => ok_seq (ok_skip (pass i)))
  refine ok_seq (ok_label (Ok.le hT ((pass i0).mono fun e S' hq => ?_)))
  cases e <;> first
    | exact hq
    | exact ⟨hq.1, hq.2.imp fun j hj => hj.2⟩
end

/-! ### read out by looking, through rows in rows -/
def fzd (H : Heap) : Nat → V → V
  | 0, v => v
  | _ + 1, .z0 => .sl 0 []
  | k + 1, .os t off sz n => match hget H t with | some (_, blk) => .sl n (((blk.drop off).take (n * sz)).map (fzd H k)) | _ => .os t off sz n
  | _ + 1, .rf t off => match hget H t with | some (true, blk) => .fp (blk.drop off) | _ => .rf t off
  | k + 1, .fn f caps => .fn f (caps.map (fzd H k))
  | k + 1, .agg cs => .agg (cs.map (fzd H k))
  | k + 1, .tup vs => .tup (vs.map (fzd H k))
  | _ + 1, v => v
def okFzd (H : Heap) (R : List Nat) : Nat → V → Bool
  | 0, v => tf v
  | k + 1, .os t off sz n => memN t R && match hget H t with | some (_, blk) => Nat.ble (off + n * sz) blk.length && ((blk.drop off).take (n * sz)).all (okFzd H R k) | _ => false
  | _ + 1, .rf t _ => memN t R && match hget H t with | some (true, _) => true | _ => false
  | k + 1, .fn _ caps => caps.all (okFzd H R k)
  | k + 1, .agg cs => cs.all (okFzd H R k)
  | k + 1, .tup vs => vs.all (okFzd H R k)
  | _ + 1, _ => true
theorem frzL_map {h : HF} {R : List Nat} {f : V → V} : ∀ {vs : List V}, (∀ v ∈ vs, Frz h R v (f v)) → FrzL h R vs (vs.map f)
  | [], _ => .nil
  | v :: vs, H => .cons (H v (by simp)) (frzL_map fun x hx => H x (by simp [hx]))
theorem fzd_sound (H : Heap) (R : List Nat) : ∀ (k : Nat) (v : V), okFzd H R k v = true → Frz (hget H) R v (fzd H k v)
  | 0, v, h => by simp only [fzd]; exact .tf (by simpa [okFzd] using h)
  | k + 1, v, h => by
    have hl : ∀ vs : List V, vs.all (okFzd H R k) = true → FrzL (hget H) R vs (vs.map (fzd H k)) := fun vs hv => frzL_map fun x hx => fzd_sound H R k x (List.all_eq_true.1 hv x hx)
    cases v with
    | bool _ => simp only [fzd]; exact .tf rfl
    | int _ _ => simp only [fzd]; exact .tf rfl
    | str _ => simp only [fzd]; exact .tf rfl
    | z0 => simp only [fzd]; exact .z
    | sl _ _ => simp only [fzd]; exact .tf rfl
    | fp _ => simp only [fzd]; exact .tf rfl
    | raw _ => simp only [fzd]; exact .tf rfl
    | undef => simp only [fzd]; exact .tf rfl
    | fn _ caps => simp only [fzd]; exact .fn (hl _ (by simpa only [okFzd] using h))
    | agg cs => simp only [fzd]; exact .agg (hl _ (by simpa only [okFzd] using h))
    | tup cs => simp only [fzd]; exact .tup (hl _ (by simpa only [okFzd] using h))
    | os t off sz n =>
      simp only [okFzd, Bool.and_eq_true] at h
      obtain ⟨h1, h2⟩ := h
      simp only [fzd]
      cases hh : hget H t with
      | none => rw [hh] at h2; cases h2
      | some bl =>
        obtain ⟨f, blk⟩ := bl
        rw [hh] at h2
        simp only [Bool.and_eq_true] at h2
        exact .os (memN_iff.1 h1) hh (Nat.le_of_ble_eq_true h2.1) (hl _ h2.2)
    | rf t off =>
      simp only [okFzd, Bool.and_eq_true] at h
      obtain ⟨h1, h2⟩ := h
      simp only [fzd]
      cases hh : hget H t with
      | none => rw [hh] at h2; cases h2
      | some bl =>
        obtain ⟨f, blk⟩ := bl
        rw [hh] at h2
        cases f with
        | false => cases h2
        | true => exact .rff (memN_iff.1 h1) hh rfl
theorem fzdL_sound (H : Heap) (R : List Nat) (k : Nat) (vs : List V) (h : vs.all (okFzd H R k) = true) : FrzL (hget H) R vs (vs.map (fzd H k)) := frzL_map fun x hx => fzd_sound H R k x (List.all_eq_true.1 h x hx)
end Go.Hg
