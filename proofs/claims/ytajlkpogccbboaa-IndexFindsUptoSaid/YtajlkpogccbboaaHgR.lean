/- A slice held against nil. No condition. -/
import Derived.Test.YtajlkpogccbboaaHgQ
set_option linter.unusedVariables false
set_option linter.unusedSimpArgs false
namespace Go.Hg
open Go.RowKit

section
variable {P : Program} {ops : Array Oper} {rest : List Oper} {env : Env} {H : Heap} {sz : Nat} {K : St → Prop} {d : Nat} {ty : TypeId} {ps : String} {af : Array Edge}

theorem run_eql_nil {T e : TypeId} (hT : P.underlying T = some (.slice e)) (A : Option Addr) (n c : Nat) (w : World) : (binOp .eql T (.slice A n c) (.slice none 0 0)).run P w = .ok (.bool A.isNone) w := by
  have h : (Op.equalIn (9999 + 1) T (.slice A n c) (.slice none 0 0)).run P w = .ok A.isNone w := by
    rw [Op.equalIn]
    cases A <;> simp [run_underlying hT]
  have h2 : binOp .eql T (.slice A n c) (.slice none 0 0) = (do pure (.bool (← Op.equalIn (9999 + 1) T (.slice A n c) (.slice none 0 0)))) := rfl
  rw [h2]
  simp [h]

/-- A frozen slice held against nil: an empty one may be nil or not. -/
theorem op_slnil {T T' e n : Nat} {x : Operand} {cs : List V} (hok : opOk ⟨some d, .binOp .eql T x (.const (.slice none 0 0)) T', ty, ps, af, none⟩ sz = true) (hx : ev (get env) x = .sl n cs) (hT : P.underlying T = some (.slice e))
    (ht : cs = [] → OpsOk P ops rest ⟨(d, .bool true) :: env, H, sz⟩ K) (hf : OpsOk P ops rest ⟨(d, .bool false) :: env, H, sz⟩ K) :
    OpsOk P ops (⟨some d, .binOp .eql T x (.const (.slice none 0 0)) T', ty, ps, af, none⟩ :: rest) ⟨env, H, sz⟩ K := by
  intro w0 ok0 a w r Q hq
  obtain ⟨ok, G, hs, hr, h1, h2⟩ := r
  have hxv : Rep w ok G (.sl n cs) true (a.eval x) := by
    have := Rep.ev hr x (opd_ok hok x (by simp [Op.operands]))
    rwa [hx] at this
  simp only [Rep] at hxv
  obtain ⟨A, c, us, hA, hle, hat, hrl⟩ := hxv
  have hrun : (execOp a.eval ⟨some d, .binOp .eql T x (.const (.slice none 0 0)) T', ty, ps, af, none⟩).run P w = .ok (.value (.bool A.isNone)) w := by
    have hc : a.eval (.const (.slice none 0 0)) = .slice none 0 0 := rfl
    have hg : (eqGuard .eql T x (.const (.slice none 0 0)) (.slice A n c) (.slice none 0 0)).run P w = .ok () w := by simp [eqGuard]
    simp only [execOp, hA, hc, Sem.run_bind, hg, Result.andThen_ok, run_eql_nil hT, Sem.run_pure]
  unfold wpList
  rw [if_pos (by simp [Region.wanted])]
  refine .inl ?_
  unfold Oper.wp
  rw [hrun]
  have hput := fun b => rel_put (v := .bool b) (dst := some d) (u := .bool b) (e := get env) (h := hget H) (sz := sz) hs hr h1 h2 (dst_lt hok) (by simp [Rep])
  cases A with
  | none =>
    have hcs : cs = [] := by
      have hus : us = [] := by
        rcases hat with h | ⟨ad, h, _⟩
        · exact h
        · cases h
      subst hus
      have := hrl.length
      exact List.eq_nil_of_length_eq_zero this.symm
    exact ht hcs w0 ok0 _ w (hput true) Q hq
  | some ad => exact hf w0 ok0 _ w (hput false) Q hq

/-- A scope in which the run jumps back to one label, what stands behind the label told once. -/
theorem ok_scopeR {ι : Type} {S : St} {Q : Exit → St → Prop} {c rest' : Code} (l : Nat) (hf : findLabel c l = some (.seq .skip rest')) (I : ι → St) (μ : ι → Nat) (i0 : ι)
    (pass : ∀ i, Ok P rest' (I i) (fun e S' => match e with | .goto l' => l' = l ∧ ∃ j, μ j < μ i ∧ Le S' (I j) | e => Q e S'))
    (first : (∀ T, Le T (I i0) → Ok P (.seq (.label l) rest') T (fun e S' => match e with | .goto l' => l' = l ∧ ∃ j, Le S' (I j) | e => Q e S')) → Ok P c S (fun e S' => match e with | .goto l' => l' = l ∧ ∃ j, Le S' (I j) | e => Q e S')) : Ok P (.scope c) S Q := by
  refine ok_scope l hf I μ (first fun T hT => ?_) (fun i => ok_seq (ok_skip (pass i)))
  refine ok_seq (ok_label (Ok.le hT ((pass i0).mono fun e S' hq => ?_)))
  cases e <;> first
    | exact hq
    | exact ⟨hq.1, hq.2.imp fun j hj => hj.2⟩
end

/-! ### read out by looking, through rows in rows -/
def fzd (H : Heap) : Nat → V → V
  | 0, v => v
  | _ + 1, .z0 => .sl 0 []
  | k + 1, .os t off sz n => match hget H t with | some (_, blk) => .sl n (((blk.drop off).take (n * sz)).map (fzd H k)) | _ => .os t off sz n
  | _ + 1, .rf t off => match hget H t with | some (true, blk) => .fp (blk.drop off) | _ => .rf t off
  | k + 1, .fn f caps => .fn f (caps.map (fzd H k))
  | k + 1, .agg cs => .agg (cs.map (fzd H k))
  | k + 1, .tup vs => .tup (vs.map (fzd H k))
  | _ + 1, v => v
def okFzd (H : Heap) (R : List Nat) : Nat → V → Bool
  | 0, v => tf v
  | k + 1, .os t off sz n => memN t R && match hget H t with | some (_, blk) => Nat.ble (off + n * sz) blk.length && ((blk.drop off).take (n * sz)).all (okFzd H R k) | _ => false
  | _ + 1, .rf t _ => memN t R && match hget H t with | some (true, _) => true | _ => false
  | _ + 1, .bsz _ _ => false
  | k + 1, .fn _ caps => caps.all (okFzd H R k)
  | k + 1, .agg cs => cs.all (okFzd H R k)
  | k + 1, .tup vs => vs.all (okFzd H R k)
  | _ + 1, _ => true
theorem frzL_map {h : HF} {R : List Nat} {f : V → V} : ∀ {vs : List V}, (∀ v ∈ vs, Frz h R v (f v)) → FrzL h R vs (vs.map f)
  | [], _ => .nil
  | v :: vs, H => .cons (H v (by simp)) (frzL_map fun x hx => H x (by simp [hx]))
theorem fzd_sound (H : Heap) (R : List Nat) : ∀ (k : Nat) (v : V), okFzd H R k v = true → Frz (hget H) R v (fzd H k v)
  | 0, v, h => by simp only [fzd]; exact .tf (by simpa [okFzd] using h)
  | k + 1, v, h => by
    have hl : ∀ vs : List V, vs.all (okFzd H R k) = true → FrzL (hget H) R vs (vs.map (fzd H k)) := fun vs hv => frzL_map fun x hx => fzd_sound H R k x (List.all_eq_true.1 hv x hx)
    cases v with
    | bool _ => simp only [fzd]; exact .tf rfl
    | int _ _ => simp only [fzd]; exact .tf rfl
    | str _ => simp only [fzd]; exact .tf rfl
    | z0 => simp only [fzd]; exact .z
    | sl _ _ => simp only [fzd]; exact .tf rfl
    | fp _ => simp only [fzd]; exact .tf rfl
    | raw _ => simp only [fzd]; exact .tf rfl
    | undef => simp only [fzd]; exact .tf rfl
    | bsz _ _ => simp [okFzd] at h
    | fn _ caps => simp only [fzd]; exact .fn (hl _ (by simpa only [okFzd] using h))
    | agg cs => simp only [fzd]; exact .agg (hl _ (by simpa only [okFzd] using h))
    | tup cs => simp only [fzd]; exact .tup (hl _ (by simpa only [okFzd] using h))
    | os t off sz n =>
      simp only [okFzd, Bool.and_eq_true] at h
      obtain ⟨h1, h2⟩ := h
      simp only [fzd]
      cases hh : hget H t with
      | none => rw [hh] at h2; cases h2
      | some bl =>
        obtain ⟨f, blk⟩ := bl
        rw [hh] at h2
        simp only [Bool.and_eq_true] at h2
        exact .os (memN_iff.1 h1) hh (Nat.le_of_ble_eq_true h2.1) (hl _ h2.2)
    | rf t off =>
      simp only [okFzd, Bool.and_eq_true] at h
      obtain ⟨h1, h2⟩ := h
      simp only [fzd]
      cases hh : hget H t with
      | none => rw [hh] at h2; cases h2
      | some bl =>
        obtain ⟨f, blk⟩ := bl
        rw [hh] at h2
        cases f with
        | false => cases h2
        | true => exact .rff (memN_iff.1 h1) hh rfl
theorem fzdL_sound (H : Heap) (R : List Nat) (k : Nat) (vs : List V) (h : vs.all (okFzd H R k) = true) : FrzL (hget H) R vs (vs.map (fzd H k)) := frzL_map fun x hx => fzd_sound H R k x (List.all_eq_true.1 h x hx)
end Go.Hg
