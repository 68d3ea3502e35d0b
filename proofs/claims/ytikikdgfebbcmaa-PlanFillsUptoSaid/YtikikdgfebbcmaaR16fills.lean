/- PlanFills: whatever the volume and the parts (of bulk at most 1048576 together), what Fill lays down is 160 bytes long, empty where nothing was asked for, and holds the last span's bytes; the law answers true and leaves its arguments as they are. Condition: the bulk bound. -/
import Derived.Test.YtikikdgfebbcmaaRB16
import Derived.Test.YtikikdgfebbcmaaE16f
import Derived.Test.YtikikdgfebbcmaaT16ic
set_option linter.unusedVariables false
set_option linter.unusedSimpArgs false
namespace Go.Proofs.Ytikikdgfebbcmaa
open Go.ChangeShapes Go.WideShapes Go.ChangeAt Go.RowKit Go.Hg
theorem PlanFills_law {H : Type} {ds : List (DataW H)} (hk : bulkAll ds ≤ 1048576) (h : HasL [td39, td56] ds) : AC Try.prog 6 (argVs [td39, td56] ds) (.bool true) := by
  simp only [HasL] at h
  obtain ⟨a0, _, rfl, ha0, a1, _, rfl, ha1, rfl⟩ := h
  simp only [bulkAll] at hk
  obtain ⟨v, ea0, hv, hv2⟩ := dec39 a0 ha0 (by omega)
  obtain ⟨ps, ea1, hp⟩ := dec56 ha1 (by omega)
  unfold td39 td56
  simp only [argVs, argV, ea0, ea1, List.headD_cons]
  exact PlanFills_ac hv hv2.2.2.2.1 hp
set_option maxRecDepth 100000 in
theorem PlanFills_lifted (os : Os) (started : os.Started) (H : Type) (enc : TypeId × Value → H) (F : Stop.Interp) :
    ReturnsInHanded {} Try.checked os 6 .any ((Rows.OpenSpec.upto Rows.planFillsSpec).pre6 enc Try.prog Try.f6 Rows.planFillsUptoRow.domain false) (((Rows.OpenSpec.upto Rows.planFillsSpec).at F).post enc Try.prog Try.f6 false true false false) := by
  refine returnsInHanded_of_cond (C := Try.checked) (s := Rows.OpenSpec.upto Rows.planFillsSpec) (k := Rows.uptoSmall) rfl own started (by kernel_rfl) Try.func6
    (OpenSpec.witness (enc := enc) (C := Try.checked) (s := Rows.OpenSpec.upto Rows.planFillsSpec) (k := Rows.uptoSmall) rfl false ⟨#[], #[.agg #[.int .i64 0, .int .i64 0, .int .i64 0, .int .i64 0, .int .i64 0, .slice none 0 0, .slice none 0 0, .int .i64 0, .int .i64 0], .slice none 0 0], []⟩ 8 (by kernel_rfl) (by kernel_rfl) (by kernel_rfl)
      (x := ([.agg [.lit (.int .i64 0), .lit (.int .i64 0), .lit (.int .i64 0), .lit (.int .i64 0), .lit (.int .i64 0), .nil, .nil, .lit (.int .i64 0), .lit (.int .i64 0)], .nil], [], [])) (by kernel_rfl) rfl (by kernel_rfl)) ?_
  intro W base args ds gs before hval hW _ hk _
  have hW1 : DataW.Whole enc Try.prog Try.f6.params.toList Rows.planFillsSpec.vars false W args.toList ds gs before := hW
  have hg : gs = [] := by
    obtain ⟨p, q, _, hV, _⟩ := hW1
    exact (trodVars_none hV).1
  subst hg
  have hk' : bulkAll ds ≤ 1048576 := by
    rw [← bulk_eqL]
    have := of_decide_eq_true hk
    simpa using this
  exact law_contract (Ds := [td39, td56]) (tb := 4) rfl Try.underlying4 rfl ⟨_, _, Try.params6 ▸ rfl, is39, _, _, rfl, is56, rfl⟩ laidOut (fun t ht => by
      rw [Try.params6] at ht
      simp at ht
      rcases ht with rfl | rfl <;> exact ⟨by kernel_rfl, of_decide_eq_true (by kernel_rfl)⟩) hval hW1
    (fun h => by
      simp only [HasL] at h
      obtain ⟨a0, _, rfl, _, a1, _, rfl, _, rfl⟩ := h
      rfl) (fun h => PlanFills_law hk' h)
theorem PlanFills_holds : Rows.PlanFillsUptoSaid :=
  OpenClaim.holds_of_cond 6 Try.f6 rfl rfl rfl rfl rfl rfl rfl ⟨rfl, rfl, rfl, rfl, rfl⟩ rfl rfl rfl rfl rfl (by kernel_rfl) Try.func6 (by kernel_rfl)
    (of_decide_eq_true (by kernel_rfl)) (by unfold Func.isWrapper; first | (rw [if_pos (by decide +kernel)]; kernel_rfl) | (rw [if_neg (by decide +kernel)]; exact ⟨rfl, rfl⟩))
    (fun os started H enc _ F => PlanFills_lifted os started H enc F)
end Go.Proofs.Ytikikdgfebbcmaa
