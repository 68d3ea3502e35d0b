/- PlanNexts: whatever the index, what nodes have and how many nodes there are (of bulk at most 1048576 together), what the coordinator does next is what the reference says; the law answers true and leaves its arguments as they are. Condition: the bulk bound. -/
import Derived.Test.YtikikdgfebbcmaaRB16
import Derived.Test.YtikikdgfebbcmaaT16rf
set_option linter.unusedVariables false
set_option linter.unusedSimpArgs false
namespace Go.Proofs.Ytikikdgfebbcmaa
open Go.ChangeShapes Go.WideShapes Go.ChangeAt Go.RowKit Go.Hg
theorem PlanNexts_law {H : Type} {ds : List (DataW H)} (hk : bulkAll ds ≤ 1048576) (h : HasL [td26, td27, td3] ds) : AC Try.prog 3 (argVs [td26, td27, td3] ds) (.bool true) := by
  simp only [HasL] at h
  obtain ⟨a0, _, rfl, ha0, a1, _, rfl, ha1, a2, _, rfl, ha2, rfl⟩ := h
  simp only [bulkAll] at hk
  obtain ⟨x, ea0, hx, hx2⟩ := dec26 a0 ha0 (by omega)
  obtain ⟨l, ea1, hl⟩ := dec27 ha1 (by omega)
  obtain ⟨n, ea2, hn⟩ := dec3 ha2
  unfold td26 td27 td3
  simp only [argVs, argV, ea0, ea1, ea2, List.headD_cons]
  exact PlanNexts_ac x hx hl n
set_option maxRecDepth 100000 in
theorem PlanNexts_lifted (os : Os) (started : os.Started) (H : Type) (enc : TypeId × Value → H) (F : Stop.Interp) :
    ReturnsInHanded {} Try.checked os 3 .any ((Rows.OpenSpec.upto Rows.planNextsSpec).pre6 enc Try.prog Try.f3 Rows.planNextsUptoRow.domain false) (((Rows.OpenSpec.upto Rows.planNextsSpec).at F).post enc Try.prog Try.f3 false true false false) := by
  refine returnsInHanded_of_cond (C := Try.checked) (s := Rows.OpenSpec.upto Rows.planNextsSpec) (k := Rows.uptoSmall) rfl own started (by kernel_rfl) Try.func3
    (OpenSpec.witness (enc := enc) (C := Try.checked) (s := Rows.OpenSpec.upto Rows.planNextsSpec) (k := Rows.uptoSmall) rfl false ⟨#[], #[.agg #[.slice none 0 0, .slice none 0 0, .slice none 0 0], .slice none 0 0, .int .i64 0], []⟩ 8 (by kernel_rfl) (by kernel_rfl) (by kernel_rfl)
      (x := ([.agg [.nil, .nil, .nil], .nil, .lit (.int .i64 0)], [], [])) (by kernel_rfl) rfl (by kernel_rfl)) ?_
  intro W base args ds gs before hval hW _ hk _
  have hW1 : DataW.Whole enc Try.prog Try.f3.params.toList Rows.planNextsSpec.vars false W args.toList ds gs before := hW
  have hg : gs = [] := by
    obtain ⟨p, q, _, hV, _⟩ := hW1
    exact (trodVars_none hV).1
  subst hg
  have hk' : bulkAll ds ≤ 1048576 := by
    rw [← bulk_eqL]
    have := of_decide_eq_true hk
    simpa using this
  exact law_contract (Ds := [td26, td27, td3]) (tb := 4) rfl Try.underlying4 rfl ⟨_, _, Try.params3 ▸ rfl, is26, _, _, rfl, is27, _, _, rfl, is3, rfl⟩ laidOut (fun t ht => by
      rw [Try.params3] at ht
      simp at ht
      rcases ht with rfl | rfl | rfl <;> exact ⟨by kernel_rfl, of_decide_eq_true (by kernel_rfl)⟩) hval hW1
    (fun h => by
      simp only [HasL] at h
      obtain ⟨a0, _, rfl, _, a1, _, rfl, _, a2, _, rfl, _, rfl⟩ := h
      rfl) (fun h => PlanNexts_law hk' h)
theorem PlanNexts_holds : Rows.PlanNextsUptoSaid :=
  OpenClaim.holds_of_cond 3 Try.f3 rfl rfl rfl rfl rfl rfl rfl ⟨rfl, rfl, rfl, rfl, rfl⟩ rfl rfl rfl rfl rfl (by kernel_rfl) Try.func3 (by kernel_rfl)
    (of_decide_eq_true (by kernel_rfl)) (by unfold Func.isWrapper; first | (rw [if_pos (by decide +kernel)]; kernel_rfl) | (rw [if_neg (by decide +kernel)]; exact ⟨rfl, rfl⟩))
    (fun os started H enc _ F => PlanNexts_lifted os started H enc F)
end Go.Proofs.Ytikikdgfebbcmaa
