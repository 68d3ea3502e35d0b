/- IndexVols: whatever commands came (of bulk at most 1048576), volumes are numbered by their place, sums by their pair, sealed ones have their places, pairs are each other's; the law answers true and leaves its argument as it is. Condition: the bulk bound. -/
import Derived.Test.YtajlkpogccbboaaRB15
import Derived.Test.YtajlkpogccbboaaT15o
set_option linter.unusedVariables false
set_option linter.unusedSimpArgs false
namespace Go.Proofs.Ytajlkpogccbboaa
open Go.ChangeShapes Go.WideShapes Go.ChangeAt Go.RowKit Go.Hg
theorem IndexVols_law {H : Type} {ds : List (DataW H)} (hk : bulkAll ds ≤ 1048576) (h : HasL [td44] ds) : AC Try.prog 5 (argVs [td44] ds) (.bool true) := by
  simp only [HasL] at h
  obtain ⟨a0, _, rfl, ha0, rfl⟩ := h
  simp only [bulkAll] at hk
  obtain ⟨l, ea0, hl⟩ := dec44 ha0 (by omega)
  unfold td44
  simp only [argVs, argV, ea0, List.headD_cons]
  exact IndexVols_ac hl
set_option maxRecDepth 100000 in
theorem IndexVols_lifted (os : Os) (started : os.Started) (H : Type) (enc : TypeId × Value → H) (F : Stop.Interp) :
    ReturnsInHanded {} Try.checked os 5 .any ((Rows.OpenSpec.upto Rows.indexVolsSpec).pre6 enc Try.prog Try.f5 Rows.indexVolsUptoRow.domain false) (((Rows.OpenSpec.upto Rows.indexVolsSpec).at F).post enc Try.prog Try.f5 false true false false) := by
  refine returnsInHanded_of_cond (C := Try.checked) (s := Rows.OpenSpec.upto Rows.indexVolsSpec) (k := Rows.uptoSmall) rfl own started (by kernel_rfl) Try.func5
    (OpenSpec.witness (enc := enc) (C := Try.checked) (s := Rows.OpenSpec.upto Rows.indexVolsSpec) (k := Rows.uptoSmall) rfl false ⟨#[], #[.slice none 0 0], []⟩ 8 (by kernel_rfl) (by kernel_rfl) (by kernel_rfl)
      (x := ([.nil], [], [])) (by kernel_rfl) rfl (by kernel_rfl)) ?_
  intro W base args ds gs before hval hW _ hk _
  have hW1 : DataW.Whole enc Try.prog Try.f5.params.toList Rows.indexVolsSpec.vars false W args.toList ds gs before := hW
  have hg : gs = [] := by
    obtain ⟨p, q, _, hV, _⟩ := hW1
    exact (trodVars_none hV).1
  subst hg
  have hk' : bulkAll ds ≤ 1048576 := by
    rw [← bulk_eqL]
    have := of_decide_eq_true hk
    simpa using this
  exact law_contract (Ds := [td44]) (tb := 4) rfl Try.underlying4 rfl ⟨_, _, Try.params5 ▸ rfl, is44, rfl⟩ laidOut (fun t ht => by
      rw [Try.params5] at ht
      simp at ht
      subst ht; exact ⟨by kernel_rfl, of_decide_eq_true (by kernel_rfl)⟩) hval hW1
    (fun h => by
      simp only [HasL] at h
      obtain ⟨a0, _, rfl, _, rfl⟩ := h
      rfl) (fun h => IndexVols_law hk' h)
theorem IndexVols_holds : Rows.IndexVolsUptoSaid :=
  OpenClaim.holds_of_cond 5 Try.f5 rfl rfl rfl rfl rfl rfl rfl ⟨rfl, rfl, rfl, rfl, rfl⟩ rfl rfl rfl rfl rfl (by kernel_rfl) Try.func5 (by kernel_rfl)
    (of_decide_eq_true (by kernel_rfl)) (by unfold Func.isWrapper; first | (rw [if_pos (by decide +kernel)]; kernel_rfl) | (rw [if_neg (by decide +kernel)]; exact ⟨rfl, rfl⟩))
    (fun os started H enc _ F => IndexVols_lifted os started H enc F)
end Go.Proofs.Ytajlkpogccbboaa
