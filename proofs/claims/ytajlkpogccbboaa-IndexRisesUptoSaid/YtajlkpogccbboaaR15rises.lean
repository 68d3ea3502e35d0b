/- IndexRises: whatever commands come (of bulk at most 1048576 together), a volume's phase, what was given away of it, and its parts only grow; the law answers true and leaves its arguments as they are. Condition: the bulk bound. -/
import Derived.Test.YtajlkpogccbboaaRB15
import Derived.Test.YtajlkpogccbboaaT15p
set_option linter.unusedVariables false
set_option linter.unusedSimpArgs false
namespace Go.Proofs.Ytajlkpogccbboaa
open Go.ChangeShapes Go.WideShapes Go.ChangeAt Go.RowKit Go.Hg
theorem IndexRises_law {H : Type} {ds : List (DataW H)} (hk : bulkAll ds ≤ 1048576) (h : HasL [td44, td44] ds) : AC Try.prog 6 (argVs [td44, td44] ds) (.bool true) := by
  simp only [HasL] at h
  obtain ⟨a0, _, rfl, ha0, a1, _, rfl, ha1, rfl⟩ := h
  simp only [bulkAll] at hk
  obtain ⟨l, ea0, hl⟩ := dec44 ha0 (by omega)
  obtain ⟨m, ea1, hm⟩ := dec44 ha1 (by omega)
  unfold td44
  simp only [argVs, argV, ea0, ea1, List.headD_cons]
  exact IndexRises_ac hl hm
set_option maxRecDepth 100000 in
theorem IndexRises_lifted (os : Os) (started : os.Started) (H : Type) (enc : TypeId × Value → H) (F : Stop.Interp) :
    ReturnsInHanded {} Try.checked os 6 .any ((Rows.OpenSpec.upto Rows.indexRisesSpec).pre6 enc Try.prog Try.f6 Rows.indexRisesUptoRow.domain false) (((Rows.OpenSpec.upto Rows.indexRisesSpec).at F).post enc Try.prog Try.f6 false true false false) := by
  refine returnsInHanded_of_cond (C := Try.checked) (s := Rows.OpenSpec.upto Rows.indexRisesSpec) (k := Rows.uptoSmall) rfl own started (by kernel_rfl) Try.func6
    (OpenSpec.witness (enc := enc) (C := Try.checked) (s := Rows.OpenSpec.upto Rows.indexRisesSpec) (k := Rows.uptoSmall) rfl false ⟨#[], #[.slice none 0 0, .slice none 0 0], []⟩ 8 (by kernel_rfl) (by kernel_rfl) (by kernel_rfl)
      (x := ([.nil, .nil], [], [])) (by kernel_rfl) rfl (by kernel_rfl)) ?_
  intro W base args ds gs before hval hW _ hk _
  have hW1 : DataW.Whole enc Try.prog Try.f6.params.toList Rows.indexRisesSpec.vars false W args.toList ds gs before := hW
  have hg : gs = [] := by
    obtain ⟨p, q, _, hV, _⟩ := hW1
    exact (trodVars_none hV).1
  subst hg
  have hk' : bulkAll ds ≤ 1048576 := by
    rw [← bulk_eqL]
    have := of_decide_eq_true hk
    simpa using this
  exact law_contract (Ds := [td44, td44]) (tb := 4) rfl Try.underlying4 rfl ⟨_, _, Try.params6 ▸ rfl, is44, _, _, rfl, is44, rfl⟩ laidOut (fun t ht => by
      rw [Try.params6] at ht
      simp at ht
      rcases ht with rfl | rfl <;> exact ⟨by kernel_rfl, of_decide_eq_true (by kernel_rfl)⟩) hval hW1
    (fun h => by
      simp only [HasL] at h
      obtain ⟨a0, _, rfl, _, a1, _, rfl, _, rfl⟩ := h
      rfl) (fun h => IndexRises_law hk' h)
theorem IndexRises_holds : Rows.IndexRisesUptoSaid :=
  OpenClaim.holds_of_cond 6 Try.f6 rfl rfl rfl rfl rfl rfl rfl ⟨rfl, rfl, rfl, rfl, rfl⟩ rfl rfl rfl rfl rfl (by kernel_rfl) Try.func6 (by kernel_rfl)
    (of_decide_eq_true (by kernel_rfl)) (by unfold Func.isWrapper; first | (rw [if_pos (by decide +kernel)]; kernel_rfl) | (rw [if_neg (by decide +kernel)]; exact ⟨rfl, rfl⟩))
    (fun os started H enc _ F => IndexRises_lifted os started H enc F)
end Go.Proofs.Ytajlkpogccbboaa
