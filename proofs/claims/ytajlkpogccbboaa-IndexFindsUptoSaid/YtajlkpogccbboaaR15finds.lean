/- IndexFinds: whatever the index, the number, the name and the other index (of bulk at most 1048576 together), a volume, a name, a session are found as the reference finds them, and equality of indexes is the reference's; the law answers true and leaves its argument as it is. Condition: the bulk bound. -/
import Derived.Test.YtajlkpogccbboaaRB15
import Derived.Test.YtajlkpogccbboaaT15t
import Derived.Test.YtajlkpogccbboaaE15f
set_option linter.unusedVariables false
set_option linter.unusedSimpArgs false
namespace Go.Proofs.Ytajlkpogccbboaa
open Go.ChangeShapes Go.WideShapes Go.ChangeAt Go.RowKit Go.Hg
theorem IndexFinds_law {H : Type} {ds : List (DataW H)} (hk : bulkAll ds ≤ 1048576) (h : HasL [td65] ds) : AC Try.prog 8 (argVs [td65] ds) (.bool true) := by
  simp only [HasL] at h
  obtain ⟨a0, _, rfl, ha0, rfl⟩ := h
  simp only [bulkAll] at hk
  obtain ⟨x, id, s, y, ea0, hx, hy⟩ := dec65 a0 ha0 (by omega)
  unfold td65
  simp only [argVs, argV, ea0, List.headD_cons]
  exact IndexFinds_ac (y := y) hx id s
set_option maxRecDepth 100000 in
theorem IndexFinds_lifted (os : Os) (started : os.Started) (H : Type) (enc : TypeId × Value → H) (F : Stop.Interp) :
    ReturnsInHanded {} Try.checked os 8 .any ((Rows.OpenSpec.upto Rows.indexFindsSpec).pre6 enc Try.prog Try.f8 Rows.indexFindsUptoRow.domain false) (((Rows.OpenSpec.upto Rows.indexFindsSpec).at F).post enc Try.prog Try.f8 false true false false) := by
  refine returnsInHanded_of_cond (C := Try.checked) (s := Rows.OpenSpec.upto Rows.indexFindsSpec) (k := Rows.uptoSmall) rfl own started (by kernel_rfl) Try.func8
    (OpenSpec.witness (enc := enc) (C := Try.checked) (s := Rows.OpenSpec.upto Rows.indexFindsSpec) (k := Rows.uptoSmall) rfl false ⟨#[], #[.agg #[.slice none 0 0, .slice none 0 0, .slice none 0 0, .int .i64 0, .string ByteArray.empty, .slice none 0 0, .slice none 0 0, .slice none 0 0]], []⟩ 8 (by kernel_rfl) (by kernel_rfl) (by kernel_rfl)
      (x := ([.agg [.agg [.nil, .nil, .nil], .lit (.int .i64 0), .lit (.string []), .agg [.nil, .nil, .nil]]], [], [])) (by kernel_rfl) rfl (by kernel_rfl)) ?_
  intro W base args ds gs before hval hW _ hk _
  have hW1 : DataW.Whole enc Try.prog Try.f8.params.toList Rows.indexFindsSpec.vars false W args.toList ds gs before := hW
  have hg : gs = [] := by
    obtain ⟨p, q, _, hV, _⟩ := hW1
    exact (trodVars_none hV).1
  subst hg
  have hk' : bulkAll ds ≤ 1048576 := by
    rw [← bulk_eqL]
    have := of_decide_eq_true hk
    simpa using this
  exact law_contract (Ds := [td65]) (tb := 4) rfl Try.underlying4 rfl ⟨_, _, Try.params8 ▸ rfl, is65, rfl⟩ laidOut (fun t ht => by
      rw [Try.params8] at ht
      simp at ht
      subst ht; exact ⟨by kernel_rfl, of_decide_eq_true (by kernel_rfl)⟩) hval hW1
    (fun h => by
      simp only [HasL] at h
      obtain ⟨a0, _, rfl, _, rfl⟩ := h
      rfl) (fun h => IndexFinds_law hk' h)
theorem IndexFinds_holds : Rows.IndexFindsUptoSaid :=
  OpenClaim.holds_of_cond 8 Try.f8 rfl rfl rfl rfl rfl rfl rfl ⟨rfl, rfl, rfl, rfl, rfl⟩ rfl rfl rfl rfl rfl (by kernel_rfl) Try.func8 (by kernel_rfl)
    (of_decide_eq_true (by kernel_rfl)) (by unfold Func.isWrapper; first | (rw [if_pos (by decide +kernel)]; kernel_rfl) | (rw [if_neg (by decide +kernel)]; exact ⟨rfl, rfl⟩))
    (fun os started H enc _ F => IndexFinds_lifted os started H enc F)
end Go.Proofs.Ytajlkpogccbboaa
