/- IndexTwice: whatever the index and the command (of bulk at most 1048576 together), a command that came already changes nothing and is answered alike; the law answers true and leaves its arguments as they are. Condition: the bulk bound. -/
import Derived.Test.YtajlkpogccbboaaRB15
import Derived.Test.YtajlkpogccbboaaT15r
import Derived.Test.YtajlkpogccbboaaE15f
set_option linter.unusedVariables false
set_option linter.unusedSimpArgs false
namespace Go.Proofs.Ytajlkpogccbboaa
open Go.ChangeShapes Go.WideShapes Go.ChangeAt Go.RowKit Go.Hg
theorem IndexTwice_law {H : Type} {ds : List (DataW H)} (hk : bulkAll ds ≤ 1048576) (h : HasL [td26, td30] ds) : AC Try.prog 3 (argVs [td26, td30] ds) (.bool true) := by
  simp only [HasL] at h
  obtain ⟨a0, _, rfl, ha0, a1, _, rfl, ha1, rfl⟩ := h
  simp only [bulkAll] at hk
  obtain ⟨x, ea0, hx⟩ := dec26 ha0 (by omega)
  obtain ⟨c, ea1, hc⟩ := dec30 a1 ha1 (by omega)
  unfold td26 td30
  simp only [argVs, argV, ea0, ea1, List.headD_cons]
  exact IndexTwice_ac hx hc
set_option maxRecDepth 100000 in
theorem IndexTwice_lifted (os : Os) (started : os.Started) (H : Type) (enc : TypeId × Value → H) (F : Stop.Interp) :
    ReturnsInHanded {} Try.checked os 3 .any ((Rows.OpenSpec.upto Rows.indexTwiceSpec).pre6 enc Try.prog Try.f3 Rows.indexTwiceUptoRow.domain false) (((Rows.OpenSpec.upto Rows.indexTwiceSpec).at F).post enc Try.prog Try.f3 false true false false) := by
  refine returnsInHanded_of_cond (C := Try.checked) (s := Rows.OpenSpec.upto Rows.indexTwiceSpec) (k := Rows.uptoSmall) rfl own started (by kernel_rfl) Try.func3
    (OpenSpec.witness (enc := enc) (C := Try.checked) (s := Rows.OpenSpec.upto Rows.indexTwiceSpec) (k := Rows.uptoSmall) rfl false ⟨#[], #[.agg #[.slice none 0 0, .slice none 0 0, .slice none 0 0], .agg #[.int .i64 0, .int .i64 0, .int .i64 0, .string ByteArray.empty, .int .i64 0, .int .i64 0, .int .i64 0, .int .u32 0, .int .i64 0, .int .i64 0, .int .i64 0, .slice none 0 0]], []⟩ 8 (by kernel_rfl) (by kernel_rfl) (by kernel_rfl)
      (x := ([.agg [.nil, .nil, .nil], .agg [.lit (.int .i64 0), .lit (.int .i64 0), .lit (.int .i64 0), .lit (.string []), .lit (.int .i64 0), .lit (.int .i64 0), .lit (.int .i64 0), .lit (.int .u32 0), .lit (.int .i64 0), .lit (.int .i64 0), .lit (.int .i64 0), .nil]], [], [])) (by kernel_rfl) rfl (by kernel_rfl)) ?_
  intro W base args ds gs before hval hW _ hk _
  have hW1 : DataW.Whole enc Try.prog Try.f3.params.toList Rows.indexTwiceSpec.vars false W args.toList ds gs before := hW
  have hg : gs = [] := by
    obtain ⟨p, q, _, hV, _⟩ := hW1
    exact (trodVars_none hV).1
  subst hg
  have hk' : bulkAll ds ≤ 1048576 := by
    rw [← bulk_eqL]
    have := of_decide_eq_true hk
    simpa using this
  exact law_contract (Ds := [td26, td30]) (tb := 4) rfl Try.underlying4 rfl ⟨_, _, Try.params3 ▸ rfl, is26, _, _, rfl, is30, rfl⟩ laidOut (fun t ht => by
      rw [Try.params3] at ht
      simp at ht
      rcases ht with rfl | rfl <;> exact ⟨by kernel_rfl, of_decide_eq_true (by kernel_rfl)⟩) hval hW1
    (fun h => by
      simp only [HasL] at h
      obtain ⟨a0, _, rfl, _, a1, _, rfl, _, rfl⟩ := h
      rfl) (fun h => IndexTwice_law hk' h)
theorem IndexTwice_holds : Rows.IndexTwiceUptoSaid :=
  OpenClaim.holds_of_cond 3 Try.f3 rfl rfl rfl rfl rfl rfl rfl ⟨rfl, rfl, rfl, rfl, rfl⟩ rfl rfl rfl rfl rfl (by kernel_rfl) Try.func3 (by kernel_rfl)
    (of_decide_eq_true (by kernel_rfl)) (by unfold Func.isWrapper; first | (rw [if_pos (by decide +kernel)]; kernel_rfl) | (rw [if_neg (by decide +kernel)]; exact ⟨rfl, rfl⟩))
    (fun os started H enc _ F => IndexTwice_lifted os started H enc F)
end Go.Proofs.Ytajlkpogccbboaa
