/- PlanRests: whatever the index, what nodes have and how many nodes there are (of bulk at most 1048576 together), the law answers true and leaves its arguments as they are. Condition: the bulk's bound. -/
import Derived.Test.YtikikdgfebbcmaaRows
import Derived.Test.YtikikdgfebbcmaaE16
import Derived.Test.YtikikdgfebbcmaaT16x
set_option linter.unusedVariables false
set_option linter.unusedSimpArgs false
namespace Go.Proofs.Ytikikdgfebbcmaa
open Go.ChangeShapes Go.WideShapes Go.ChangeAt Go.RowKit Go.Hg

mutual
theorem bulk_eq {H : Type} : ∀ d : DataW H, Rows.uptoBulk d = bulk d
  | .lit l => by cases l <;> simp [Rows.uptoBulk, bulk]
  | .nil => by simp [Rows.uptoBulk, bulk]
  | .ptr d => by simp only [Rows.uptoBulk, bulk, bulk_eq d]
  | .slice es sp => by simp only [Rows.uptoBulk, bulk, bulk_eqL es, bulk_eqL sp]
  | .agg ps => by simp only [Rows.uptoBulk, bulk, bulk_eqL ps]
  | .iface _ d => by simp only [Rows.uptoBulk, bulk, bulk_eq d]
  | .map es => by simp only [Rows.uptoBulk, bulk, bulk_eqM es]
  | .held _ => by simp [Rows.uptoBulk, bulk]
theorem bulk_eqL {H : Type} : ∀ l : List (DataW H), Rows.uptoBulkAll l = bulkAll l
  | [] => by simp [Rows.uptoBulkAll, bulkAll]
  | d :: r => by simp only [Rows.uptoBulkAll, bulkAll, bulk_eq d, bulk_eqL r]
theorem bulk_eqM {H : Type} : ∀ l : List (Lit × DataW H), Rows.uptoBulkEntries l = bulkEntries l
  | [] => by simp [Rows.uptoBulkEntries, bulkEntries]
  | x :: r => by simp only [Rows.uptoBulkEntries, bulkEntries, bulk_eqE x, bulk_eqM r]
theorem bulk_eqE {H : Type} : ∀ x : Lit × DataW H, Rows.uptoBulkEntry x = bulkEntry x
  | (l, d) => by cases l <;> simp only [Rows.uptoBulkEntry, bulkEntry, bulk_eq d]
end
theorem own : ownKnob Try.prog.godebug = none := by kernel_rfl

theorem PlanRests_law {H : Type} {ds : List (DataW H)} (hk : bulkAll ds ≤ 1048576) (h : HasL [td26, td27, td3] ds) : AC Try.prog 4 (argVs [td26, td27, td3] ds) (.bool true) := by
  simp only [HasL] at h
  obtain ⟨a, _, rfl, ha, b, _, rfl, hb, c, _, rfl, hc, rfl⟩ := h
  simp only [bulkAll] at hk
  obtain ⟨x, a1, a2, _⟩ := dec26 a ha (by omega)
  obtain ⟨l, b1, b2⟩ := dec27 hb (by omega)
  obtain ⟨n, c1, c2⟩ := dec3 hc
  have e : argVs [td26, td27, td3] [a, b, c] = [.agg x.enc, rowOf InvD.enc l, i64 n] := by
    unfold td26 td27 td3
    simp only [argVs, argV, a1, b1, c1, List.headD_cons]
  rw [e]
  exact PlanRests_ac x a2 b2 n

set_option maxRecDepth 100000 in
theorem PlanRests_lifted (os : Os) (started : os.Started) (H : Type) (enc : TypeId × Value → H) (F : Stop.Interp) :
    ReturnsInHanded {} Try.checked os 4 .any ((Rows.OpenSpec.upto Rows.planRestsSpec).pre6 enc Try.prog Try.f4 Rows.planRestsUptoRow.domain false) (((Rows.OpenSpec.upto Rows.planRestsSpec).at F).post enc Try.prog Try.f4 false true false false) := by
  refine returnsInHanded_of_cond (C := Try.checked) (s := Rows.OpenSpec.upto Rows.planRestsSpec) (k := Rows.uptoSmall) rfl own started (by kernel_rfl) Try.func4
    (OpenSpec.witness (enc := enc) (C := Try.checked) (s := Rows.OpenSpec.upto Rows.planRestsSpec) (k := Rows.uptoSmall) rfl false ⟨#[], #[.agg #[.slice none 0 0, .slice none 0 0, .slice none 0 0], .slice none 0 0, .int .i64 0], []⟩ 8 (by kernel_rfl) (by kernel_rfl) (by kernel_rfl)
      (x := ([.agg [.nil, .nil, .nil], .nil, .lit (.int .i64 0)], [], [])) (by kernel_rfl) rfl (by kernel_rfl)) ?_
  intro W base args ds gs before hval hW _ hk _
  have hW1 : DataW.Whole enc Try.prog Try.f4.params.toList Rows.planRestsSpec.vars false W args.toList ds gs before := hW
  have hg : gs = [] := by
    obtain ⟨p, q, _, hV, _⟩ := hW1
    exact (trodVars_none hV).1
  subst hg
  have hk' : bulkAll ds ≤ 1048576 := by
    rw [← bulk_eqL]
    have := of_decide_eq_true hk
    simpa using this
  exact law_contract (Ds := [td26, td27, td3]) (tb := 4) rfl Try.underlying4 rfl ⟨_, _, Try.params4 ▸ rfl, is26, _, _, rfl, is27, _, _, rfl, is3, rfl⟩ laidOut (fun t ht => by
      rw [Try.params4] at ht
      simp at ht
      rcases ht with rfl | rfl | rfl <;> exact ⟨by kernel_rfl, of_decide_eq_true (by kernel_rfl)⟩) hval hW1
    (fun h => by
      simp only [HasL] at h
      obtain ⟨a, _, rfl, _, b, _, rfl, _, c, _, rfl, _, rfl⟩ := h
      rfl) (fun h => PlanRests_law hk' h)

theorem PlanRests_holds : Rows.PlanRestsUptoSaid :=
  OpenClaim.holds_of_cond 4 Try.f4 rfl rfl rfl rfl rfl rfl rfl ⟨rfl, rfl, rfl, rfl, rfl⟩ rfl rfl rfl rfl rfl (by kernel_rfl) Try.func4 (by kernel_rfl)
    (of_decide_eq_true (by kernel_rfl)) (by unfold Func.isWrapper; first | (rw [if_pos (by decide +kernel)]; kernel_rfl) | (rw [if_neg (by decide +kernel)]; exact ⟨rfl, rfl⟩))
    (fun os started H enc _ F => PlanRests_lifted os started H enc F)
end Go.Proofs.Ytikikdgfebbcmaa
