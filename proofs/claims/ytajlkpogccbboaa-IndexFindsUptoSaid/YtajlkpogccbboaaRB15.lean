/- How much a reading holds. No condition. -/
import Derived.Test.YtajlkpogccbboaaRows
import Derived.Test.YtajlkpogccbboaaE15
set_option linter.unusedVariables false
set_option linter.unusedSimpArgs false
namespace Go.Proofs.Ytajlkpogccbboaa
open Go.ChangeShapes Go.WideShapes Go.ChangeAt Go.RowKit Go.Hg
mutual
theorem bulk_eq {H : Type} : ∀ d : DataW H, Rows.uptoBulk d = bulk d
  | .lit l => by cases l <;> simp [Rows.uptoBulk, bulk]
  | .nil => by simp [Rows.uptoBulk, bulk]
  | .ptr d => by simp only [Rows.uptoBulk, bulk, bulk_eq d]
  | .slice es sp => by simp only [Rows.uptoBulk, bulk, bulk_eqL es, bulk_eqL sp]
  | .agg ps => by simp only [Rows.uptoBulk, bulk, bulk_eqL ps]
  | .iface _ d => by simp only [Rows.uptoBulk, bulk, bulk_eq d]
  | .map es => by simp only [Rows.uptoBulk, bulk, bulk_eqM es]
  | .held _ => by simp [Rows.uptoBulk, bulk]
theorem bulk_eqL {H : Type} : ∀ l : List (DataW H), Rows.uptoBulkAll l = bulkAll l
  | [] => by simp [Rows.uptoBulkAll, bulkAll]
  | d :: r => by simp only [Rows.uptoBulkAll, bulkAll, bulk_eq d, bulk_eqL r]
theorem bulk_eqM {H : Type} : ∀ l : List (Lit × DataW H), Rows.uptoBulkEntries l = bulkEntries l
  | [] => by simp [Rows.uptoBulkEntries, bulkEntries]
  | x :: r => by simp only [Rows.uptoBulkEntries, bulkEntries, bulk_eqE x, bulk_eqM r]
theorem bulk_eqE {H : Type} : ∀ x : Lit × DataW H, Rows.uptoBulkEntry x = bulkEntry x
  | (l, d) => by cases l <;> simp only [Rows.uptoBulkEntry, bulkEntry, bulk_eq d]
end
theorem own : ownKnob Try.prog.godebug = none := by kernel_rfl
end Go.Proofs.Ytajlkpogccbboaa
