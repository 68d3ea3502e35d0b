/- Facts on the program's types. Printed by types.py. -/
import Derived.Test.YtajlkpogccbboaaHgQ
import Derived.Test.YtajlkpogccbboaaProg
import Derived.KernelRfl
set_option linter.unusedVariables false
set_option linter.unusedSimpArgs false
set_option maxRecDepth 100000
namespace Go.Proofs
open Go.Hg
theorem Try.mixed : Try.prog.follows .mixedOrders = true := by kernel_rfl
theorem places26 : ∀ w, (placesOf (Try.prog.fieldsOf 26)).run Try.prog w = .ok #[(0, 1), (1, 1), (2, 1)] w := by intro w; rw [show Try.prog.fieldsOf 26 = _ by simp only [Program.fieldsOf, Try.underlying26]; rfl]; simp [placesOf, Try.sizeOf22, Try.sizeOf23, Try.sizeOf24]
theorem places30 : ∀ w, (placesOf (Try.prog.fieldsOf 30)).run Try.prog w = .ok #[(0, 1), (1, 1), (2, 1), (3, 1), (4, 1), (5, 1), (6, 1), (7, 1), (8, 1), (9, 1), (10, 1), (11, 1)] w := by intro w; rw [show Try.prog.fieldsOf 30 = _ by simp only [Program.fieldsOf, Try.underlying30]; rfl]; simp [placesOf, Try.sizeOf3, Try.sizeOf9, Try.sizeOf27, Try.sizeOf28]
theorem places35 : ∀ w, (placesOf (Try.prog.fieldsOf 35)).run Try.prog w = .ok #[(0, 1), (1, 1), (2, 1), (3, 1), (4, 1), (5, 1)] w := by intro w; rw [show Try.prog.fieldsOf 35 = _ by simp only [Program.fieldsOf, Try.underlying35]; rfl]; simp [placesOf, Try.sizeOf3, Try.sizeOf4, Try.sizeOf27, Try.sizeOf33]
theorem places39 : ∀ w, (placesOf (Try.prog.fieldsOf 39)).run Try.prog w = .ok #[(0, 1), (1, 1), (2, 6)] w := by intro w; rw [show Try.prog.fieldsOf 39 = _ by simp only [Program.fieldsOf, Try.underlying39]; rfl]; simp [placesOf, Try.sizeOf3, Try.sizeOf35]
theorem places47 : ∀ w, (placesOf (Try.prog.fieldsOf 47)).run Try.prog w = .ok #[(0, 1), (1, 1), (2, 1), (3, 1), (4, 1)] w := by intro w; rw [show Try.prog.fieldsOf 47 = _ by simp only [Program.fieldsOf, Try.underlying47]; rfl]; simp [placesOf, Try.sizeOf3, Try.sizeOf9, Try.sizeOf27]
theorem places50 : ∀ w, (placesOf (Try.prog.fieldsOf 50)).run Try.prog w = .ok #[(0, 1), (1, 1), (2, 1), (3, 1), (4, 1), (5, 1), (6, 1), (7, 1), (8, 1)] w := by intro w; rw [show Try.prog.fieldsOf 50 = _ by simp only [Program.fieldsOf, Try.underlying50]; rfl]; simp [placesOf, Try.sizeOf3, Try.sizeOf28, Try.sizeOf48]
theorem places54 : ∀ w, (placesOf (Try.prog.fieldsOf 54)).run Try.prog w = .ok #[(0, 1), (1, 1)] w := by intro w; rw [show Try.prog.fieldsOf 54 = _ by simp only [Program.fieldsOf, Try.underlying54]; rfl]; simp [placesOf, Try.sizeOf3]
theorem info39 : EInfo Try.prog 39 8 56 (.agg #[(.int .i64 0), (.int .i64 0), (.int .i64 0), (.int .i64 0), (.int .i64 0), (.int .i64 0), (.int .u32 0), (.bool false)]) := by unfold EInfo; kernel_rfl
theorem info47 : EInfo Try.prog 47 5 48 (.agg #[(.string ByteArray.empty), (.int .i64 0), (.int .i64 0), (.int .i64 0), (.int .u32 0)]) := by unfold EInfo; kernel_rfl
theorem info50 : EInfo Try.prog 50 9 104 (.agg #[(.int .i64 0), (.int .i64 0), (.int .i64 0), (.int .i64 0), (.int .i64 0), (.slice none 0 0), (.slice none 0 0), (.int .i64 0), (.int .i64 0)]) := by unfold EInfo; kernel_rfl
theorem info54 : EInfo Try.prog 54 2 16 (.agg #[(.int .i64 0), (.int .i64 0)]) := by unfold EInfo; kernel_rfl
theorem info57 : EInfo Try.prog 57 2 16 (.agg #[(.int .i64 0), (.int .i64 0)]) := by unfold EInfo; kernel_rfl
end Go.Proofs
