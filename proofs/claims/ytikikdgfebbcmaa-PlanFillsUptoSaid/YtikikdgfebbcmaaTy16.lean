/- Facts on the program's types. Printed by types.py. -/
import Derived.Test.YtikikdgfebbcmaaHgQ
import Derived.Test.YtikikdgfebbcmaaProg
import Derived.KernelRfl
set_option linter.unusedVariables false
set_option linter.unusedSimpArgs false
set_option maxRecDepth 100000
namespace Go.Proofs
open Go.Hg
theorem Try.mixed : Try.prog.follows .mixedOrders = true := by kernel_rfl
theorem places26 : ∀ w, (placesOf (Try.prog.fieldsOf 26)).run Try.prog w = .ok #[(0, 1), (1, 1), (2, 1)] w := by intro w; rw [show Try.prog.fieldsOf 26 = _ by simp only [Program.fieldsOf, Try.underlying26]; rfl]; simp [placesOf, Try.sizeOf22, Try.sizeOf23, Try.sizeOf24]
theorem places32 : ∀ w, (placesOf (Try.prog.fieldsOf 32)).run Try.prog w = .ok #[(0, 1), (1, 1)] w := by intro w; rw [show Try.prog.fieldsOf 32 = _ by simp only [Program.fieldsOf, Try.underlying32]; rfl]; simp [placesOf, Try.sizeOf3]
theorem places34 : ∀ w, (placesOf (Try.prog.fieldsOf 34)).run Try.prog w = .ok #[(0, 1), (1, 1), (2, 1), (3, 1), (4, 1), (5, 2)] w := by intro w; rw [show Try.prog.fieldsOf 34 = _ by simp only [Program.fieldsOf, Try.underlying34]; rfl]; simp [placesOf, Try.sizeOf3, Try.sizeOf30, Try.sizeOf32]
theorem places39 : ∀ w, (placesOf (Try.prog.fieldsOf 39)).run Try.prog w = .ok #[(0, 1), (1, 1), (2, 1), (3, 1), (4, 1), (5, 1), (6, 1), (7, 1), (8, 1)] w := by intro w; rw [show Try.prog.fieldsOf 39 = _ by simp only [Program.fieldsOf, Try.underlying39]; rfl]; simp [placesOf, Try.sizeOf3, Try.sizeOf30, Try.sizeOf37]
theorem places41 : ∀ w, (placesOf (Try.prog.fieldsOf 41)).run Try.prog w = .ok #[(0, 1), (1, 1)] w := by intro w; rw [show Try.prog.fieldsOf 41 = _ by simp only [Program.fieldsOf, Try.underlying41]; rfl]; simp [placesOf, Try.sizeOf3]
theorem places44 : ∀ w, (placesOf (Try.prog.fieldsOf 44)).run Try.prog w = .ok #[(0, 2), (2, 1), (3, 1)] w := by intro w; rw [show Try.prog.fieldsOf 44 = _ by simp only [Program.fieldsOf, Try.underlying44]; rfl]; simp [placesOf, Try.sizeOf4, Try.sizeOf41, Try.sizeOf42]
theorem places50 : ∀ w, (placesOf (Try.prog.fieldsOf 50)).run Try.prog w = .ok #[(0, 1), (1, 1), (2, 1), (3, 1), (4, 1), (5, 1)] w := by intro w; rw [show Try.prog.fieldsOf 50 = _ by simp only [Program.fieldsOf, Try.underlying50]; rfl]; simp [placesOf, Try.sizeOf3, Try.sizeOf4, Try.sizeOf47, Try.sizeOf48]
theorem places60 : ∀ w, (placesOf (Try.prog.fieldsOf 60)).run Try.prog w = .ok #[(0, 1), (1, 1)] w := by intro w; rw [show Try.prog.fieldsOf 60 = _ by simp only [Program.fieldsOf, Try.underlying60]; rfl]; simp [placesOf, Try.sizeOf3]
theorem places92 : ∀ w, (placesOf (Try.prog.fieldsOf 92)).run Try.prog w = .ok #[(0, 1), (1, 1), (2, 6)] w := by intro w; rw [show Try.prog.fieldsOf 92 = _ by simp only [Program.fieldsOf, Try.underlying92]; rfl]; simp [placesOf, Try.sizeOf3, Try.sizeOf50]
theorem places134 : ∀ w, (placesOf (Try.prog.fieldsOf 134)).run Try.prog w = .ok #[(0, 1), (1, 1), (2, 1), (3, 1), (4, 1)] w := by intro w; rw [show Try.prog.fieldsOf 134 = _ by simp only [Program.fieldsOf, Try.underlying134]; rfl]; simp [placesOf, Try.sizeOf3, Try.sizeOf9, Try.sizeOf48]
theorem info3 : EInfo Try.prog 3 1 8 (.int .i64 0) := by unfold EInfo; kernel_rfl
theorem info4 : EInfo Try.prog 4 1 1 (.bool false) := by unfold EInfo; kernel_rfl
theorem info5 : EInfo Try.prog 5 1 1 (.int .u8 0) := by unfold EInfo; kernel_rfl
theorem info39 : EInfo Try.prog 39 9 104 (.agg #[(.int .i64 0), (.int .i64 0), (.int .i64 0), (.int .i64 0), (.int .i64 0), (.slice none 0 0), (.slice none 0 0), (.int .i64 0), (.int .i64 0)]) := by unfold EInfo; kernel_rfl
theorem info41 : EInfo Try.prog 41 2 16 (.agg #[(.int .i64 0), (.int .i64 0)]) := by unfold EInfo; kernel_rfl
theorem info60 : EInfo Try.prog 60 2 16 (.agg #[(.int .i64 0), (.int .i64 0)]) := by unfold EInfo; kernel_rfl
theorem info62 : EInfo Try.prog 62 2 24 (.agg #[(.int .i64 0), (.string ByteArray.empty)]) := by unfold EInfo; kernel_rfl
theorem info92 : EInfo Try.prog 92 8 56 (.agg #[(.int .i64 0), (.int .i64 0), (.int .i64 0), (.int .i64 0), (.int .i64 0), (.int .i64 0), (.int .u32 0), (.bool false)]) := by unfold EInfo; kernel_rfl
theorem info134 : EInfo Try.prog 134 5 48 (.agg #[(.string ByteArray.empty), (.int .i64 0), (.int .i64 0), (.int .i64 0), (.int .u32 0)]) := by unfold EInfo; kernel_rfl
end Go.Proofs
