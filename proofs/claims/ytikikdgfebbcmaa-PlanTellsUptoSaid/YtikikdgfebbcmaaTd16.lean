/- The types that come in, told. Printed by tds.py. -/
import Derived.Test.YtikikdgfebbcmaaHgS
import Derived.Test.YtikikdgfebbcmaaProg
import Derived.KernelRfl
import Derived.Test.YtikikdgfebbcmaaHgQ
set_option linter.unusedVariables false
set_option linter.unusedSimpArgs false
set_option maxRecDepth 100000
namespace Go.Proofs
open Go.Hg
def td3 : TD := .int .i64
theorem cells3 : Try.prog.cellsOf 3 = TD.size td3 := by kernel_rfl
theorem is3 : TD.Is Try.prog td3 3 := by unfold td3; simp only [TD.Is, TD.IsF]; exact Try.underlying3
def td60 : TD := .st [td3, td3]
theorem cells60 : Try.prog.cellsOf 60 = TD.size td60 := by kernel_rfl
theorem is60 : TD.Is Try.prog td60 60 := by unfold td60; simp only [TD.Is, TD.IsF]; exact ⟨_, Try.underlying60, cells60, ⟨_, _, rfl, rfl, cells3, is3, ⟨_, _, rfl, rfl, cells3, is3, rfl⟩⟩⟩
def td37 : TD := .sl td60
theorem cells37 : Try.prog.cellsOf 37 = TD.size td37 := by kernel_rfl
theorem is37 : TD.Is Try.prog td37 37 := by unfold td37; simp only [TD.Is, TD.IsF]; exact ⟨_, Try.underlying37, cells60, is60⟩
def td41 : TD := .st [td3, td3]
theorem cells41 : Try.prog.cellsOf 41 = TD.size td41 := by kernel_rfl
theorem is41 : TD.Is Try.prog td41 41 := by unfold td41; simp only [TD.Is, TD.IsF]; exact ⟨_, Try.underlying41, cells41, ⟨_, _, rfl, rfl, cells3, is3, ⟨_, _, rfl, rfl, cells3, is3, rfl⟩⟩⟩
def td30 : TD := .sl td41
theorem cells30 : Try.prog.cellsOf 30 = TD.size td30 := by kernel_rfl
theorem is30 : TD.Is Try.prog td30 30 := by unfold td30; simp only [TD.Is, TD.IsF]; exact ⟨_, Try.underlying30, cells41, is41⟩
def td39 : TD := .st [td3, td3, td3, td3, td3, td37, td30, td3, td3]
theorem cells39 : Try.prog.cellsOf 39 = TD.size td39 := by kernel_rfl
theorem is39 : TD.Is Try.prog td39 39 := by unfold td39; simp only [TD.Is, TD.IsF]; exact ⟨_, Try.underlying39, cells39, ⟨_, _, rfl, rfl, cells3, is3, ⟨_, _, rfl, rfl, cells3, is3, ⟨_, _, rfl, rfl, cells3, is3, ⟨_, _, rfl, rfl, cells3, is3, ⟨_, _, rfl, rfl, cells3, is3, ⟨_, _, rfl, rfl, cells37, is37, ⟨_, _, rfl, rfl, cells30, is30, ⟨_, _, rfl, rfl, cells3, is3, ⟨_, _, rfl, rfl, cells3, is3, rfl⟩⟩⟩⟩⟩⟩⟩⟩⟩⟩
def td22 : TD := .sl td39
theorem cells22 : Try.prog.cellsOf 22 = TD.size td22 := by kernel_rfl
theorem is22 : TD.Is Try.prog td22 22 := by unfold td22; simp only [TD.Is, TD.IsF]; exact ⟨_, Try.underlying22, cells39, is39⟩
def td9 : TD := .str
theorem cells9 : Try.prog.cellsOf 9 = TD.size td9 := by kernel_rfl
theorem is9 : TD.Is Try.prog td9 9 := by unfold td9; simp only [TD.Is, TD.IsF]; exact Try.underlying9
def td48 : TD := .int .u32
theorem cells48 : Try.prog.cellsOf 48 = TD.size td48 := by kernel_rfl
theorem is48 : TD.Is Try.prog td48 48 := by unfold td48; simp only [TD.Is, TD.IsF]; exact Try.underlying48
def td134 : TD := .st [td9, td3, td3, td3, td48]
theorem cells134 : Try.prog.cellsOf 134 = TD.size td134 := by kernel_rfl
theorem is134 : TD.Is Try.prog td134 134 := by unfold td134; simp only [TD.Is, TD.IsF]; exact ⟨_, Try.underlying134, cells134, ⟨_, _, rfl, rfl, cells9, is9, ⟨_, _, rfl, rfl, cells3, is3, ⟨_, _, rfl, rfl, cells3, is3, ⟨_, _, rfl, rfl, cells3, is3, ⟨_, _, rfl, rfl, cells48, is48, rfl⟩⟩⟩⟩⟩⟩
def td23 : TD := .sl td134
theorem cells23 : Try.prog.cellsOf 23 = TD.size td23 := by kernel_rfl
theorem is23 : TD.Is Try.prog td23 23 := by unfold td23; simp only [TD.Is, TD.IsF]; exact ⟨_, Try.underlying23, cells134, is134⟩
def td47 : TD := .int .i64
theorem cells47 : Try.prog.cellsOf 47 = TD.size td47 := by kernel_rfl
theorem is47 : TD.Is Try.prog td47 47 := by unfold td47; simp only [TD.Is, TD.IsF]; exact Try.underlying47
def td4 : TD := .bool
theorem cells4 : Try.prog.cellsOf 4 = TD.size td4 := by kernel_rfl
theorem is4 : TD.Is Try.prog td4 4 := by unfold td4; simp only [TD.Is, TD.IsF]; exact Try.underlying4
def td50 : TD := .st [td47, td3, td3, td3, td48, td4]
theorem cells50 : Try.prog.cellsOf 50 = TD.size td50 := by kernel_rfl
theorem is50 : TD.Is Try.prog td50 50 := by unfold td50; simp only [TD.Is, TD.IsF]; exact ⟨_, Try.underlying50, cells50, ⟨_, _, rfl, rfl, cells47, is47, ⟨_, _, rfl, rfl, cells3, is3, ⟨_, _, rfl, rfl, cells3, is3, ⟨_, _, rfl, rfl, cells3, is3, ⟨_, _, rfl, rfl, cells48, is48, ⟨_, _, rfl, rfl, cells4, is4, rfl⟩⟩⟩⟩⟩⟩⟩
def td92 : TD := .st [td3, td3, td50]
theorem cells92 : Try.prog.cellsOf 92 = TD.size td92 := by kernel_rfl
theorem is92 : TD.Is Try.prog td92 92 := by unfold td92; simp only [TD.Is, TD.IsF]; exact ⟨_, Try.underlying92, cells92, ⟨_, _, rfl, rfl, cells3, is3, ⟨_, _, rfl, rfl, cells3, is3, ⟨_, _, rfl, rfl, cells50, is50, rfl⟩⟩⟩⟩
def td24 : TD := .sl td92
theorem cells24 : Try.prog.cellsOf 24 = TD.size td24 := by kernel_rfl
theorem is24 : TD.Is Try.prog td24 24 := by unfold td24; simp only [TD.Is, TD.IsF]; exact ⟨_, Try.underlying24, cells92, is92⟩
def td26 : TD := .st [td22, td23, td24]
theorem cells26 : Try.prog.cellsOf 26 = TD.size td26 := by kernel_rfl
theorem is26 : TD.Is Try.prog td26 26 := by unfold td26; simp only [TD.Is, TD.IsF]; exact ⟨_, Try.underlying26, cells26, ⟨_, _, rfl, rfl, cells22, is22, ⟨_, _, rfl, rfl, cells23, is23, ⟨_, _, rfl, rfl, cells24, is24, rfl⟩⟩⟩⟩
def td32 : TD := .st [td3, td3]
theorem cells32 : Try.prog.cellsOf 32 = TD.size td32 := by kernel_rfl
theorem is32 : TD.Is Try.prog td32 32 := by unfold td32; simp only [TD.Is, TD.IsF]; exact ⟨_, Try.underlying32, cells32, ⟨_, _, rfl, rfl, cells3, is3, ⟨_, _, rfl, rfl, cells3, is3, rfl⟩⟩⟩
def td42 : TD := .sl td32
theorem cells42 : Try.prog.cellsOf 42 = TD.size td42 := by kernel_rfl
theorem is42 : TD.Is Try.prog td42 42 := by unfold td42; simp only [TD.Is, TD.IsF]; exact ⟨_, Try.underlying42, cells32, is32⟩
def td44 : TD := .st [td41, td4, td42]
theorem cells44 : Try.prog.cellsOf 44 = TD.size td44 := by kernel_rfl
theorem is44 : TD.Is Try.prog td44 44 := by unfold td44; simp only [TD.Is, TD.IsF]; exact ⟨_, Try.underlying44, cells44, ⟨_, _, rfl, rfl, cells41, is41, ⟨_, _, rfl, rfl, cells4, is4, ⟨_, _, rfl, rfl, cells42, is42, rfl⟩⟩⟩⟩
def td27 : TD := .sl td44
theorem cells27 : Try.prog.cellsOf 27 = TD.size td27 := by kernel_rfl
theorem is27 : TD.Is Try.prog td27 27 := by unfold td27; simp only [TD.Is, TD.IsF]; exact ⟨_, Try.underlying27, cells44, is44⟩
def td62 : TD := .st [td3, td9]
theorem cells62 : Try.prog.cellsOf 62 = TD.size td62 := by kernel_rfl
theorem is62 : TD.Is Try.prog td62 62 := by unfold td62; simp only [TD.Is, TD.IsF]; exact ⟨_, Try.underlying62, cells62, ⟨_, _, rfl, rfl, cells3, is3, ⟨_, _, rfl, rfl, cells9, is9, rfl⟩⟩⟩
def td56 : TD := .sl td62
theorem cells56 : Try.prog.cellsOf 56 = TD.size td56 := by kernel_rfl
theorem is56 : TD.Is Try.prog td56 56 := by unfold td56; simp only [TD.Is, TD.IsF]; exact ⟨_, Try.underlying56, cells62, is62⟩
def td67 : TD := .st [td26, td39, td56, td27, td41, td32, td3]
theorem cells67 : Try.prog.cellsOf 67 = TD.size td67 := by kernel_rfl
theorem is67 : TD.Is Try.prog td67 67 := by unfold td67; simp only [TD.Is, TD.IsF]; exact ⟨_, Try.underlying67, cells67, ⟨_, _, rfl, rfl, cells26, is26, ⟨_, _, rfl, rfl, cells39, is39, ⟨_, _, rfl, rfl, cells56, is56, ⟨_, _, rfl, rfl, cells27, is27, ⟨_, _, rfl, rfl, cells41, is41, ⟨_, _, rfl, rfl, cells32, is32, ⟨_, _, rfl, rfl, cells3, is3, rfl⟩⟩⟩⟩⟩⟩⟩⟩
def td54 : TD := .st [td3, td3, td3, td9, td3, td3, td3, td48, td3, td3, td3, td30]
theorem cells54 : Try.prog.cellsOf 54 = TD.size td54 := by kernel_rfl
theorem is54 : TD.Is Try.prog td54 54 := by unfold td54; simp only [TD.Is, TD.IsF]; exact ⟨_, Try.underlying54, cells54, ⟨_, _, rfl, rfl, cells3, is3, ⟨_, _, rfl, rfl, cells3, is3, ⟨_, _, rfl, rfl, cells3, is3, ⟨_, _, rfl, rfl, cells9, is9, ⟨_, _, rfl, rfl, cells3, is3, ⟨_, _, rfl, rfl, cells3, is3, ⟨_, _, rfl, rfl, cells3, is3, ⟨_, _, rfl, rfl, cells48, is48, ⟨_, _, rfl, rfl, cells3, is3, ⟨_, _, rfl, rfl, cells3, is3, ⟨_, _, rfl, rfl, cells3, is3, ⟨_, _, rfl, rfl, cells30, is30, rfl⟩⟩⟩⟩⟩⟩⟩⟩⟩⟩⟩⟩⟩
def td46 : TD := .sl td54
theorem cells46 : Try.prog.cellsOf 46 = TD.size td46 := by kernel_rfl
theorem is46 : TD.Is Try.prog td46 46 := by unfold td46; simp only [TD.Is, TD.IsF]; exact ⟨_, Try.underlying46, cells54, is54⟩
theorem laidOut : laidOutB Try.prog = true := by kernel_rfl
end Go.Proofs
/- Facts on the program's types. Printed by types.py. -/
set_option linter.unusedVariables false
set_option linter.unusedSimpArgs false
set_option maxRecDepth 100000
namespace Go.Proofs
open Go.Hg
theorem Try.mixed : Try.prog.follows .mixedOrders = true := by kernel_rfl
theorem places26 : ∀ w, (placesOf (Try.prog.fieldsOf 26)).run Try.prog w = .ok #[(0, 1), (1, 1), (2, 1)] w := by intro w; rw [show Try.prog.fieldsOf 26 = _ by simp only [Program.fieldsOf, Try.underlying26]; rfl]; simp [placesOf, Try.sizeOf22, Try.sizeOf23, Try.sizeOf24]
theorem places32 : ∀ w, (placesOf (Try.prog.fieldsOf 32)).run Try.prog w = .ok #[(0, 1), (1, 1)] w := by intro w; rw [show Try.prog.fieldsOf 32 = _ by simp only [Program.fieldsOf, Try.underlying32]; rfl]; simp [placesOf, Try.sizeOf3]
theorem places34 : ∀ w, (placesOf (Try.prog.fieldsOf 34)).run Try.prog w = .ok #[(0, 1), (1, 1), (2, 1), (3, 1), (4, 1), (5, 2)] w := by intro w; rw [show Try.prog.fieldsOf 34 = _ by simp only [Program.fieldsOf, Try.underlying34]; rfl]; simp [placesOf, Try.sizeOf3, Try.sizeOf30, Try.sizeOf32]
theorem places39 : ∀ w, (placesOf (Try.prog.fieldsOf 39)).run Try.prog w = .ok #[(0, 1), (1, 1), (2, 1), (3, 1), (4, 1), (5, 1), (6, 1), (7, 1), (8, 1)] w := by intro w; rw [show Try.prog.fieldsOf 39 = _ by simp only [Program.fieldsOf, Try.underlying39]; rfl]; simp [placesOf, Try.sizeOf3, Try.sizeOf30, Try.sizeOf37]
theorem places41 : ∀ w, (placesOf (Try.prog.fieldsOf 41)).run Try.prog w = .ok #[(0, 1), (1, 1)] w := by intro w; rw [show Try.prog.fieldsOf 41 = _ by simp only [Program.fieldsOf, Try.underlying41]; rfl]; simp [placesOf, Try.sizeOf3]
theorem places44 : ∀ w, (placesOf (Try.prog.fieldsOf 44)).run Try.prog w = .ok #[(0, 2), (2, 1), (3, 1)] w := by intro w; rw [show Try.prog.fieldsOf 44 = _ by simp only [Program.fieldsOf, Try.underlying44]; rfl]; simp [placesOf, Try.sizeOf4, Try.sizeOf41, Try.sizeOf42]
theorem places50 : ∀ w, (placesOf (Try.prog.fieldsOf 50)).run Try.prog w = .ok #[(0, 1), (1, 1), (2, 1), (3, 1), (4, 1), (5, 1)] w := by intro w; rw [show Try.prog.fieldsOf 50 = _ by simp only [Program.fieldsOf, Try.underlying50]; rfl]; simp [placesOf, Try.sizeOf3, Try.sizeOf4, Try.sizeOf47, Try.sizeOf48]
theorem places60 : ∀ w, (placesOf (Try.prog.fieldsOf 60)).run Try.prog w = .ok #[(0, 1), (1, 1)] w := by intro w; rw [show Try.prog.fieldsOf 60 = _ by simp only [Program.fieldsOf, Try.underlying60]; rfl]; simp [placesOf, Try.sizeOf3]
theorem places92 : ∀ w, (placesOf (Try.prog.fieldsOf 92)).run Try.prog w = .ok #[(0, 1), (1, 1), (2, 6)] w := by intro w; rw [show Try.prog.fieldsOf 92 = _ by simp only [Program.fieldsOf, Try.underlying92]; rfl]; simp [placesOf, Try.sizeOf3, Try.sizeOf50]
theorem places134 : ∀ w, (placesOf (Try.prog.fieldsOf 134)).run Try.prog w = .ok #[(0, 1), (1, 1), (2, 1), (3, 1), (4, 1)] w := by intro w; rw [show Try.prog.fieldsOf 134 = _ by simp only [Program.fieldsOf, Try.underlying134]; rfl]; simp [placesOf, Try.sizeOf3, Try.sizeOf9, Try.sizeOf48]
theorem info3 : EInfo Try.prog 3 1 8 (.int .i64 0) := by unfold EInfo; kernel_rfl
theorem info4 : EInfo Try.prog 4 1 1 (.bool false) := by unfold EInfo; kernel_rfl
theorem info5 : EInfo Try.prog 5 1 1 (.int .u8 0) := by unfold EInfo; kernel_rfl
theorem info39 : EInfo Try.prog 39 9 104 (.agg #[(.int .i64 0), (.int .i64 0), (.int .i64 0), (.int .i64 0), (.int .i64 0), (.slice none 0 0), (.slice none 0 0), (.int .i64 0), (.int .i64 0)]) := by unfold EInfo; kernel_rfl
theorem info41 : EInfo Try.prog 41 2 16 (.agg #[(.int .i64 0), (.int .i64 0)]) := by unfold EInfo; kernel_rfl
theorem info60 : EInfo Try.prog 60 2 16 (.agg #[(.int .i64 0), (.int .i64 0)]) := by unfold EInfo; kernel_rfl
theorem info62 : EInfo Try.prog 62 2 24 (.agg #[(.int .i64 0), (.string ByteArray.empty)]) := by unfold EInfo; kernel_rfl
theorem info92 : EInfo Try.prog 92 8 56 (.agg #[(.int .i64 0), (.int .i64 0), (.int .i64 0), (.int .i64 0), (.int .i64 0), (.int .i64 0), (.int .u32 0), (.bool false)]) := by unfold EInfo; kernel_rfl
theorem info134 : EInfo Try.prog 134 5 48 (.agg #[(.string ByteArray.empty), (.int .i64 0), (.int .i64 0), (.int .i64 0), (.int .u32 0)]) := by unfold EInfo; kernel_rfl
end Go.Proofs
