/- The types that come in, told. Printed by tds.py. -/
import Derived.Test.YtajlkpogccbboaaHgS
import Derived.Test.YtajlkpogccbboaaProg
import Derived.KernelRfl
set_option linter.unusedVariables false
set_option linter.unusedSimpArgs false
set_option maxRecDepth 100000
namespace Go.Proofs
open Go.Hg
def td3 : TD := .int .i64
theorem cells3 : Try.prog.cellsOf 3 = TD.size td3 := by kernel_rfl
theorem is3 : TD.Is Try.prog td3 3 := by unfold td3; simp only [TD.Is, TD.IsF]; exact Try.underlying3
def td9 : TD := .str
theorem cells9 : Try.prog.cellsOf 9 = TD.size td9 := by kernel_rfl
theorem is9 : TD.Is Try.prog td9 9 := by unfold td9; simp only [TD.Is, TD.IsF]; exact Try.underlying9
def td27 : TD := .int .u32
theorem cells27 : Try.prog.cellsOf 27 = TD.size td27 := by kernel_rfl
theorem is27 : TD.Is Try.prog td27 27 := by unfold td27; simp only [TD.Is, TD.IsF]; exact Try.underlying27
def td57 : TD := .st [td3, td3]
theorem cells57 : Try.prog.cellsOf 57 = TD.size td57 := by kernel_rfl
theorem is57 : TD.Is Try.prog td57 57 := by unfold td57; simp only [TD.Is, TD.IsF]; exact ⟨_, Try.underlying57, cells57, ⟨_, _, rfl, rfl, cells3, is3, ⟨_, _, rfl, rfl, cells3, is3, rfl⟩⟩⟩
def td28 : TD := .sl td57
theorem cells28 : Try.prog.cellsOf 28 = TD.size td28 := by kernel_rfl
theorem is28 : TD.Is Try.prog td28 28 := by unfold td28; simp only [TD.Is, TD.IsF]; exact ⟨_, Try.underlying28, cells57, is57⟩
def td30 : TD := .st [td3, td3, td3, td9, td3, td3, td3, td27, td3, td3, td3, td28]
theorem cells30 : Try.prog.cellsOf 30 = TD.size td30 := by kernel_rfl
theorem is30 : TD.Is Try.prog td30 30 := by unfold td30; simp only [TD.Is, TD.IsF]; exact ⟨_, Try.underlying30, cells30, ⟨_, _, rfl, rfl, cells3, is3, ⟨_, _, rfl, rfl, cells3, is3, ⟨_, _, rfl, rfl, cells3, is3, ⟨_, _, rfl, rfl, cells9, is9, ⟨_, _, rfl, rfl, cells3, is3, ⟨_, _, rfl, rfl, cells3, is3, ⟨_, _, rfl, rfl, cells3, is3, ⟨_, _, rfl, rfl, cells27, is27, ⟨_, _, rfl, rfl, cells3, is3, ⟨_, _, rfl, rfl, cells3, is3, ⟨_, _, rfl, rfl, cells3, is3, ⟨_, _, rfl, rfl, cells28, is28, rfl⟩⟩⟩⟩⟩⟩⟩⟩⟩⟩⟩⟩⟩
def td44 : TD := .sl td30
theorem cells44 : Try.prog.cellsOf 44 = TD.size td44 := by kernel_rfl
theorem is44 : TD.Is Try.prog td44 44 := by unfold td44; simp only [TD.Is, TD.IsF]; exact ⟨_, Try.underlying44, cells30, is30⟩
def td54 : TD := .st [td3, td3]
theorem cells54 : Try.prog.cellsOf 54 = TD.size td54 := by kernel_rfl
theorem is54 : TD.Is Try.prog td54 54 := by unfold td54; simp only [TD.Is, TD.IsF]; exact ⟨_, Try.underlying54, cells54, ⟨_, _, rfl, rfl, cells3, is3, ⟨_, _, rfl, rfl, cells3, is3, rfl⟩⟩⟩
def td48 : TD := .sl td54
theorem cells48 : Try.prog.cellsOf 48 = TD.size td48 := by kernel_rfl
theorem is48 : TD.Is Try.prog td48 48 := by unfold td48; simp only [TD.Is, TD.IsF]; exact ⟨_, Try.underlying48, cells54, is54⟩
def td50 : TD := .st [td3, td3, td3, td3, td3, td48, td28, td3, td3]
theorem cells50 : Try.prog.cellsOf 50 = TD.size td50 := by kernel_rfl
theorem is50 : TD.Is Try.prog td50 50 := by unfold td50; simp only [TD.Is, TD.IsF]; exact ⟨_, Try.underlying50, cells50, ⟨_, _, rfl, rfl, cells3, is3, ⟨_, _, rfl, rfl, cells3, is3, ⟨_, _, rfl, rfl, cells3, is3, ⟨_, _, rfl, rfl, cells3, is3, ⟨_, _, rfl, rfl, cells3, is3, ⟨_, _, rfl, rfl, cells48, is48, ⟨_, _, rfl, rfl, cells28, is28, ⟨_, _, rfl, rfl, cells3, is3, ⟨_, _, rfl, rfl, cells3, is3, rfl⟩⟩⟩⟩⟩⟩⟩⟩⟩⟩
def td22 : TD := .sl td50
theorem cells22 : Try.prog.cellsOf 22 = TD.size td22 := by kernel_rfl
theorem is22 : TD.Is Try.prog td22 22 := by unfold td22; simp only [TD.Is, TD.IsF]; exact ⟨_, Try.underlying22, cells50, is50⟩
def td47 : TD := .st [td9, td3, td3, td3, td27]
theorem cells47 : Try.prog.cellsOf 47 = TD.size td47 := by kernel_rfl
theorem is47 : TD.Is Try.prog td47 47 := by unfold td47; simp only [TD.Is, TD.IsF]; exact ⟨_, Try.underlying47, cells47, ⟨_, _, rfl, rfl, cells9, is9, ⟨_, _, rfl, rfl, cells3, is3, ⟨_, _, rfl, rfl, cells3, is3, ⟨_, _, rfl, rfl, cells3, is3, ⟨_, _, rfl, rfl, cells27, is27, rfl⟩⟩⟩⟩⟩⟩
def td23 : TD := .sl td47
theorem cells23 : Try.prog.cellsOf 23 = TD.size td23 := by kernel_rfl
theorem is23 : TD.Is Try.prog td23 23 := by unfold td23; simp only [TD.Is, TD.IsF]; exact ⟨_, Try.underlying23, cells47, is47⟩
def td33 : TD := .int .i64
theorem cells33 : Try.prog.cellsOf 33 = TD.size td33 := by kernel_rfl
theorem is33 : TD.Is Try.prog td33 33 := by unfold td33; simp only [TD.Is, TD.IsF]; exact Try.underlying33
def td4 : TD := .bool
theorem cells4 : Try.prog.cellsOf 4 = TD.size td4 := by kernel_rfl
theorem is4 : TD.Is Try.prog td4 4 := by unfold td4; simp only [TD.Is, TD.IsF]; exact Try.underlying4
def td35 : TD := .st [td33, td3, td3, td3, td27, td4]
theorem cells35 : Try.prog.cellsOf 35 = TD.size td35 := by kernel_rfl
theorem is35 : TD.Is Try.prog td35 35 := by unfold td35; simp only [TD.Is, TD.IsF]; exact ⟨_, Try.underlying35, cells35, ⟨_, _, rfl, rfl, cells33, is33, ⟨_, _, rfl, rfl, cells3, is3, ⟨_, _, rfl, rfl, cells3, is3, ⟨_, _, rfl, rfl, cells3, is3, ⟨_, _, rfl, rfl, cells27, is27, ⟨_, _, rfl, rfl, cells4, is4, rfl⟩⟩⟩⟩⟩⟩⟩
def td39 : TD := .st [td3, td3, td35]
theorem cells39 : Try.prog.cellsOf 39 = TD.size td39 := by kernel_rfl
theorem is39 : TD.Is Try.prog td39 39 := by unfold td39; simp only [TD.Is, TD.IsF]; exact ⟨_, Try.underlying39, cells39, ⟨_, _, rfl, rfl, cells3, is3, ⟨_, _, rfl, rfl, cells3, is3, ⟨_, _, rfl, rfl, cells35, is35, rfl⟩⟩⟩⟩
def td24 : TD := .sl td39
theorem cells24 : Try.prog.cellsOf 24 = TD.size td24 := by kernel_rfl
theorem is24 : TD.Is Try.prog td24 24 := by unfold td24; simp only [TD.Is, TD.IsF]; exact ⟨_, Try.underlying24, cells39, is39⟩
def td26 : TD := .st [td22, td23, td24]
theorem cells26 : Try.prog.cellsOf 26 = TD.size td26 := by kernel_rfl
theorem is26 : TD.Is Try.prog td26 26 := by unfold td26; simp only [TD.Is, TD.IsF]; exact ⟨_, Try.underlying26, cells26, ⟨_, _, rfl, rfl, cells22, is22, ⟨_, _, rfl, rfl, cells23, is23, ⟨_, _, rfl, rfl, cells24, is24, rfl⟩⟩⟩⟩
def td60 : TD := .st [td26, td30, td3, td9]
theorem cells60 : Try.prog.cellsOf 60 = TD.size td60 := by kernel_rfl
theorem is60 : TD.Is Try.prog td60 60 := by unfold td60; simp only [TD.Is, TD.IsF]; exact ⟨_, Try.underlying60, cells60, ⟨_, _, rfl, rfl, cells26, is26, ⟨_, _, rfl, rfl, cells30, is30, ⟨_, _, rfl, rfl, cells3, is3, ⟨_, _, rfl, rfl, cells9, is9, rfl⟩⟩⟩⟩⟩
def td65 : TD := .st [td26, td3, td9, td26]
theorem cells65 : Try.prog.cellsOf 65 = TD.size td65 := by kernel_rfl
theorem is65 : TD.Is Try.prog td65 65 := by unfold td65; simp only [TD.Is, TD.IsF]; exact ⟨_, Try.underlying65, cells65, ⟨_, _, rfl, rfl, cells26, is26, ⟨_, _, rfl, rfl, cells3, is3, ⟨_, _, rfl, rfl, cells9, is9, ⟨_, _, rfl, rfl, cells26, is26, rfl⟩⟩⟩⟩⟩
theorem laidOut : laidOutB Try.prog = true := by kernel_rfl
end Go.Proofs
