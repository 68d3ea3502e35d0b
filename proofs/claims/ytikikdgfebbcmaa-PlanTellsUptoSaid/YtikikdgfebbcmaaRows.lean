/-
  No cell of these rows narrows 'for every input' (looked for: loops, veiled, ifaces, maps, wideKeys, modest, calm, conditions, laid).
  DERIVED. THE GIVEN ROWS OF THIS SEAT. 6 by the template 'for every input the law returns true; each argument reads behind the call as it read before'; 0 by the template 'total and deterministic' (their statements: YtikikdgfebbcmaaTotals.lean).
  GIVEN WITH THE SEED: the statements are not yours to turn. If you find one false, say at which input.
  Laid BY PROGRAM, IN A SANDBOX (cutbox-rows.mjs): the forced cells as the released guide's own fill.sh prints them over the translation 944732a485ba8dc8… (all of the seat's roots in one cut). By AI agents, Wed Nov 11 2026. No macro, syntax, notation, axiom, sorry.
-/
import Derived.Test.YtikikdgfebbcmaaChecked
import GoSem.Claim
import GoSem.ClaimJoined
import GoSem.ClaimMapViews
import Derived.JoinedTies
import Derived.KernelRfl
namespace Go.Proofs.Ytikikdgfebbcmaa
/- THE CELL 'sum', in the pinned program and in every row, IS THE sha256 OF THE DUMP (.gsa) THAT YtikikdgfebbcmaaProg.lean LOADS. Nothing in Lean hashes anything: it is a label: what it is worth is what the hold of that sum in a sandbox is worth. -/
noncomputable def Try.pinned : Pinned := { name := "ytikikdgfebbcmaa", sum := "944732a485ba8dc80754ce0eef94321a2b36d4f29a5763291d724b02f56a260c", checked := Try.checked }
namespace Rows
def none {H : Type} : Left H := { results := [], args := [] }

/-- 'hogsheadlaw16.PlanNexts': WHATEVER THE INPUT: true; the input reads as it did. -/
def planNextsSpec : ChangeSpec := { name := "planNexts", fn := fun _ => fun
  | [d1, d2, d3] => { results := [.lit (.bool true)], args := [d1, d2, d3] }
  | _ => none }
def planNextsRow : OpenClaim := { program := "ytikikdgfebbcmaa", sum := "944732a485ba8dc80754ce0eef94321a2b36d4f29a5763291d724b02f56a260c", func := "hogshead/hogsheadlaw16.PlanNexts", spec := "planNexts", unfollowed := true, recurses := true, apart := false }
def PlanNextsSaid : Prop := planNextsRow.holds Try.pinned (OpenSpec.ofChange planNextsSpec)

/-- ITS FALSE NEIGHBOUR: 'it returns false'. Refute it at one input. -/
def planNextsWrong : ChangeSpec := { name := "planNexts", fn := fun _ => fun
  | [d1, d2, d3] => { results := [.lit (.bool false)], args := [d1, d2, d3] }
  | _ => none }
def PlanNextsWrongFalsely : Prop := planNextsRow.holds Try.pinned (OpenSpec.ofChange planNextsWrong)

/-- 'hogsheadlaw16.PlanRests': WHATEVER THE INPUT: true; the input reads as it did. -/
def planRestsSpec : ChangeSpec := { name := "planRests", fn := fun _ => fun
  | [d1, d2, d3] => { results := [.lit (.bool true)], args := [d1, d2, d3] }
  | _ => none }
def planRestsRow : OpenClaim := { program := "ytikikdgfebbcmaa", sum := "944732a485ba8dc80754ce0eef94321a2b36d4f29a5763291d724b02f56a260c", func := "hogshead/hogsheadlaw16.PlanRests", spec := "planRests", unfollowed := true, recurses := true, apart := false }
def PlanRestsSaid : Prop := planRestsRow.holds Try.pinned (OpenSpec.ofChange planRestsSpec)

/-- ITS FALSE NEIGHBOUR: 'it returns false'. Refute it at one input. -/
def planRestsWrong : ChangeSpec := { name := "planRests", fn := fun _ => fun
  | [d1, d2, d3] => { results := [.lit (.bool false)], args := [d1, d2, d3] }
  | _ => none }
def PlanRestsWrongFalsely : Prop := planRestsRow.holds Try.pinned (OpenSpec.ofChange planRestsWrong)

/-- 'hogsheadlaw16.PlanOld': WHATEVER THE INPUT: true; the input reads as it did. -/
def planOldSpec : ChangeSpec := { name := "planOld", fn := fun _ => fun
  | [d1, d2, d3] => { results := [.lit (.bool true)], args := [d1, d2, d3] }
  | _ => none }
def planOldRow : OpenClaim := { program := "ytikikdgfebbcmaa", sum := "944732a485ba8dc80754ce0eef94321a2b36d4f29a5763291d724b02f56a260c", func := "hogshead/hogsheadlaw16.PlanOld", spec := "planOld", unfollowed := true, recurses := true, apart := false }
def PlanOldSaid : Prop := planOldRow.holds Try.pinned (OpenSpec.ofChange planOldSpec)

/-- ITS FALSE NEIGHBOUR: 'it returns false'. Refute it at one input. -/
def planOldWrong : ChangeSpec := { name := "planOld", fn := fun _ => fun
  | [d1, d2, d3] => { results := [.lit (.bool false)], args := [d1, d2, d3] }
  | _ => none }
def PlanOldWrongFalsely : Prop := planOldRow.holds Try.pinned (OpenSpec.ofChange planOldWrong)

/-- 'hogsheadlaw16.PlanFills': WHATEVER THE INPUT: true; the input reads as it did. -/
def planFillsSpec : ChangeSpec := { name := "planFills", fn := fun _ => fun
  | [d1, d2] => { results := [.lit (.bool true)], args := [d1, d2] }
  | _ => none }
def planFillsRow : OpenClaim := { program := "ytikikdgfebbcmaa", sum := "944732a485ba8dc80754ce0eef94321a2b36d4f29a5763291d724b02f56a260c", func := "hogshead/hogsheadlaw16.PlanFills", spec := "planFills", unfollowed := true, recurses := true, apart := false }
def PlanFillsSaid : Prop := planFillsRow.holds Try.pinned (OpenSpec.ofChange planFillsSpec)

/-- ITS FALSE NEIGHBOUR: 'it returns false'. Refute it at one input. -/
def planFillsWrong : ChangeSpec := { name := "planFills", fn := fun _ => fun
  | [d1, d2] => { results := [.lit (.bool false)], args := [d1, d2] }
  | _ => none }
def PlanFillsWrongFalsely : Prop := planFillsRow.holds Try.pinned (OpenSpec.ofChange planFillsWrong)

/-- 'hogsheadlaw16.PlanHomes': WHATEVER THE INPUT: true; the input reads as it did. -/
def planHomesSpec : ChangeSpec := { name := "planHomes", fn := fun _ => fun
  | [d1, d2] => { results := [.lit (.bool true)], args := [d1, d2] }
  | _ => none }
def planHomesRow : OpenClaim := { program := "ytikikdgfebbcmaa", sum := "944732a485ba8dc80754ce0eef94321a2b36d4f29a5763291d724b02f56a260c", func := "hogshead/hogsheadlaw16.PlanHomes", spec := "planHomes", unfollowed := true, recurses := true, apart := false }
def PlanHomesSaid : Prop := planHomesRow.holds Try.pinned (OpenSpec.ofChange planHomesSpec)

/-- ITS FALSE NEIGHBOUR: 'it returns false'. Refute it at one input. -/
def planHomesWrong : ChangeSpec := { name := "planHomes", fn := fun _ => fun
  | [d1, d2] => { results := [.lit (.bool false)], args := [d1, d2] }
  | _ => none }
def PlanHomesWrongFalsely : Prop := planHomesRow.holds Try.pinned (OpenSpec.ofChange planHomesWrong)

/-- 'hogsheadlaw16.PlanTells': WHATEVER THE INPUT: true; the input reads as it did. -/
def planTellsSpec : ChangeSpec := { name := "planTells", fn := fun _ => fun
  | [d] => { results := [.lit (.bool true)], args := [d] }
  | _ => none }
def planTellsRow : OpenClaim := { program := "ytikikdgfebbcmaa", sum := "944732a485ba8dc80754ce0eef94321a2b36d4f29a5763291d724b02f56a260c", func := "hogshead/hogsheadlaw16.PlanTells", spec := "planTells", unfollowed := true, recurses := true, apart := false }
def PlanTellsSaid : Prop := planTellsRow.holds Try.pinned (OpenSpec.ofChange planTellsSpec)

/-- ITS FALSE NEIGHBOUR: 'it returns false'. Refute it at one input. -/
def planTellsWrong : ChangeSpec := { name := "planTells", fn := fun _ => fun
  | [d] => { results := [.lit (.bool false)], args := [d] }
  | _ => none }
def PlanTellsWrongFalsely : Prop := planTellsRow.holds Try.pinned (OpenSpec.ofChange planTellsWrong)

/- THE SECOND FORM. 'bulk': how many values and letters a reading holds, each counted each time it is reached (what is shared counts as often as it is met; a slice's spare places count too). A statement '..UptoSaid' is the law's where the arguments, and the package variables that the reading takes, are together of bulk at most 1048576: NARROWER than '..Said'. Prove '..Said' where nothing that the law and all that it calls make is longer than what came in: it says more and counts as full. Else prove '..UptoSaid'. A law counts once. -/
mutual
def uptoBulk {H : Type} : DataW H → Nat
  | .lit (.string bytes) => bytes.length + 1
  | .lit _ => 1
  | .nil => 1
  | .ptr d => uptoBulk d + 1
  | .slice elems spare => uptoBulkAll elems + uptoBulkAll spare + 1
  | .agg parts => uptoBulkAll parts + 1
  | .iface _ d => uptoBulk d + 1
  | .map entries => uptoBulkEntries entries + 1
  | .held _ => 1
def uptoBulkAll {H : Type} : List (DataW H) → Nat
  | [] => 0
  | d :: r => uptoBulk d + uptoBulkAll r
def uptoBulkEntries {H : Type} : List (Lit × DataW H) → Nat
  | [] => 0
  | x :: r => uptoBulkEntry x + uptoBulkEntries r
def uptoBulkEntry {H : Type} : Lit × DataW H → Nat
  | (.string bytes, d) => bytes.length + uptoBulk d + 1
  | (_, d) => uptoBulk d + 1
 end
def uptoSmall : (H : Type) → List (DataW H) → Bool := fun _ ds => decide (uptoBulkAll ds ≤ 1048576)
def OpenSpec.upto (s : _root_.Go.ChangeSpec) : _root_.Go.OpenSpec := { _root_.Go.OpenSpec.ofChange s with cond := some uptoSmall }

/-- 'hogsheadlaw16.PlanNexts', WHERE WHAT IT READS IS OF BULK AT MOST 1048576: true; the input reads as it did. -/
def planNextsUptoRow : OpenClaim := { program := "ytikikdgfebbcmaa", sum := "944732a485ba8dc80754ce0eef94321a2b36d4f29a5763291d724b02f56a260c", func := "hogshead/hogsheadlaw16.PlanNexts", spec := "planNexts", unfollowed := true, recurses := true, apart := false, narrowed := true }
def PlanNextsUptoSaid : Prop := planNextsUptoRow.holds Try.pinned (OpenSpec.upto planNextsSpec)

/-- 'hogsheadlaw16.PlanRests', WHERE WHAT IT READS IS OF BULK AT MOST 1048576: true; the input reads as it did. -/
def planRestsUptoRow : OpenClaim := { program := "ytikikdgfebbcmaa", sum := "944732a485ba8dc80754ce0eef94321a2b36d4f29a5763291d724b02f56a260c", func := "hogshead/hogsheadlaw16.PlanRests", spec := "planRests", unfollowed := true, recurses := true, apart := false, narrowed := true }
def PlanRestsUptoSaid : Prop := planRestsUptoRow.holds Try.pinned (OpenSpec.upto planRestsSpec)

/-- 'hogsheadlaw16.PlanOld', WHERE WHAT IT READS IS OF BULK AT MOST 1048576: true; the input reads as it did. -/
def planOldUptoRow : OpenClaim := { program := "ytikikdgfebbcmaa", sum := "944732a485ba8dc80754ce0eef94321a2b36d4f29a5763291d724b02f56a260c", func := "hogshead/hogsheadlaw16.PlanOld", spec := "planOld", unfollowed := true, recurses := true, apart := false, narrowed := true }
def PlanOldUptoSaid : Prop := planOldUptoRow.holds Try.pinned (OpenSpec.upto planOldSpec)

/-- 'hogsheadlaw16.PlanFills', WHERE WHAT IT READS IS OF BULK AT MOST 1048576: true; the input reads as it did. -/
def planFillsUptoRow : OpenClaim := { program := "ytikikdgfebbcmaa", sum := "944732a485ba8dc80754ce0eef94321a2b36d4f29a5763291d724b02f56a260c", func := "hogshead/hogsheadlaw16.PlanFills", spec := "planFills", unfollowed := true, recurses := true, apart := false, narrowed := true }
def PlanFillsUptoSaid : Prop := planFillsUptoRow.holds Try.pinned (OpenSpec.upto planFillsSpec)

/-- 'hogsheadlaw16.PlanHomes', WHERE WHAT IT READS IS OF BULK AT MOST 1048576: true; the input reads as it did. -/
def planHomesUptoRow : OpenClaim := { program := "ytikikdgfebbcmaa", sum := "944732a485ba8dc80754ce0eef94321a2b36d4f29a5763291d724b02f56a260c", func := "hogshead/hogsheadlaw16.PlanHomes", spec := "planHomes", unfollowed := true, recurses := true, apart := false, narrowed := true }
def PlanHomesUptoSaid : Prop := planHomesUptoRow.holds Try.pinned (OpenSpec.upto planHomesSpec)

/-- 'hogsheadlaw16.PlanTells', WHERE WHAT IT READS IS OF BULK AT MOST 1048576: true; the input reads as it did. -/
def planTellsUptoRow : OpenClaim := { program := "ytikikdgfebbcmaa", sum := "944732a485ba8dc80754ce0eef94321a2b36d4f29a5763291d724b02f56a260c", func := "hogshead/hogsheadlaw16.PlanTells", spec := "planTells", unfollowed := true, recurses := true, apart := false, narrowed := true }
def PlanTellsUptoSaid : Prop := planTellsUptoRow.holds Try.pinned (OpenSpec.upto planTellsSpec)

end Rows
end Go.Proofs.Ytikikdgfebbcmaa
