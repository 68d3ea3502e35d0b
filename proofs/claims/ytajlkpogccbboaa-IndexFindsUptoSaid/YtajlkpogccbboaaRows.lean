/-
  No cell of these rows narrows 'for every input' (looked for: loops, veiled, ifaces, maps, wideKeys, modest, calm, conditions, laid).
  DERIVED. THE GIVEN ROWS OF THIS SEAT. 6 by the template 'for every input the law returns true; each argument reads behind the call as it read before'; 0 by the template 'total and deterministic' (their statements: YtajlkpogccbboaaTotals.lean).
  GIVEN WITH THE SEED: the statements are not yours to turn. If you find one false, say at which input.
  Laid BY PROGRAM, IN A SANDBOX (cutbox-rows.mjs): the forced cells as the released guide's own fill.sh prints them over the translation 119d17f8d9743128… (all of the seat's roots in one cut). By AI agents, Wed Nov 11 2026. No macro, syntax, notation, axiom, sorry.
-/
import Derived.Test.YtajlkpogccbboaaChecked
import GoSem.Claim
import GoSem.ClaimJoined
import GoSem.ClaimMapViews
import Derived.JoinedTies
import Derived.KernelRfl
namespace Go.Proofs.Ytajlkpogccbboaa
/- THE CELL 'sum', in the pinned program and in every row, IS THE sha256 OF THE DUMP (.gsa) THAT YtajlkpogccbboaaProg.lean LOADS. Nothing in Lean hashes anything: it is a label: what it is worth is what the hold of that sum in a sandbox is worth. -/
noncomputable def Try.pinned : Pinned := { name := "ytajlkpogccbboaa", sum := "119d17f8d9743128b3996c70124d6cc2d3f1e76c96c0557d9a472faae45a3984", checked := Try.checked }
namespace Rows
def none {H : Type} : Left H := { results := [], args := [] }

/-- 'hogsheadlaw15.IndexTwice': WHATEVER THE INPUT: true; the input reads as it did. -/
def indexTwiceSpec : ChangeSpec := { name := "indexTwice", fn := fun _ => fun
  | [d1, d2] => { results := [.lit (.bool true)], args := [d1, d2] }
  | _ => none }
def indexTwiceRow : OpenClaim := { program := "ytajlkpogccbboaa", sum := "119d17f8d9743128b3996c70124d6cc2d3f1e76c96c0557d9a472faae45a3984", func := "hogshead/hogsheadlaw15.IndexTwice", spec := "indexTwice", inPlace := ["slices.overlaps[hogshead/api.Name]"], unfollowed := true, recurses := true, apart := false }
def IndexTwiceSaid : Prop := indexTwiceRow.holds Try.pinned (OpenSpec.ofChange indexTwiceSpec)

/-- ITS FALSE NEIGHBOUR: 'it returns false'. Refute it at one input. -/
def indexTwiceWrong : ChangeSpec := { name := "indexTwice", fn := fun _ => fun
  | [d1, d2] => { results := [.lit (.bool false)], args := [d1, d2] }
  | _ => none }
def IndexTwiceWrongFalsely : Prop := indexTwiceRow.holds Try.pinned (OpenSpec.ofChange indexTwiceWrong)

/-- 'hogsheadlaw15.IndexNames': WHATEVER THE INPUT: true; the input reads as it did. -/
def indexNamesSpec : ChangeSpec := { name := "indexNames", fn := fun _ => fun
  | [d] => { results := [.lit (.bool true)], args := [d] }
  | _ => none }
def indexNamesRow : OpenClaim := { program := "ytajlkpogccbboaa", sum := "119d17f8d9743128b3996c70124d6cc2d3f1e76c96c0557d9a472faae45a3984", func := "hogshead/hogsheadlaw15.IndexNames", spec := "indexNames", inPlace := ["slices.overlaps[hogshead/api.Name]"], unfollowed := true, recurses := true, apart := false }
def IndexNamesSaid : Prop := indexNamesRow.holds Try.pinned (OpenSpec.ofChange indexNamesSpec)

/-- ITS FALSE NEIGHBOUR: 'it returns false'. Refute it at one input. -/
def indexNamesWrong : ChangeSpec := { name := "indexNames", fn := fun _ => fun
  | [d] => { results := [.lit (.bool false)], args := [d] }
  | _ => none }
def IndexNamesWrongFalsely : Prop := indexNamesRow.holds Try.pinned (OpenSpec.ofChange indexNamesWrong)

/-- 'hogsheadlaw15.IndexVols': WHATEVER THE INPUT: true; the input reads as it did. -/
def indexVolsSpec : ChangeSpec := { name := "indexVols", fn := fun _ => fun
  | [d] => { results := [.lit (.bool true)], args := [d] }
  | _ => none }
def indexVolsRow : OpenClaim := { program := "ytajlkpogccbboaa", sum := "119d17f8d9743128b3996c70124d6cc2d3f1e76c96c0557d9a472faae45a3984", func := "hogshead/hogsheadlaw15.IndexVols", spec := "indexVols", inPlace := ["slices.overlaps[hogshead/api.Name]"], unfollowed := true, recurses := true, apart := false }
def IndexVolsSaid : Prop := indexVolsRow.holds Try.pinned (OpenSpec.ofChange indexVolsSpec)

/-- ITS FALSE NEIGHBOUR: 'it returns false'. Refute it at one input. -/
def indexVolsWrong : ChangeSpec := { name := "indexVols", fn := fun _ => fun
  | [d] => { results := [.lit (.bool false)], args := [d] }
  | _ => none }
def IndexVolsWrongFalsely : Prop := indexVolsRow.holds Try.pinned (OpenSpec.ofChange indexVolsWrong)

/-- 'hogsheadlaw15.IndexRises': WHATEVER THE INPUT: true; the input reads as it did. -/
def indexRisesSpec : ChangeSpec := { name := "indexRises", fn := fun _ => fun
  | [d1, d2] => { results := [.lit (.bool true)], args := [d1, d2] }
  | _ => none }
def indexRisesRow : OpenClaim := { program := "ytajlkpogccbboaa", sum := "119d17f8d9743128b3996c70124d6cc2d3f1e76c96c0557d9a472faae45a3984", func := "hogshead/hogsheadlaw15.IndexRises", spec := "indexRises", inPlace := ["slices.overlaps[hogshead/api.Name]"], unfollowed := true, recurses := true, apart := false }
def IndexRisesSaid : Prop := indexRisesRow.holds Try.pinned (OpenSpec.ofChange indexRisesSpec)

/-- ITS FALSE NEIGHBOUR: 'it returns false'. Refute it at one input. -/
def indexRisesWrong : ChangeSpec := { name := "indexRises", fn := fun _ => fun
  | [d1, d2] => { results := [.lit (.bool false)], args := [d1, d2] }
  | _ => none }
def IndexRisesWrongFalsely : Prop := indexRisesRow.holds Try.pinned (OpenSpec.ofChange indexRisesWrong)

/-- 'hogsheadlaw15.IndexApart': WHATEVER THE INPUT: true; the input reads as it did. -/
def indexApartSpec : ChangeSpec := { name := "indexApart", fn := fun _ => fun
  | [d] => { results := [.lit (.bool true)], args := [d] }
  | _ => none }
def indexApartRow : OpenClaim := { program := "ytajlkpogccbboaa", sum := "119d17f8d9743128b3996c70124d6cc2d3f1e76c96c0557d9a472faae45a3984", func := "hogshead/hogsheadlaw15.IndexApart", spec := "indexApart", inPlace := ["slices.overlaps[hogshead/api.Name]"], unfollowed := true, recurses := true, apart := false }
def IndexApartSaid : Prop := indexApartRow.holds Try.pinned (OpenSpec.ofChange indexApartSpec)

/-- ITS FALSE NEIGHBOUR: 'it returns false'. Refute it at one input. -/
def indexApartWrong : ChangeSpec := { name := "indexApart", fn := fun _ => fun
  | [d] => { results := [.lit (.bool false)], args := [d] }
  | _ => none }
def IndexApartWrongFalsely : Prop := indexApartRow.holds Try.pinned (OpenSpec.ofChange indexApartWrong)

/-- 'hogsheadlaw15.IndexFinds': WHATEVER THE INPUT: true; the input reads as it did. -/
def indexFindsSpec : ChangeSpec := { name := "indexFinds", fn := fun _ => fun
  | [d] => { results := [.lit (.bool true)], args := [d] }
  | _ => none }
def indexFindsRow : OpenClaim := { program := "ytajlkpogccbboaa", sum := "119d17f8d9743128b3996c70124d6cc2d3f1e76c96c0557d9a472faae45a3984", func := "hogshead/hogsheadlaw15.IndexFinds", spec := "indexFinds", inPlace := ["slices.overlaps[hogshead/api.Name]"], unfollowed := true, recurses := true, apart := false }
def IndexFindsSaid : Prop := indexFindsRow.holds Try.pinned (OpenSpec.ofChange indexFindsSpec)

/-- ITS FALSE NEIGHBOUR: 'it returns false'. Refute it at one input. -/
def indexFindsWrong : ChangeSpec := { name := "indexFinds", fn := fun _ => fun
  | [d] => { results := [.lit (.bool false)], args := [d] }
  | _ => none }
def IndexFindsWrongFalsely : Prop := indexFindsRow.holds Try.pinned (OpenSpec.ofChange indexFindsWrong)

/- THE SECOND FORM. 'bulk': how many values and letters a reading holds, each counted each time it is reached (what is shared counts as often as it is met; a slice's spare places count too). A statement '..UptoSaid' is the law's where the arguments, and the package variables that the reading takes, are together of bulk at most 1048576: NARROWER than '..Said'. Prove '..Said' where nothing that the law and all that it calls make is longer than what came in: it says more and counts as full. Else prove '..UptoSaid'. A law counts once. -/
mutual
def uptoBulk {H : Type} : DataW H → Nat
  | .lit (.string bytes) => bytes.length + 1
  | .lit _ => 1
  | .nil => 1
  | .ptr d => uptoBulk d + 1
  | .slice elems spare => uptoBulkAll elems + uptoBulkAll spare + 1
  | .agg parts => uptoBulkAll parts + 1
  | .iface _ d => uptoBulk d + 1
  | .map entries => uptoBulkEntries entries + 1
  | .held _ => 1
def uptoBulkAll {H : Type} : List (DataW H) → Nat
  | [] => 0
  | d :: r => uptoBulk d + uptoBulkAll r
def uptoBulkEntries {H : Type} : List (Lit × DataW H) → Nat
  | [] => 0
  | x :: r => uptoBulkEntry x + uptoBulkEntries r
def uptoBulkEntry {H : Type} : Lit × DataW H → Nat
  | (.string bytes, d) => bytes.length + uptoBulk d + 1
  | (_, d) => uptoBulk d + 1
 end
def uptoSmall : (H : Type) → List (DataW H) → Bool := fun _ ds => decide (uptoBulkAll ds ≤ 1048576)
def OpenSpec.upto (s : _root_.Go.ChangeSpec) : _root_.Go.OpenSpec := { _root_.Go.OpenSpec.ofChange s with cond := some uptoSmall }

/-- 'hogsheadlaw15.IndexTwice', WHERE WHAT IT READS IS OF BULK AT MOST 1048576: true; the input reads as it did. -/
def indexTwiceUptoRow : OpenClaim := { program := "ytajlkpogccbboaa", sum := "119d17f8d9743128b3996c70124d6cc2d3f1e76c96c0557d9a472faae45a3984", func := "hogshead/hogsheadlaw15.IndexTwice", spec := "indexTwice", inPlace := ["slices.overlaps[hogshead/api.Name]"], unfollowed := true, recurses := true, apart := false, narrowed := true }
def IndexTwiceUptoSaid : Prop := indexTwiceUptoRow.holds Try.pinned (OpenSpec.upto indexTwiceSpec)

/-- 'hogsheadlaw15.IndexNames', WHERE WHAT IT READS IS OF BULK AT MOST 1048576: true; the input reads as it did. -/
def indexNamesUptoRow : OpenClaim := { program := "ytajlkpogccbboaa", sum := "119d17f8d9743128b3996c70124d6cc2d3f1e76c96c0557d9a472faae45a3984", func := "hogshead/hogsheadlaw15.IndexNames", spec := "indexNames", inPlace := ["slices.overlaps[hogshead/api.Name]"], unfollowed := true, recurses := true, apart := false, narrowed := true }
def IndexNamesUptoSaid : Prop := indexNamesUptoRow.holds Try.pinned (OpenSpec.upto indexNamesSpec)

/-- 'hogsheadlaw15.IndexVols', WHERE WHAT IT READS IS OF BULK AT MOST 1048576: true; the input reads as it did. -/
def indexVolsUptoRow : OpenClaim := { program := "ytajlkpogccbboaa", sum := "119d17f8d9743128b3996c70124d6cc2d3f1e76c96c0557d9a472faae45a3984", func := "hogshead/hogsheadlaw15.IndexVols", spec := "indexVols", inPlace := ["slices.overlaps[hogshead/api.Name]"], unfollowed := true, recurses := true, apart := false, narrowed := true }
def IndexVolsUptoSaid : Prop := indexVolsUptoRow.holds Try.pinned (OpenSpec.upto indexVolsSpec)

/-- 'hogsheadlaw15.IndexRises', WHERE WHAT IT READS IS OF BULK AT MOST 1048576: true; the input reads as it did. -/
def indexRisesUptoRow : OpenClaim := { program := "ytajlkpogccbboaa", sum := "119d17f8d9743128b3996c70124d6cc2d3f1e76c96c0557d9a472faae45a3984", func := "hogshead/hogsheadlaw15.IndexRises", spec := "indexRises", inPlace := ["slices.overlaps[hogshead/api.Name]"], unfollowed := true, recurses := true, apart := false, narrowed := true }
def IndexRisesUptoSaid : Prop := indexRisesUptoRow.holds Try.pinned (OpenSpec.upto indexRisesSpec)

/-- 'hogsheadlaw15.IndexApart', WHERE WHAT IT READS IS OF BULK AT MOST 1048576: true; the input reads as it did. -/
def indexApartUptoRow : OpenClaim := { program := "ytajlkpogccbboaa", sum := "119d17f8d9743128b3996c70124d6cc2d3f1e76c96c0557d9a472faae45a3984", func := "hogshead/hogsheadlaw15.IndexApart", spec := "indexApart", inPlace := ["slices.overlaps[hogshead/api.Name]"], unfollowed := true, recurses := true, apart := false, narrowed := true }
def IndexApartUptoSaid : Prop := indexApartUptoRow.holds Try.pinned (OpenSpec.upto indexApartSpec)

/-- 'hogsheadlaw15.IndexFinds', WHERE WHAT IT READS IS OF BULK AT MOST 1048576: true; the input reads as it did. -/
def indexFindsUptoRow : OpenClaim := { program := "ytajlkpogccbboaa", sum := "119d17f8d9743128b3996c70124d6cc2d3f1e76c96c0557d9a472faae45a3984", func := "hogshead/hogsheadlaw15.IndexFinds", spec := "indexFinds", inPlace := ["slices.overlaps[hogshead/api.Name]"], unfollowed := true, recurses := true, apart := false, narrowed := true }
def IndexFindsUptoSaid : Prop := indexFindsUptoRow.holds Try.pinned (OpenSpec.upto indexFindsSpec)

end Rows
end Go.Proofs.Ytajlkpogccbboaa
