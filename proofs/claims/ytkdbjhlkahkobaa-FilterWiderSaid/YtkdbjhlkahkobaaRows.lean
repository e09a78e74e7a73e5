/-
  No cell of these rows narrows 'for every input' (looked for: loops, veiled, ifaces, maps, wideKeys, modest, calm, conditions, laid).
  DERIVED. THE GIVEN ROWS OF THIS SEAT. 18 by the template 'for every input the law returns true; each argument reads behind the call as it read before'; 0 by the template 'total and deterministic' (their statements: YtkdbjhlkahkobaaTotals.lean).
  GIVEN WITH THE SEED: the statements are not yours to turn. If you find one false, say at which input.
  Laid BY PROGRAM, IN A SANDBOX (cutbox-rows.mjs): the forced cells as the released guide's own fill.sh prints them over the translation 35301b4b4e506848… (all of the seat's roots in one cut). By AI agents, Wed Nov 11 2026. No macro, syntax, notation, axiom, sorry.
-/
import Derived.Test.YtkdbjhlkahkobaaChecked
import GoSem.Claim
import GoSem.ClaimJoined
import GoSem.ClaimMapViews
import Derived.JoinedTies
import Derived.KernelRfl
namespace Go.Proofs.Ytkdbjhlkahkobaa
/- THE CELL 'sum', in the pinned program and in every row, IS THE sha256 OF THE DUMP (.gsa) THAT YtkdbjhlkahkobaaProg.lean LOADS. Nothing in Lean hashes anything: it is a label: what it is worth is what the hold of that sum in a sandbox is worth. -/
noncomputable def Try.pinned : Pinned := { name := "ytkdbjhlkahkobaa", sum := "35301b4b4e5068485ae0dc07e728248603c753ada9d4a556179d0cc8e8a94383", checked := Try.checked }
namespace Rows
def none {H : Type} : Left H := { results := [], args := [] }

/-- 'jalousielaw14.VectorJoins': WHATEVER THE INPUT: true; the input reads as it did. -/
def vectorJoinsSpec : ChangeSpec := { name := "vectorJoins", fn := fun _ => fun
  | [d1, d2, d3] => { results := [.lit (.bool true)], args := [d1, d2, d3] }
  | _ => none }
def vectorJoinsRow : OpenClaim := { program := "ytkdbjhlkahkobaa", sum := "35301b4b4e5068485ae0dc07e728248603c753ada9d4a556179d0cc8e8a94383", func := "jalousie/jalousielaw14.VectorJoins", spec := "vectorJoins", unfollowed := true, recurses := true, plainKeys := false, apart := false }
def VectorJoinsSaid : Prop := vectorJoinsRow.holds Try.pinned (OpenSpec.ofChange vectorJoinsSpec)

/-- ITS FALSE NEIGHBOUR: 'it returns false'. Refute it at one input. -/
def vectorJoinsWrong : ChangeSpec := { name := "vectorJoins", fn := fun _ => fun
  | [d1, d2, d3] => { results := [.lit (.bool false)], args := [d1, d2, d3] }
  | _ => none }
def VectorJoinsWrongFalsely : Prop := vectorJoinsRow.holds Try.pinned (OpenSpec.ofChange vectorJoinsWrong)

/-- 'jalousielaw14.VectorReckons': WHATEVER THE INPUT: true; the input reads as it did. -/
def vectorReckonsSpec : ChangeSpec := { name := "vectorReckons", fn := fun _ => fun
  | [d1, d2] => { results := [.lit (.bool true)], args := [d1, d2] }
  | _ => none }
def vectorReckonsRow : OpenClaim := { program := "ytkdbjhlkahkobaa", sum := "35301b4b4e5068485ae0dc07e728248603c753ada9d4a556179d0cc8e8a94383", func := "jalousie/jalousielaw14.VectorReckons", spec := "vectorReckons", unfollowed := true, recurses := true, plainKeys := false, apart := false }
def VectorReckonsSaid : Prop := vectorReckonsRow.holds Try.pinned (OpenSpec.ofChange vectorReckonsSpec)

/-- ITS FALSE NEIGHBOUR: 'it returns false'. Refute it at one input. -/
def vectorReckonsWrong : ChangeSpec := { name := "vectorReckons", fn := fun _ => fun
  | [d1, d2] => { results := [.lit (.bool false)], args := [d1, d2] }
  | _ => none }
def VectorReckonsWrongFalsely : Prop := vectorReckonsRow.holds Try.pinned (OpenSpec.ofChange vectorReckonsWrong)

/-- 'jalousielaw18.ItemLater': WHATEVER THE INPUT: true; the input reads as it did. -/
def itemLaterSpec : ChangeSpec := { name := "itemLater", fn := fun _ => fun
  | [d1, d2, d3] => { results := [.lit (.bool true)], args := [d1, d2, d3] }
  | _ => none }
def itemLaterRow : OpenClaim := { program := "ytkdbjhlkahkobaa", sum := "35301b4b4e5068485ae0dc07e728248603c753ada9d4a556179d0cc8e8a94383", func := "jalousie/jalousielaw18.ItemLater", spec := "itemLater", plainKeys := false, apart := false }
def ItemLaterSaid : Prop := itemLaterRow.holds Try.pinned (OpenSpec.ofChange itemLaterSpec)

/-- ITS FALSE NEIGHBOUR: 'it returns false'. Refute it at one input. -/
def itemLaterWrong : ChangeSpec := { name := "itemLater", fn := fun _ => fun
  | [d1, d2, d3] => { results := [.lit (.bool false)], args := [d1, d2, d3] }
  | _ => none }
def ItemLaterWrongFalsely : Prop := itemLaterRow.holds Try.pinned (OpenSpec.ofChange itemLaterWrong)

/-- 'jalousielaw17.GroupKeeps': WHATEVER THE INPUT: true; the input reads as it did. -/
def groupKeepsSpec : ChangeSpec := { name := "groupKeeps", fn := fun _ => fun
  | [d] => { results := [.lit (.bool true)], args := [d] }
  | _ => none }
def groupKeepsRow : OpenClaim := { program := "ytkdbjhlkahkobaa", sum := "35301b4b4e5068485ae0dc07e728248603c753ada9d4a556179d0cc8e8a94383", func := "jalousie/jalousielaw17.GroupKeeps", spec := "groupKeeps", plainKeys := false, apart := false }
def GroupKeepsSaid : Prop := groupKeepsRow.holds Try.pinned (OpenSpec.ofChange groupKeepsSpec)

/-- ITS FALSE NEIGHBOUR: 'it returns false'. Refute it at one input. -/
def groupKeepsWrong : ChangeSpec := { name := "groupKeeps", fn := fun _ => fun
  | [d] => { results := [.lit (.bool false)], args := [d] }
  | _ => none }
def GroupKeepsWrongFalsely : Prop := groupKeepsRow.holds Try.pinned (OpenSpec.ofChange groupKeepsWrong)

/-- 'jalousielaw17.GroupCounts': WHATEVER THE INPUT: true; the input reads as it did. -/
def groupCountsSpec : ChangeSpec := { name := "groupCounts", fn := fun _ => fun
  | [d1, d2] => { results := [.lit (.bool true)], args := [d1, d2] }
  | _ => none }
def groupCountsRow : OpenClaim := { program := "ytkdbjhlkahkobaa", sum := "35301b4b4e5068485ae0dc07e728248603c753ada9d4a556179d0cc8e8a94383", func := "jalousie/jalousielaw17.GroupCounts", spec := "groupCounts", plainKeys := false, apart := false }
def GroupCountsSaid : Prop := groupCountsRow.holds Try.pinned (OpenSpec.ofChange groupCountsSpec)

/-- ITS FALSE NEIGHBOUR: 'it returns false'. Refute it at one input. -/
def groupCountsWrong : ChangeSpec := { name := "groupCounts", fn := fun _ => fun
  | [d1, d2] => { results := [.lit (.bool false)], args := [d1, d2] }
  | _ => none }
def GroupCountsWrongFalsely : Prop := groupCountsRow.holds Try.pinned (OpenSpec.ofChange groupCountsWrong)

/-- 'jalousielaw17.GroupOps': WHATEVER THE INPUT: true; the input reads as it did. -/
def groupOpsSpec : ChangeSpec := { name := "groupOps", fn := fun _ => fun
  | [d1, d2] => { results := [.lit (.bool true)], args := [d1, d2] }
  | _ => none }
def groupOpsRow : OpenClaim := { program := "ytkdbjhlkahkobaa", sum := "35301b4b4e5068485ae0dc07e728248603c753ada9d4a556179d0cc8e8a94383", func := "jalousie/jalousielaw17.GroupOps", spec := "groupOps", plainKeys := false, apart := false }
def GroupOpsSaid : Prop := groupOpsRow.holds Try.pinned (OpenSpec.ofChange groupOpsSpec)

/-- ITS FALSE NEIGHBOUR: 'it returns false'. Refute it at one input. -/
def groupOpsWrong : ChangeSpec := { name := "groupOps", fn := fun _ => fun
  | [d1, d2] => { results := [.lit (.bool false)], args := [d1, d2] }
  | _ => none }
def GroupOpsWrongFalsely : Prop := groupOpsRow.holds Try.pinned (OpenSpec.ofChange groupOpsWrong)

/-- 'jalousielaw14.VectorReady': WHATEVER THE INPUT: true; the input reads as it did. -/
def vectorReadySpec : ChangeSpec := { name := "vectorReady", fn := fun _ => fun
  | [d1, d2] => { results := [.lit (.bool true)], args := [d1, d2] }
  | _ => none }
def vectorReadyRow : OpenClaim := { program := "ytkdbjhlkahkobaa", sum := "35301b4b4e5068485ae0dc07e728248603c753ada9d4a556179d0cc8e8a94383", func := "jalousie/jalousielaw14.VectorReady", spec := "vectorReady", inPlace := ["internal/bytealg.Compare"], unfollowed := true, recurses := true, plainKeys := false, apart := false }
def VectorReadySaid : Prop := vectorReadyRow.holds Try.pinned (OpenSpec.ofChange vectorReadySpec)

/-- ITS FALSE NEIGHBOUR: 'it returns false'. Refute it at one input. -/
def vectorReadyWrong : ChangeSpec := { name := "vectorReady", fn := fun _ => fun
  | [d1, d2] => { results := [.lit (.bool false)], args := [d1, d2] }
  | _ => none }
def VectorReadyWrongFalsely : Prop := vectorReadyRow.holds Try.pinned (OpenSpec.ofChange vectorReadyWrong)

/-- 'jalousielaw17.GroupApplies': WHATEVER THE INPUT: true; the input reads as it did. -/
def groupAppliesSpec : ChangeSpec := { name := "groupApplies", fn := fun _ => fun
  | [d1, d2, d3] => { results := [.lit (.bool true)], args := [d1, d2, d3] }
  | _ => none }
def groupAppliesRow : OpenClaim := { program := "ytkdbjhlkahkobaa", sum := "35301b4b4e5068485ae0dc07e728248603c753ada9d4a556179d0cc8e8a94383", func := "jalousie/jalousielaw17.GroupApplies", spec := "groupApplies", inPlace := ["internal/bytealg.Compare"], plainKeys := false, apart := false }
def GroupAppliesSaid : Prop := groupAppliesRow.holds Try.pinned (OpenSpec.ofChange groupAppliesSpec)

/-- ITS FALSE NEIGHBOUR: 'it returns false'. Refute it at one input. -/
def groupAppliesWrong : ChangeSpec := { name := "groupApplies", fn := fun _ => fun
  | [d1, d2, d3] => { results := [.lit (.bool false)], args := [d1, d2, d3] }
  | _ => none }
def GroupAppliesWrongFalsely : Prop := groupAppliesRow.holds Try.pinned (OpenSpec.ofChange groupAppliesWrong)

/-- 'jalousielaw14.VectorSteps': WHATEVER THE INPUT: true; the input reads as it did. -/
def vectorStepsSpec : ChangeSpec := { name := "vectorSteps", fn := fun _ => fun
  | [d1, d2] => { results := [.lit (.bool true)], args := [d1, d2] }
  | _ => none }
def vectorStepsRow : OpenClaim := { program := "ytkdbjhlkahkobaa", sum := "35301b4b4e5068485ae0dc07e728248603c753ada9d4a556179d0cc8e8a94383", func := "jalousie/jalousielaw14.VectorSteps", spec := "vectorSteps", inPlace := ["internal/bytealg.Compare"], unfollowed := true, recurses := true, plainKeys := false, apart := false }
def VectorStepsSaid : Prop := vectorStepsRow.holds Try.pinned (OpenSpec.ofChange vectorStepsSpec)

/-- ITS FALSE NEIGHBOUR: 'it returns false'. Refute it at one input. -/
def vectorStepsWrong : ChangeSpec := { name := "vectorSteps", fn := fun _ => fun
  | [d1, d2] => { results := [.lit (.bool false)], args := [d1, d2] }
  | _ => none }
def VectorStepsWrongFalsely : Prop := vectorStepsRow.holds Try.pinned (OpenSpec.ofChange vectorStepsWrong)

/-- 'jalousielaw17.GroupFolds': WHATEVER THE INPUT: true; the input reads as it did. -/
def groupFoldsSpec : ChangeSpec := { name := "groupFolds", fn := fun _ => fun
  | [d1, d2] => { results := [.lit (.bool true)], args := [d1, d2] }
  | _ => none }
def groupFoldsRow : OpenClaim := { program := "ytkdbjhlkahkobaa", sum := "35301b4b4e5068485ae0dc07e728248603c753ada9d4a556179d0cc8e8a94383", func := "jalousie/jalousielaw17.GroupFolds", spec := "groupFolds", inPlace := ["internal/bytealg.Compare"], plainKeys := false, apart := false }
def GroupFoldsSaid : Prop := groupFoldsRow.holds Try.pinned (OpenSpec.ofChange groupFoldsSpec)

/-- ITS FALSE NEIGHBOUR: 'it returns false'. Refute it at one input. -/
def groupFoldsWrong : ChangeSpec := { name := "groupFolds", fn := fun _ => fun
  | [d1, d2] => { results := [.lit (.bool false)], args := [d1, d2] }
  | _ => none }
def GroupFoldsWrongFalsely : Prop := groupFoldsRow.holds Try.pinned (OpenSpec.ofChange groupFoldsWrong)

/-- 'jalousielaw14.VectorTurned': WHATEVER THE INPUT: true; the input reads as it did. -/
def vectorTurnedSpec : ChangeSpec := { name := "vectorTurned", fn := fun _ => fun
  | [d1, d2, d3] => { results := [.lit (.bool true)], args := [d1, d2, d3] }
  | _ => none }
def vectorTurnedRow : OpenClaim := { program := "ytkdbjhlkahkobaa", sum := "35301b4b4e5068485ae0dc07e728248603c753ada9d4a556179d0cc8e8a94383", func := "jalousie/jalousielaw14.VectorTurned", spec := "vectorTurned", inPlace := ["internal/bytealg.Compare"], unfollowed := true, recurses := true, plainKeys := false, apart := false }
def VectorTurnedSaid : Prop := vectorTurnedRow.holds Try.pinned (OpenSpec.ofChange vectorTurnedSpec)

/-- ITS FALSE NEIGHBOUR: 'it returns false'. Refute it at one input. -/
def vectorTurnedWrong : ChangeSpec := { name := "vectorTurned", fn := fun _ => fun
  | [d1, d2, d3] => { results := [.lit (.bool false)], args := [d1, d2, d3] }
  | _ => none }
def VectorTurnedWrongFalsely : Prop := vectorTurnedRow.holds Try.pinned (OpenSpec.ofChange vectorTurnedWrong)

/-- 'jalousielaw18.ItemMore': WHATEVER THE INPUT: true; the input reads as it did. -/
def itemMoreSpec : ChangeSpec := { name := "itemMore", fn := fun _ => fun
  | [d1, d2] => { results := [.lit (.bool true)], args := [d1, d2] }
  | _ => none }
def itemMoreRow : OpenClaim := { program := "ytkdbjhlkahkobaa", sum := "35301b4b4e5068485ae0dc07e728248603c753ada9d4a556179d0cc8e8a94383", func := "jalousie/jalousielaw18.ItemMore", spec := "itemMore", inPlace := ["internal/bytealg.Compare"], unfollowed := true, recurses := true, plainKeys := false, apart := false }
def ItemMoreSaid : Prop := itemMoreRow.holds Try.pinned (OpenSpec.ofChange itemMoreSpec)

/-- ITS FALSE NEIGHBOUR: 'it returns false'. Refute it at one input. -/
def itemMoreWrong : ChangeSpec := { name := "itemMore", fn := fun _ => fun
  | [d1, d2] => { results := [.lit (.bool false)], args := [d1, d2] }
  | _ => none }
def ItemMoreWrongFalsely : Prop := itemMoreRow.holds Try.pinned (OpenSpec.ofChange itemMoreWrong)

/-- 'jalousielaw18.ItemOf': WHATEVER THE INPUT: true; the input reads as it did. -/
def itemOfSpec : ChangeSpec := { name := "itemOf", fn := fun _ => fun
  | [d1, d2] => { results := [.lit (.bool true)], args := [d1, d2] }
  | _ => none }
def itemOfRow : OpenClaim := { program := "ytkdbjhlkahkobaa", sum := "35301b4b4e5068485ae0dc07e728248603c753ada9d4a556179d0cc8e8a94383", func := "jalousie/jalousielaw18.ItemOf", spec := "itemOf", inPlace := ["internal/bytealg.Compare"], unfollowed := true, recurses := true, plainKeys := false, apart := false }
def ItemOfSaid : Prop := itemOfRow.holds Try.pinned (OpenSpec.ofChange itemOfSpec)

/-- ITS FALSE NEIGHBOUR: 'it returns false'. Refute it at one input. -/
def itemOfWrong : ChangeSpec := { name := "itemOf", fn := fun _ => fun
  | [d1, d2] => { results := [.lit (.bool false)], args := [d1, d2] }
  | _ => none }
def ItemOfWrongFalsely : Prop := itemOfRow.holds Try.pinned (OpenSpec.ofChange itemOfWrong)

/-- 'jalousielaw18.ItemTwice': WHATEVER THE INPUT: true; the input reads as it did. -/
def itemTwiceSpec : ChangeSpec := { name := "itemTwice", fn := fun _ => fun
  | [d] => { results := [.lit (.bool true)], args := [d] }
  | _ => none }
def itemTwiceRow : OpenClaim := { program := "ytkdbjhlkahkobaa", sum := "35301b4b4e5068485ae0dc07e728248603c753ada9d4a556179d0cc8e8a94383", func := "jalousie/jalousielaw18.ItemTwice", spec := "itemTwice", inPlace := ["internal/bytealg.Compare"], unfollowed := true, recurses := true, plainKeys := false, apart := false }
def ItemTwiceSaid : Prop := itemTwiceRow.holds Try.pinned (OpenSpec.ofChange itemTwiceSpec)

/-- ITS FALSE NEIGHBOUR: 'it returns false'. Refute it at one input. -/
def itemTwiceWrong : ChangeSpec := { name := "itemTwice", fn := fun _ => fun
  | [d] => { results := [.lit (.bool false)], args := [d] }
  | _ => none }
def ItemTwiceWrongFalsely : Prop := itemTwiceRow.holds Try.pinned (OpenSpec.ofChange itemTwiceWrong)

/-- 'jalousielaw18.ItemTurned': WHATEVER THE INPUT: true; the input reads as it did. -/
def itemTurnedSpec : ChangeSpec := { name := "itemTurned", fn := fun _ => fun
  | [d1, d2] => { results := [.lit (.bool true)], args := [d1, d2] }
  | _ => none }
def itemTurnedRow : OpenClaim := { program := "ytkdbjhlkahkobaa", sum := "35301b4b4e5068485ae0dc07e728248603c753ada9d4a556179d0cc8e8a94383", func := "jalousie/jalousielaw18.ItemTurned", spec := "itemTurned", inPlace := ["internal/bytealg.Compare"], unfollowed := true, recurses := true, plainKeys := false, apart := false }
def ItemTurnedSaid : Prop := itemTurnedRow.holds Try.pinned (OpenSpec.ofChange itemTurnedSpec)

/-- ITS FALSE NEIGHBOUR: 'it returns false'. Refute it at one input. -/
def itemTurnedWrong : ChangeSpec := { name := "itemTurned", fn := fun _ => fun
  | [d1, d2] => { results := [.lit (.bool false)], args := [d1, d2] }
  | _ => none }
def ItemTurnedWrongFalsely : Prop := itemTurnedRow.holds Try.pinned (OpenSpec.ofChange itemTurnedWrong)

/-- 'jalousielaw19.FilterAll': WHATEVER THE INPUT: true; the input reads as it did. -/
def filterAllSpec : ChangeSpec := { name := "filterAll", fn := fun _ => fun
  | [d] => { results := [.lit (.bool true)], args := [d] }
  | _ => none }
def filterAllRow : OpenClaim := { program := "ytkdbjhlkahkobaa", sum := "35301b4b4e5068485ae0dc07e728248603c753ada9d4a556179d0cc8e8a94383", func := "jalousie/jalousielaw19.FilterAll", spec := "filterAll", inPlace := ["internal/bytealg.Compare"], unfollowed := true, recurses := true, plainKeys := false, apart := false }
def FilterAllSaid : Prop := filterAllRow.holds Try.pinned (OpenSpec.ofChange filterAllSpec)

/-- ITS FALSE NEIGHBOUR: 'it returns false'. Refute it at one input. -/
def filterAllWrong : ChangeSpec := { name := "filterAll", fn := fun _ => fun
  | [d] => { results := [.lit (.bool false)], args := [d] }
  | _ => none }
def FilterAllWrongFalsely : Prop := filterAllRow.holds Try.pinned (OpenSpec.ofChange filterAllWrong)

/-- 'jalousielaw19.FilterShown': WHATEVER THE INPUT: true; the input reads as it did. -/
def filterShownSpec : ChangeSpec := { name := "filterShown", fn := fun _ => fun
  | [d1, d2] => { results := [.lit (.bool true)], args := [d1, d2] }
  | _ => none }
def filterShownRow : OpenClaim := { program := "ytkdbjhlkahkobaa", sum := "35301b4b4e5068485ae0dc07e728248603c753ada9d4a556179d0cc8e8a94383", func := "jalousie/jalousielaw19.FilterShown", spec := "filterShown", inPlace := ["internal/bytealg.Compare"], unfollowed := true, recurses := true, plainKeys := false, apart := false }
def FilterShownSaid : Prop := filterShownRow.holds Try.pinned (OpenSpec.ofChange filterShownSpec)

/-- ITS FALSE NEIGHBOUR: 'it returns false'. Refute it at one input. -/
def filterShownWrong : ChangeSpec := { name := "filterShown", fn := fun _ => fun
  | [d1, d2] => { results := [.lit (.bool false)], args := [d1, d2] }
  | _ => none }
def FilterShownWrongFalsely : Prop := filterShownRow.holds Try.pinned (OpenSpec.ofChange filterShownWrong)

/-- 'jalousielaw19.FilterWider': WHATEVER THE INPUT: true; the input reads as it did. -/
def filterWiderSpec : ChangeSpec := { name := "filterWider", fn := fun _ => fun
  | [d1, d2, d3] => { results := [.lit (.bool true)], args := [d1, d2, d3] }
  | _ => none }
def filterWiderRow : OpenClaim := { program := "ytkdbjhlkahkobaa", sum := "35301b4b4e5068485ae0dc07e728248603c753ada9d4a556179d0cc8e8a94383", func := "jalousie/jalousielaw19.FilterWider", spec := "filterWider", inPlace := ["internal/bytealg.Compare"], unfollowed := true, recurses := true, plainKeys := false, apart := false }
def FilterWiderSaid : Prop := filterWiderRow.holds Try.pinned (OpenSpec.ofChange filterWiderSpec)

/-- ITS FALSE NEIGHBOUR: 'it returns false'. Refute it at one input. -/
def filterWiderWrong : ChangeSpec := { name := "filterWider", fn := fun _ => fun
  | [d1, d2, d3] => { results := [.lit (.bool false)], args := [d1, d2, d3] }
  | _ => none }
def FilterWiderWrongFalsely : Prop := filterWiderRow.holds Try.pinned (OpenSpec.ofChange filterWiderWrong)

/- THE SECOND FORM. 'bulk': how many values and letters a reading holds, each counted each time it is reached (what is shared counts as often as it is met; a slice's spare places count too). A statement '..UptoSaid' is the law's where the arguments, and the package variables that the reading takes, are together of bulk at most 1048576: NARROWER than '..Said'. Prove '..Said' where nothing that the law and all that it calls make is longer than what came in: it says more and counts as full. Else prove '..UptoSaid'. A law counts once. -/
mutual
def uptoBulk {H : Type} : DataW H → Nat
  | .lit (.string bytes) => bytes.length + 1
  | .lit _ => 1
  | .nil => 1
  | .ptr d => uptoBulk d + 1
  | .slice elems spare => uptoBulkAll elems + uptoBulkAll spare + 1
  | .agg parts => uptoBulkAll parts + 1
  | .iface _ d => uptoBulk d + 1
  | .map entries => uptoBulkEntries entries + 1
  | .held _ => 1
def uptoBulkAll {H : Type} : List (DataW H) → Nat
  | [] => 0
  | d :: r => uptoBulk d + uptoBulkAll r
def uptoBulkEntries {H : Type} : List (Lit × DataW H) → Nat
  | [] => 0
  | x :: r => uptoBulkEntry x + uptoBulkEntries r
def uptoBulkEntry {H : Type} : Lit × DataW H → Nat
  | (.string bytes, d) => bytes.length + uptoBulk d + 1
  | (_, d) => uptoBulk d + 1
 end
def uptoSmall : (H : Type) → List (DataW H) → Bool := fun _ ds => decide (uptoBulkAll ds ≤ 1048576)
def OpenSpec.upto (s : _root_.Go.ChangeSpec) : _root_.Go.OpenSpec := { _root_.Go.OpenSpec.ofChange s with cond := some uptoSmall }

/-- 'jalousielaw14.VectorJoins', WHERE WHAT IT READS IS OF BULK AT MOST 1048576: true; the input reads as it did. -/
def vectorJoinsUptoRow : OpenClaim := { program := "ytkdbjhlkahkobaa", sum := "35301b4b4e5068485ae0dc07e728248603c753ada9d4a556179d0cc8e8a94383", func := "jalousie/jalousielaw14.VectorJoins", spec := "vectorJoins", unfollowed := true, recurses := true, plainKeys := false, apart := false, narrowed := true }
def VectorJoinsUptoSaid : Prop := vectorJoinsUptoRow.holds Try.pinned (OpenSpec.upto vectorJoinsSpec)

/-- 'jalousielaw14.VectorReckons', WHERE WHAT IT READS IS OF BULK AT MOST 1048576: true; the input reads as it did. -/
def vectorReckonsUptoRow : OpenClaim := { program := "ytkdbjhlkahkobaa", sum := "35301b4b4e5068485ae0dc07e728248603c753ada9d4a556179d0cc8e8a94383", func := "jalousie/jalousielaw14.VectorReckons", spec := "vectorReckons", unfollowed := true, recurses := true, plainKeys := false, apart := false, narrowed := true }
def VectorReckonsUptoSaid : Prop := vectorReckonsUptoRow.holds Try.pinned (OpenSpec.upto vectorReckonsSpec)

/-- 'jalousielaw18.ItemLater', WHERE WHAT IT READS IS OF BULK AT MOST 1048576: true; the input reads as it did. -/
def itemLaterUptoRow : OpenClaim := { program := "ytkdbjhlkahkobaa", sum := "35301b4b4e5068485ae0dc07e728248603c753ada9d4a556179d0cc8e8a94383", func := "jalousie/jalousielaw18.ItemLater", spec := "itemLater", plainKeys := false, apart := false, narrowed := true }
def ItemLaterUptoSaid : Prop := itemLaterUptoRow.holds Try.pinned (OpenSpec.upto itemLaterSpec)

/-- 'jalousielaw17.GroupKeeps', WHERE WHAT IT READS IS OF BULK AT MOST 1048576: true; the input reads as it did. -/
def groupKeepsUptoRow : OpenClaim := { program := "ytkdbjhlkahkobaa", sum := "35301b4b4e5068485ae0dc07e728248603c753ada9d4a556179d0cc8e8a94383", func := "jalousie/jalousielaw17.GroupKeeps", spec := "groupKeeps", plainKeys := false, apart := false, narrowed := true }
def GroupKeepsUptoSaid : Prop := groupKeepsUptoRow.holds Try.pinned (OpenSpec.upto groupKeepsSpec)

/-- 'jalousielaw17.GroupCounts', WHERE WHAT IT READS IS OF BULK AT MOST 1048576: true; the input reads as it did. -/
def groupCountsUptoRow : OpenClaim := { program := "ytkdbjhlkahkobaa", sum := "35301b4b4e5068485ae0dc07e728248603c753ada9d4a556179d0cc8e8a94383", func := "jalousie/jalousielaw17.GroupCounts", spec := "groupCounts", plainKeys := false, apart := false, narrowed := true }
def GroupCountsUptoSaid : Prop := groupCountsUptoRow.holds Try.pinned (OpenSpec.upto groupCountsSpec)

/-- 'jalousielaw17.GroupOps', WHERE WHAT IT READS IS OF BULK AT MOST 1048576: true; the input reads as it did. -/
def groupOpsUptoRow : OpenClaim := { program := "ytkdbjhlkahkobaa", sum := "35301b4b4e5068485ae0dc07e728248603c753ada9d4a556179d0cc8e8a94383", func := "jalousie/jalousielaw17.GroupOps", spec := "groupOps", plainKeys := false, apart := false, narrowed := true }
def GroupOpsUptoSaid : Prop := groupOpsUptoRow.holds Try.pinned (OpenSpec.upto groupOpsSpec)

/-- 'jalousielaw14.VectorReady', WHERE WHAT IT READS IS OF BULK AT MOST 1048576: true; the input reads as it did. -/
def vectorReadyUptoRow : OpenClaim := { program := "ytkdbjhlkahkobaa", sum := "35301b4b4e5068485ae0dc07e728248603c753ada9d4a556179d0cc8e8a94383", func := "jalousie/jalousielaw14.VectorReady", spec := "vectorReady", inPlace := ["internal/bytealg.Compare"], unfollowed := true, recurses := true, plainKeys := false, apart := false, narrowed := true }
def VectorReadyUptoSaid : Prop := vectorReadyUptoRow.holds Try.pinned (OpenSpec.upto vectorReadySpec)

/-- 'jalousielaw17.GroupApplies', WHERE WHAT IT READS IS OF BULK AT MOST 1048576: true; the input reads as it did. -/
def groupAppliesUptoRow : OpenClaim := { program := "ytkdbjhlkahkobaa", sum := "35301b4b4e5068485ae0dc07e728248603c753ada9d4a556179d0cc8e8a94383", func := "jalousie/jalousielaw17.GroupApplies", spec := "groupApplies", inPlace := ["internal/bytealg.Compare"], plainKeys := false, apart := false, narrowed := true }
def GroupAppliesUptoSaid : Prop := groupAppliesUptoRow.holds Try.pinned (OpenSpec.upto groupAppliesSpec)

/-- 'jalousielaw14.VectorSteps', WHERE WHAT IT READS IS OF BULK AT MOST 1048576: true; the input reads as it did. -/
def vectorStepsUptoRow : OpenClaim := { program := "ytkdbjhlkahkobaa", sum := "35301b4b4e5068485ae0dc07e728248603c753ada9d4a556179d0cc8e8a94383", func := "jalousie/jalousielaw14.VectorSteps", spec := "vectorSteps", inPlace := ["internal/bytealg.Compare"], unfollowed := true, recurses := true, plainKeys := false, apart := false, narrowed := true }
def VectorStepsUptoSaid : Prop := vectorStepsUptoRow.holds Try.pinned (OpenSpec.upto vectorStepsSpec)

/-- 'jalousielaw17.GroupFolds', WHERE WHAT IT READS IS OF BULK AT MOST 1048576: true; the input reads as it did. -/
def groupFoldsUptoRow : OpenClaim := { program := "ytkdbjhlkahkobaa", sum := "35301b4b4e5068485ae0dc07e728248603c753ada9d4a556179d0cc8e8a94383", func := "jalousie/jalousielaw17.GroupFolds", spec := "groupFolds", inPlace := ["internal/bytealg.Compare"], plainKeys := false, apart := false, narrowed := true }
def GroupFoldsUptoSaid : Prop := groupFoldsUptoRow.holds Try.pinned (OpenSpec.upto groupFoldsSpec)

/-- 'jalousielaw14.VectorTurned', WHERE WHAT IT READS IS OF BULK AT MOST 1048576: true; the input reads as it did. -/
def vectorTurnedUptoRow : OpenClaim := { program := "ytkdbjhlkahkobaa", sum := "35301b4b4e5068485ae0dc07e728248603c753ada9d4a556179d0cc8e8a94383", func := "jalousie/jalousielaw14.VectorTurned", spec := "vectorTurned", inPlace := ["internal/bytealg.Compare"], unfollowed := true, recurses := true, plainKeys := false, apart := false, narrowed := true }
def VectorTurnedUptoSaid : Prop := vectorTurnedUptoRow.holds Try.pinned (OpenSpec.upto vectorTurnedSpec)

/-- 'jalousielaw18.ItemMore', WHERE WHAT IT READS IS OF BULK AT MOST 1048576: true; the input reads as it did. -/
def itemMoreUptoRow : OpenClaim := { program := "ytkdbjhlkahkobaa", sum := "35301b4b4e5068485ae0dc07e728248603c753ada9d4a556179d0cc8e8a94383", func := "jalousie/jalousielaw18.ItemMore", spec := "itemMore", inPlace := ["internal/bytealg.Compare"], unfollowed := true, recurses := true, plainKeys := false, apart := false, narrowed := true }
def ItemMoreUptoSaid : Prop := itemMoreUptoRow.holds Try.pinned (OpenSpec.upto itemMoreSpec)

/-- 'jalousielaw18.ItemOf', WHERE WHAT IT READS IS OF BULK AT MOST 1048576: true; the input reads as it did. -/
def itemOfUptoRow : OpenClaim := { program := "ytkdbjhlkahkobaa", sum := "35301b4b4e5068485ae0dc07e728248603c753ada9d4a556179d0cc8e8a94383", func := "jalousie/jalousielaw18.ItemOf", spec := "itemOf", inPlace := ["internal/bytealg.Compare"], unfollowed := true, recurses := true, plainKeys := false, apart := false, narrowed := true }
def ItemOfUptoSaid : Prop := itemOfUptoRow.holds Try.pinned (OpenSpec.upto itemOfSpec)

/-- 'jalousielaw18.ItemTwice', WHERE WHAT IT READS IS OF BULK AT MOST 1048576: true; the input reads as it did. -/
def itemTwiceUptoRow : OpenClaim := { program := "ytkdbjhlkahkobaa", sum := "35301b4b4e5068485ae0dc07e728248603c753ada9d4a556179d0cc8e8a94383", func := "jalousie/jalousielaw18.ItemTwice", spec := "itemTwice", inPlace := ["internal/bytealg.Compare"], unfollowed := true, recurses := true, plainKeys := false, apart := false, narrowed := true }
def ItemTwiceUptoSaid : Prop := itemTwiceUptoRow.holds Try.pinned (OpenSpec.upto itemTwiceSpec)

/-- 'jalousielaw18.ItemTurned', WHERE WHAT IT READS IS OF BULK AT MOST 1048576: true; the input reads as it did. -/
def itemTurnedUptoRow : OpenClaim := { program := "ytkdbjhlkahkobaa", sum := "35301b4b4e5068485ae0dc07e728248603c753ada9d4a556179d0cc8e8a94383", func := "jalousie/jalousielaw18.ItemTurned", spec := "itemTurned", inPlace := ["internal/bytealg.Compare"], unfollowed := true, recurses := true, plainKeys := false, apart := false, narrowed := true }
def ItemTurnedUptoSaid : Prop := itemTurnedUptoRow.holds Try.pinned (OpenSpec.upto itemTurnedSpec)

/-- 'jalousielaw19.FilterAll', WHERE WHAT IT READS IS OF BULK AT MOST 1048576: true; the input reads as it did. -/
def filterAllUptoRow : OpenClaim := { program := "ytkdbjhlkahkobaa", sum := "35301b4b4e5068485ae0dc07e728248603c753ada9d4a556179d0cc8e8a94383", func := "jalousie/jalousielaw19.FilterAll", spec := "filterAll", inPlace := ["internal/bytealg.Compare"], unfollowed := true, recurses := true, plainKeys := false, apart := false, narrowed := true }
def FilterAllUptoSaid : Prop := filterAllUptoRow.holds Try.pinned (OpenSpec.upto filterAllSpec)

/-- 'jalousielaw19.FilterShown', WHERE WHAT IT READS IS OF BULK AT MOST 1048576: true; the input reads as it did. -/
def filterShownUptoRow : OpenClaim := { program := "ytkdbjhlkahkobaa", sum := "35301b4b4e5068485ae0dc07e728248603c753ada9d4a556179d0cc8e8a94383", func := "jalousie/jalousielaw19.FilterShown", spec := "filterShown", inPlace := ["internal/bytealg.Compare"], unfollowed := true, recurses := true, plainKeys := false, apart := false, narrowed := true }
def FilterShownUptoSaid : Prop := filterShownUptoRow.holds Try.pinned (OpenSpec.upto filterShownSpec)

/-- 'jalousielaw19.FilterWider', WHERE WHAT IT READS IS OF BULK AT MOST 1048576: true; the input reads as it did. -/
def filterWiderUptoRow : OpenClaim := { program := "ytkdbjhlkahkobaa", sum := "35301b4b4e5068485ae0dc07e728248603c753ada9d4a556179d0cc8e8a94383", func := "jalousie/jalousielaw19.FilterWider", spec := "filterWider", inPlace := ["internal/bytealg.Compare"], unfollowed := true, recurses := true, plainKeys := false, apart := false, narrowed := true }
def FilterWiderUptoSaid : Prop := filterWiderUptoRow.holds Try.pinned (OpenSpec.upto filterWiderSpec)

end Rows
end Go.Proofs.Ytkdbjhlkahkobaa
