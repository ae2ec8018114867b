/-
  No cell of these rows narrows 'for every input' (looked for: loops, veiled, ifaces, maps, wideKeys, modest, calm, conditions, laid).
  DERIVED. THE GIVEN ROWS OF THIS SEAT. 15 by the template 'for every input the law returns true; each argument reads behind the call as it read before'; 0 by the template 'total and deterministic' (their statements: YteoijnaljkagfaaTotals.lean).
  GIVEN WITH THE SEED: the statements are not yours to turn. If you find one false, say at which input.
  Laid BY PROGRAM, IN A SANDBOX (cutbox-rows.mjs): the forced cells as the released guide's own fill.sh prints them over the translation 833ad4468851392e… (all of the seat's roots in one cut). By AI agents, Wed Nov 11 2026. No macro, syntax, notation, axiom, sorry.
-/
import Derived.Test.YteoijnaljkagfaaChecked
import GoSem.Claim
import GoSem.ClaimJoined
import GoSem.ClaimMapViews
import Derived.JoinedTies
import Derived.KernelRfl
namespace Go.Proofs.Yteoijnaljkagfaa
/- THE CELL 'sum', in the pinned program and in every row, IS THE sha256 OF THE DUMP (.gsa) THAT YteoijnaljkagfaaProg.lean LOADS. Nothing in Lean hashes anything: it is a label: what it is worth is what the hold of that sum in a sandbox is worth. -/
noncomputable def Try.pinned : Pinned := { name := "yteoijnaljkagfaa", sum := "833ad4468851392e5209f8f9a94c62db9182472ab9ba86ef6f84d40ecdffb204", checked := Try.checked }
namespace Rows
def none {H : Type} : Left H := { results := [], args := [] }

/-- 'lidarlaw01.ExactTurns': WHATEVER THE INPUT: true; the input reads as it did. -/
def exactTurnsSpec : ChangeSpec := { name := "exactTurns", fn := fun _ => fun
  | [d1, d2, d3] => { results := [.lit (.bool true)], args := [d1, d2, d3] }
  | _ => none }
def exactTurnsRow : OpenClaim := { program := "yteoijnaljkagfaa", sum := "833ad4468851392e5209f8f9a94c62db9182472ab9ba86ef6f84d40ecdffb204", func := "lidar/lidarlaw01.ExactTurns", spec := "exactTurns", apart := false }
def ExactTurnsSaid : Prop := exactTurnsRow.holds Try.pinned (OpenSpec.ofChange exactTurnsSpec)

/-- ITS FALSE NEIGHBOUR: 'it returns false'. Refute it at one input. -/
def exactTurnsWrong : ChangeSpec := { name := "exactTurns", fn := fun _ => fun
  | [d1, d2, d3] => { results := [.lit (.bool false)], args := [d1, d2, d3] }
  | _ => none }
def ExactTurnsWrongFalsely : Prop := exactTurnsRow.holds Try.pinned (OpenSpec.ofChange exactTurnsWrong)

/-- 'lidarlaw01.ExactRatios': WHATEVER THE INPUT: true; the input reads as it did. -/
def exactRatiosSpec : ChangeSpec := { name := "exactRatios", fn := fun _ => fun
  | [d1, d2] => { results := [.lit (.bool true)], args := [d1, d2] }
  | _ => none }
def exactRatiosRow : OpenClaim := { program := "yteoijnaljkagfaa", sum := "833ad4468851392e5209f8f9a94c62db9182472ab9ba86ef6f84d40ecdffb204", func := "lidar/lidarlaw01.ExactRatios", spec := "exactRatios", apart := false }
def ExactRatiosSaid : Prop := exactRatiosRow.holds Try.pinned (OpenSpec.ofChange exactRatiosSpec)

/-- ITS FALSE NEIGHBOUR: 'it returns false'. Refute it at one input. -/
def exactRatiosWrong : ChangeSpec := { name := "exactRatios", fn := fun _ => fun
  | [d1, d2] => { results := [.lit (.bool false)], args := [d1, d2] }
  | _ => none }
def ExactRatiosWrongFalsely : Prop := exactRatiosRow.holds Try.pinned (OpenSpec.ofChange exactRatiosWrong)

/-- 'lidarlaw01.ExactRounds': WHATEVER THE INPUT: true; the input reads as it did. -/
def exactRoundsSpec : ChangeSpec := { name := "exactRounds", fn := fun _ => fun
  | [d] => { results := [.lit (.bool true)], args := [d] }
  | _ => none }
def exactRoundsRow : OpenClaim := { program := "yteoijnaljkagfaa", sum := "833ad4468851392e5209f8f9a94c62db9182472ab9ba86ef6f84d40ecdffb204", func := "lidar/lidarlaw01.ExactRounds", spec := "exactRounds", apart := false }
def ExactRoundsSaid : Prop := exactRoundsRow.holds Try.pinned (OpenSpec.ofChange exactRoundsSpec)

/-- ITS FALSE NEIGHBOUR: 'it returns false'. Refute it at one input. -/
def exactRoundsWrong : ChangeSpec := { name := "exactRounds", fn := fun _ => fun
  | [d] => { results := [.lit (.bool false)], args := [d] }
  | _ => none }
def ExactRoundsWrongFalsely : Prop := exactRoundsRow.holds Try.pinned (OpenSpec.ofChange exactRoundsWrong)

/-- 'lidarlaw01.ExactRoots': WHATEVER THE INPUT: true; the input reads as it did. -/
def exactRootsSpec : ChangeSpec := { name := "exactRoots", fn := fun _ => fun
  | [d] => { results := [.lit (.bool true)], args := [d] }
  | _ => none }
def exactRootsRow : OpenClaim := { program := "yteoijnaljkagfaa", sum := "833ad4468851392e5209f8f9a94c62db9182472ab9ba86ef6f84d40ecdffb204", func := "lidar/lidarlaw01.ExactRoots", spec := "exactRoots", apart := false }
def ExactRootsSaid : Prop := exactRootsRow.holds Try.pinned (OpenSpec.ofChange exactRootsSpec)

/-- ITS FALSE NEIGHBOUR: 'it returns false'. Refute it at one input. -/
def exactRootsWrong : ChangeSpec := { name := "exactRoots", fn := fun _ => fun
  | [d] => { results := [.lit (.bool false)], args := [d] }
  | _ => none }
def ExactRootsWrongFalsely : Prop := exactRootsRow.holds Try.pinned (OpenSpec.ofChange exactRootsWrong)

/-- 'lidarlaw01.ExactCanon': WHATEVER THE INPUT: true; the input reads as it did. -/
def exactCanonSpec : ChangeSpec := { name := "exactCanon", fn := fun _ => fun
  | [d] => { results := [.lit (.bool true)], args := [d] }
  | _ => none }
def exactCanonRow : OpenClaim := { program := "yteoijnaljkagfaa", sum := "833ad4468851392e5209f8f9a94c62db9182472ab9ba86ef6f84d40ecdffb204", func := "lidar/lidarlaw01.ExactCanon", spec := "exactCanon", apart := false }
def ExactCanonSaid : Prop := exactCanonRow.holds Try.pinned (OpenSpec.ofChange exactCanonSpec)

/-- ITS FALSE NEIGHBOUR: 'it returns false'. Refute it at one input. -/
def exactCanonWrong : ChangeSpec := { name := "exactCanon", fn := fun _ => fun
  | [d] => { results := [.lit (.bool false)], args := [d] }
  | _ => none }
def ExactCanonWrongFalsely : Prop := exactCanonRow.holds Try.pinned (OpenSpec.ofChange exactCanonWrong)

/-- 'lidarlaw01.ExactMeets': WHATEVER THE INPUT: true; the input reads as it did. -/
def exactMeetsSpec : ChangeSpec := { name := "exactMeets", fn := fun _ => fun
  | [d1, d2] => { results := [.lit (.bool true)], args := [d1, d2] }
  | _ => none }
def exactMeetsRow : OpenClaim := { program := "yteoijnaljkagfaa", sum := "833ad4468851392e5209f8f9a94c62db9182472ab9ba86ef6f84d40ecdffb204", func := "lidar/lidarlaw01.ExactMeets", spec := "exactMeets", apart := false }
def ExactMeetsSaid : Prop := exactMeetsRow.holds Try.pinned (OpenSpec.ofChange exactMeetsSpec)

/-- ITS FALSE NEIGHBOUR: 'it returns false'. Refute it at one input. -/
def exactMeetsWrong : ChangeSpec := { name := "exactMeets", fn := fun _ => fun
  | [d1, d2] => { results := [.lit (.bool false)], args := [d1, d2] }
  | _ => none }
def ExactMeetsWrongFalsely : Prop := exactMeetsRow.holds Try.pinned (OpenSpec.ofChange exactMeetsWrong)

/-- 'lidarlaw01.ExactCircles': WHATEVER THE INPUT: true; the input reads as it did. -/
def exactCirclesSpec : ChangeSpec := { name := "exactCircles", fn := fun _ => fun
  | [d] => { results := [.lit (.bool true)], args := [d] }
  | _ => none }
def exactCirclesRow : OpenClaim := { program := "yteoijnaljkagfaa", sum := "833ad4468851392e5209f8f9a94c62db9182472ab9ba86ef6f84d40ecdffb204", func := "lidar/lidarlaw01.ExactCircles", spec := "exactCircles", apart := false }
def ExactCirclesSaid : Prop := exactCirclesRow.holds Try.pinned (OpenSpec.ofChange exactCirclesSpec)

/-- ITS FALSE NEIGHBOUR: 'it returns false'. Refute it at one input. -/
def exactCirclesWrong : ChangeSpec := { name := "exactCircles", fn := fun _ => fun
  | [d] => { results := [.lit (.bool false)], args := [d] }
  | _ => none }
def ExactCirclesWrongFalsely : Prop := exactCirclesRow.holds Try.pinned (OpenSpec.ofChange exactCirclesWrong)

/-- 'lidarlaw01.ExactPlanes': WHATEVER THE INPUT: true; the input reads as it did. -/
def exactPlanesSpec : ChangeSpec := { name := "exactPlanes", fn := fun _ => fun
  | [d] => { results := [.lit (.bool true)], args := [d] }
  | _ => none }
def exactPlanesRow : OpenClaim := { program := "yteoijnaljkagfaa", sum := "833ad4468851392e5209f8f9a94c62db9182472ab9ba86ef6f84d40ecdffb204", func := "lidar/lidarlaw01.ExactPlanes", spec := "exactPlanes", apart := false }
def ExactPlanesSaid : Prop := exactPlanesRow.holds Try.pinned (OpenSpec.ofChange exactPlanesSpec)

/-- ITS FALSE NEIGHBOUR: 'it returns false'. Refute it at one input. -/
def exactPlanesWrong : ChangeSpec := { name := "exactPlanes", fn := fun _ => fun
  | [d] => { results := [.lit (.bool false)], args := [d] }
  | _ => none }
def ExactPlanesWrongFalsely : Prop := exactPlanesRow.holds Try.pinned (OpenSpec.ofChange exactPlanesWrong)

/-- 'lidarlaw01.ExactCorners': WHATEVER THE INPUT: true; the input reads as it did. -/
def exactCornersSpec : ChangeSpec := { name := "exactCorners", fn := fun _ => fun
  | [d1, d2, d3] => { results := [.lit (.bool true)], args := [d1, d2, d3] }
  | _ => none }
def exactCornersRow : OpenClaim := { program := "yteoijnaljkagfaa", sum := "833ad4468851392e5209f8f9a94c62db9182472ab9ba86ef6f84d40ecdffb204", func := "lidar/lidarlaw01.ExactCorners", spec := "exactCorners", apart := false }
def ExactCornersSaid : Prop := exactCornersRow.holds Try.pinned (OpenSpec.ofChange exactCornersSpec)

/-- ITS FALSE NEIGHBOUR: 'it returns false'. Refute it at one input. -/
def exactCornersWrong : ChangeSpec := { name := "exactCorners", fn := fun _ => fun
  | [d1, d2, d3] => { results := [.lit (.bool false)], args := [d1, d2, d3] }
  | _ => none }
def ExactCornersWrongFalsely : Prop := exactCornersRow.holds Try.pinned (OpenSpec.ofChange exactCornersWrong)

/-- 'lidarlaw01.ExactOrder': WHATEVER THE INPUT: true; the input reads as it did. -/
def exactOrderSpec : ChangeSpec := { name := "exactOrder", fn := fun _ => fun
  | [d1, d2] => { results := [.lit (.bool true)], args := [d1, d2] }
  | _ => none }
def exactOrderRow : OpenClaim := { program := "yteoijnaljkagfaa", sum := "833ad4468851392e5209f8f9a94c62db9182472ab9ba86ef6f84d40ecdffb204", func := "lidar/lidarlaw01.ExactOrder", spec := "exactOrder", apart := false }
def ExactOrderSaid : Prop := exactOrderRow.holds Try.pinned (OpenSpec.ofChange exactOrderSpec)

/-- ITS FALSE NEIGHBOUR: 'it returns false'. Refute it at one input. -/
def exactOrderWrong : ChangeSpec := { name := "exactOrder", fn := fun _ => fun
  | [d1, d2] => { results := [.lit (.bool false)], args := [d1, d2] }
  | _ => none }
def ExactOrderWrongFalsely : Prop := exactOrderRow.holds Try.pinned (OpenSpec.ofChange exactOrderWrong)

/-- 'lidarlaw01.ExactContains': WHATEVER THE INPUT: true; the input reads as it did. -/
def exactContainsSpec : ChangeSpec := { name := "exactContains", fn := fun _ => fun
  | [d] => { results := [.lit (.bool true)], args := [d] }
  | _ => none }
def exactContainsRow : OpenClaim := { program := "yteoijnaljkagfaa", sum := "833ad4468851392e5209f8f9a94c62db9182472ab9ba86ef6f84d40ecdffb204", func := "lidar/lidarlaw01.ExactContains", spec := "exactContains", apart := false }
def ExactContainsSaid : Prop := exactContainsRow.holds Try.pinned (OpenSpec.ofChange exactContainsSpec)

/-- ITS FALSE NEIGHBOUR: 'it returns false'. Refute it at one input. -/
def exactContainsWrong : ChangeSpec := { name := "exactContains", fn := fun _ => fun
  | [d] => { results := [.lit (.bool false)], args := [d] }
  | _ => none }
def ExactContainsWrongFalsely : Prop := exactContainsRow.holds Try.pinned (OpenSpec.ofChange exactContainsWrong)

/-- 'lidarlaw01.ExactOperates': WHATEVER THE INPUT: true; the input reads as it did. -/
def exactOperatesSpec : ChangeSpec := { name := "exactOperates", fn := fun _ => fun
  | [d1, d2] => { results := [.lit (.bool true)], args := [d1, d2] }
  | _ => none }
def exactOperatesRow : OpenClaim := { program := "yteoijnaljkagfaa", sum := "833ad4468851392e5209f8f9a94c62db9182472ab9ba86ef6f84d40ecdffb204", func := "lidar/lidarlaw01.ExactOperates", spec := "exactOperates", apart := false }
def ExactOperatesSaid : Prop := exactOperatesRow.holds Try.pinned (OpenSpec.ofChange exactOperatesSpec)

/-- ITS FALSE NEIGHBOUR: 'it returns false'. Refute it at one input. -/
def exactOperatesWrong : ChangeSpec := { name := "exactOperates", fn := fun _ => fun
  | [d1, d2] => { results := [.lit (.bool false)], args := [d1, d2] }
  | _ => none }
def ExactOperatesWrongFalsely : Prop := exactOperatesRow.holds Try.pinned (OpenSpec.ofChange exactOperatesWrong)

/-- 'lidarlaw01.ExactCovers': WHATEVER THE INPUT: true; the input reads as it did. -/
def exactCoversSpec : ChangeSpec := { name := "exactCovers", fn := fun _ => fun
  | [d] => { results := [.lit (.bool true)], args := [d] }
  | _ => none }
def exactCoversRow : OpenClaim := { program := "yteoijnaljkagfaa", sum := "833ad4468851392e5209f8f9a94c62db9182472ab9ba86ef6f84d40ecdffb204", func := "lidar/lidarlaw01.ExactCovers", spec := "exactCovers", apart := false }
def ExactCoversSaid : Prop := exactCoversRow.holds Try.pinned (OpenSpec.ofChange exactCoversSpec)

/-- ITS FALSE NEIGHBOUR: 'it returns false'. Refute it at one input. -/
def exactCoversWrong : ChangeSpec := { name := "exactCovers", fn := fun _ => fun
  | [d] => { results := [.lit (.bool false)], args := [d] }
  | _ => none }
def ExactCoversWrongFalsely : Prop := exactCoversRow.holds Try.pinned (OpenSpec.ofChange exactCoversWrong)

/-- 'lidarlaw01.ExactField': WHATEVER THE INPUT: true; the input reads as it did. -/
def exactFieldSpec : ChangeSpec := { name := "exactField", fn := fun _ => fun
  | [d1, d2, d3] => { results := [.lit (.bool true)], args := [d1, d2, d3] }
  | _ => none }
def exactFieldRow : OpenClaim := { program := "yteoijnaljkagfaa", sum := "833ad4468851392e5209f8f9a94c62db9182472ab9ba86ef6f84d40ecdffb204", func := "lidar/lidarlaw01.ExactField", spec := "exactField", apart := false }
def ExactFieldSaid : Prop := exactFieldRow.holds Try.pinned (OpenSpec.ofChange exactFieldSpec)

/-- ITS FALSE NEIGHBOUR: 'it returns false'. Refute it at one input. -/
def exactFieldWrong : ChangeSpec := { name := "exactField", fn := fun _ => fun
  | [d1, d2, d3] => { results := [.lit (.bool false)], args := [d1, d2, d3] }
  | _ => none }
def ExactFieldWrongFalsely : Prop := exactFieldRow.holds Try.pinned (OpenSpec.ofChange exactFieldWrong)

/-- 'lidarlaw01.ExactSpans': WHATEVER THE INPUT: true; the input reads as it did. -/
def exactSpansSpec : ChangeSpec := { name := "exactSpans", fn := fun _ => fun
  | [d1, d2] => { results := [.lit (.bool true)], args := [d1, d2] }
  | _ => none }
def exactSpansRow : OpenClaim := { program := "yteoijnaljkagfaa", sum := "833ad4468851392e5209f8f9a94c62db9182472ab9ba86ef6f84d40ecdffb204", func := "lidar/lidarlaw01.ExactSpans", spec := "exactSpans", apart := false }
def ExactSpansSaid : Prop := exactSpansRow.holds Try.pinned (OpenSpec.ofChange exactSpansSpec)

/-- ITS FALSE NEIGHBOUR: 'it returns false'. Refute it at one input. -/
def exactSpansWrong : ChangeSpec := { name := "exactSpans", fn := fun _ => fun
  | [d1, d2] => { results := [.lit (.bool false)], args := [d1, d2] }
  | _ => none }
def ExactSpansWrongFalsely : Prop := exactSpansRow.holds Try.pinned (OpenSpec.ofChange exactSpansWrong)

/- THE SECOND FORM. 'bulk': how many values and letters a reading holds, each counted each time it is reached (what is shared counts as often as it is met; a slice's spare places count too). A statement '..UptoSaid' is the law's where the arguments, and the package variables that the reading takes, are together of bulk at most 1048576: NARROWER than '..Said'. Prove '..Said' where nothing that the law and all that it calls make is longer than what came in: it says more and counts as full. Else prove '..UptoSaid'. A law counts once. -/
mutual
def uptoBulk {H : Type} : DataW H → Nat
  | .lit (.string bytes) => bytes.length + 1
  | .lit _ => 1
  | .nil => 1
  | .ptr d => uptoBulk d + 1
  | .slice elems spare => uptoBulkAll elems + uptoBulkAll spare + 1
  | .agg parts => uptoBulkAll parts + 1
  | .iface _ d => uptoBulk d + 1
  | .map entries => uptoBulkEntries entries + 1
  | .held _ => 1
def uptoBulkAll {H : Type} : List (DataW H) → Nat
  | [] => 0
  | d :: r => uptoBulk d + uptoBulkAll r
def uptoBulkEntries {H : Type} : List (Lit × DataW H) → Nat
  | [] => 0
  | x :: r => uptoBulkEntry x + uptoBulkEntries r
def uptoBulkEntry {H : Type} : Lit × DataW H → Nat
  | (.string bytes, d) => bytes.length + uptoBulk d + 1
  | (_, d) => uptoBulk d + 1
 end
def uptoSmall : (H : Type) → List (DataW H) → Bool := fun _ ds => decide (uptoBulkAll ds ≤ 1048576)
def OpenSpec.upto (s : _root_.Go.ChangeSpec) : _root_.Go.OpenSpec := { _root_.Go.OpenSpec.ofChange s with cond := some uptoSmall }

/-- 'lidarlaw01.ExactTurns', WHERE WHAT IT READS IS OF BULK AT MOST 1048576: true; the input reads as it did. -/
def exactTurnsUptoRow : OpenClaim := { program := "yteoijnaljkagfaa", sum := "833ad4468851392e5209f8f9a94c62db9182472ab9ba86ef6f84d40ecdffb204", func := "lidar/lidarlaw01.ExactTurns", spec := "exactTurns", apart := false, narrowed := true }
def ExactTurnsUptoSaid : Prop := exactTurnsUptoRow.holds Try.pinned (OpenSpec.upto exactTurnsSpec)

/-- 'lidarlaw01.ExactRatios', WHERE WHAT IT READS IS OF BULK AT MOST 1048576: true; the input reads as it did. -/
def exactRatiosUptoRow : OpenClaim := { program := "yteoijnaljkagfaa", sum := "833ad4468851392e5209f8f9a94c62db9182472ab9ba86ef6f84d40ecdffb204", func := "lidar/lidarlaw01.ExactRatios", spec := "exactRatios", apart := false, narrowed := true }
def ExactRatiosUptoSaid : Prop := exactRatiosUptoRow.holds Try.pinned (OpenSpec.upto exactRatiosSpec)

/-- 'lidarlaw01.ExactRounds', WHERE WHAT IT READS IS OF BULK AT MOST 1048576: true; the input reads as it did. -/
def exactRoundsUptoRow : OpenClaim := { program := "yteoijnaljkagfaa", sum := "833ad4468851392e5209f8f9a94c62db9182472ab9ba86ef6f84d40ecdffb204", func := "lidar/lidarlaw01.ExactRounds", spec := "exactRounds", apart := false, narrowed := true }
def ExactRoundsUptoSaid : Prop := exactRoundsUptoRow.holds Try.pinned (OpenSpec.upto exactRoundsSpec)

/-- 'lidarlaw01.ExactRoots', WHERE WHAT IT READS IS OF BULK AT MOST 1048576: true; the input reads as it did. -/
def exactRootsUptoRow : OpenClaim := { program := "yteoijnaljkagfaa", sum := "833ad4468851392e5209f8f9a94c62db9182472ab9ba86ef6f84d40ecdffb204", func := "lidar/lidarlaw01.ExactRoots", spec := "exactRoots", apart := false, narrowed := true }
def ExactRootsUptoSaid : Prop := exactRootsUptoRow.holds Try.pinned (OpenSpec.upto exactRootsSpec)

/-- 'lidarlaw01.ExactCanon', WHERE WHAT IT READS IS OF BULK AT MOST 1048576: true; the input reads as it did. -/
def exactCanonUptoRow : OpenClaim := { program := "yteoijnaljkagfaa", sum := "833ad4468851392e5209f8f9a94c62db9182472ab9ba86ef6f84d40ecdffb204", func := "lidar/lidarlaw01.ExactCanon", spec := "exactCanon", apart := false, narrowed := true }
def ExactCanonUptoSaid : Prop := exactCanonUptoRow.holds Try.pinned (OpenSpec.upto exactCanonSpec)

/-- 'lidarlaw01.ExactMeets', WHERE WHAT IT READS IS OF BULK AT MOST 1048576: true; the input reads as it did. -/
def exactMeetsUptoRow : OpenClaim := { program := "yteoijnaljkagfaa", sum := "833ad4468851392e5209f8f9a94c62db9182472ab9ba86ef6f84d40ecdffb204", func := "lidar/lidarlaw01.ExactMeets", spec := "exactMeets", apart := false, narrowed := true }
def ExactMeetsUptoSaid : Prop := exactMeetsUptoRow.holds Try.pinned (OpenSpec.upto exactMeetsSpec)

/-- 'lidarlaw01.ExactCircles', WHERE WHAT IT READS IS OF BULK AT MOST 1048576: true; the input reads as it did. -/
def exactCirclesUptoRow : OpenClaim := { program := "yteoijnaljkagfaa", sum := "833ad4468851392e5209f8f9a94c62db9182472ab9ba86ef6f84d40ecdffb204", func := "lidar/lidarlaw01.ExactCircles", spec := "exactCircles", apart := false, narrowed := true }
def ExactCirclesUptoSaid : Prop := exactCirclesUptoRow.holds Try.pinned (OpenSpec.upto exactCirclesSpec)

/-- 'lidarlaw01.ExactPlanes', WHERE WHAT IT READS IS OF BULK AT MOST 1048576: true; the input reads as it did. -/
def exactPlanesUptoRow : OpenClaim := { program := "yteoijnaljkagfaa", sum := "833ad4468851392e5209f8f9a94c62db9182472ab9ba86ef6f84d40ecdffb204", func := "lidar/lidarlaw01.ExactPlanes", spec := "exactPlanes", apart := false, narrowed := true }
def ExactPlanesUptoSaid : Prop := exactPlanesUptoRow.holds Try.pinned (OpenSpec.upto exactPlanesSpec)

/-- 'lidarlaw01.ExactCorners', WHERE WHAT IT READS IS OF BULK AT MOST 1048576: true; the input reads as it did. -/
def exactCornersUptoRow : OpenClaim := { program := "yteoijnaljkagfaa", sum := "833ad4468851392e5209f8f9a94c62db9182472ab9ba86ef6f84d40ecdffb204", func := "lidar/lidarlaw01.ExactCorners", spec := "exactCorners", apart := false, narrowed := true }
def ExactCornersUptoSaid : Prop := exactCornersUptoRow.holds Try.pinned (OpenSpec.upto exactCornersSpec)

/-- 'lidarlaw01.ExactOrder', WHERE WHAT IT READS IS OF BULK AT MOST 1048576: true; the input reads as it did. -/
def exactOrderUptoRow : OpenClaim := { program := "yteoijnaljkagfaa", sum := "833ad4468851392e5209f8f9a94c62db9182472ab9ba86ef6f84d40ecdffb204", func := "lidar/lidarlaw01.ExactOrder", spec := "exactOrder", apart := false, narrowed := true }
def ExactOrderUptoSaid : Prop := exactOrderUptoRow.holds Try.pinned (OpenSpec.upto exactOrderSpec)

/-- 'lidarlaw01.ExactContains', WHERE WHAT IT READS IS OF BULK AT MOST 1048576: true; the input reads as it did. -/
def exactContainsUptoRow : OpenClaim := { program := "yteoijnaljkagfaa", sum := "833ad4468851392e5209f8f9a94c62db9182472ab9ba86ef6f84d40ecdffb204", func := "lidar/lidarlaw01.ExactContains", spec := "exactContains", apart := false, narrowed := true }
def ExactContainsUptoSaid : Prop := exactContainsUptoRow.holds Try.pinned (OpenSpec.upto exactContainsSpec)

/-- 'lidarlaw01.ExactOperates', WHERE WHAT IT READS IS OF BULK AT MOST 1048576: true; the input reads as it did. -/
def exactOperatesUptoRow : OpenClaim := { program := "yteoijnaljkagfaa", sum := "833ad4468851392e5209f8f9a94c62db9182472ab9ba86ef6f84d40ecdffb204", func := "lidar/lidarlaw01.ExactOperates", spec := "exactOperates", apart := false, narrowed := true }
def ExactOperatesUptoSaid : Prop := exactOperatesUptoRow.holds Try.pinned (OpenSpec.upto exactOperatesSpec)

/-- 'lidarlaw01.ExactCovers', WHERE WHAT IT READS IS OF BULK AT MOST 1048576: true; the input reads as it did. -/
def exactCoversUptoRow : OpenClaim := { program := "yteoijnaljkagfaa", sum := "833ad4468851392e5209f8f9a94c62db9182472ab9ba86ef6f84d40ecdffb204", func := "lidar/lidarlaw01.ExactCovers", spec := "exactCovers", apart := false, narrowed := true }
def ExactCoversUptoSaid : Prop := exactCoversUptoRow.holds Try.pinned (OpenSpec.upto exactCoversSpec)

/-- 'lidarlaw01.ExactField', WHERE WHAT IT READS IS OF BULK AT MOST 1048576: true; the input reads as it did. -/
def exactFieldUptoRow : OpenClaim := { program := "yteoijnaljkagfaa", sum := "833ad4468851392e5209f8f9a94c62db9182472ab9ba86ef6f84d40ecdffb204", func := "lidar/lidarlaw01.ExactField", spec := "exactField", apart := false, narrowed := true }
def ExactFieldUptoSaid : Prop := exactFieldUptoRow.holds Try.pinned (OpenSpec.upto exactFieldSpec)

/-- 'lidarlaw01.ExactSpans', WHERE WHAT IT READS IS OF BULK AT MOST 1048576: true; the input reads as it did. -/
def exactSpansUptoRow : OpenClaim := { program := "yteoijnaljkagfaa", sum := "833ad4468851392e5209f8f9a94c62db9182472ab9ba86ef6f84d40ecdffb204", func := "lidar/lidarlaw01.ExactSpans", spec := "exactSpans", apart := false, narrowed := true }
def ExactSpansUptoSaid : Prop := exactSpansUptoRow.holds Try.pinned (OpenSpec.upto exactSpansSpec)

end Rows
end Go.Proofs.Yteoijnaljkagfaa
