/-
  No cell of these rows narrows 'for every input' (looked for: loops, veiled, ifaces, maps, wideKeys, modest, calm, conditions, laid).
  DERIVED. THE GIVEN ROWS OF THIS SEAT. 16 by the template 'for every input the law returns true; each argument reads behind the call as it read before'; 0 by the template 'total and deterministic' (their statements: YtikhlcgnlbinfaaTotals.lean).
  GIVEN WITH THE SEED: the statements are not yours to turn. If you find one false, say at which input.
  Laid BY PROGRAM, IN A SANDBOX (cutbox-rows.mjs): the forced cells as the released guide's own fill.sh prints them over the translation 4220818f56a9210b… (all of the seat's roots in one cut). By AI agents, Wed Nov 11 2026. No macro, syntax, notation, axiom, sorry.
-/
import Derived.Test.YtikhlcgnlbinfaaChecked
import GoSem.Claim
import GoSem.ClaimJoined
import GoSem.ClaimMapViews
import Derived.JoinedTies
import Derived.KernelRfl
namespace Go.Proofs.Ytikhlcgnlbinfaa
/- THE CELL 'sum', in the pinned program and in every row, IS THE sha256 OF THE DUMP (.gsa) THAT YtikhlcgnlbinfaaProg.lean LOADS. Nothing in Lean hashes anything: it is a label: what it is worth is what the hold of that sum in a sandbox is worth. -/
noncomputable def Try.pinned : Pinned := { name := "ytikhlcgnlbinfaa", sum := "4220818f56a9210b279deeaeb22095ee3e701a887542ac3797735245d2d5c208", checked := Try.checked }
namespace Rows
def none {H : Type} : Left H := { results := [], args := [] }

/-- 'lidartop.TopPlaces': WHATEVER THE INPUT: true; the input reads as it did. -/
def topPlacesSpec : ChangeSpec := { name := "topPlaces", fn := fun _ => fun
  | [d] => { results := [.lit (.bool true)], args := [d] }
  | _ => none }
def topPlacesRow : OpenClaim := { program := "ytikhlcgnlbinfaa", sum := "4220818f56a9210b279deeaeb22095ee3e701a887542ac3797735245d2d5c208", func := "lidar/lidartop.TopPlaces", spec := "topPlaces", unfollowed := true, recurses := true, named := ["math/bits.divideError", "math/bits.overflowError"], apart := false }
def TopPlacesSaid : Prop := topPlacesRow.holds Try.pinned (OpenSpec.ofChange topPlacesSpec)

/-- ITS FALSE NEIGHBOUR: 'it returns false'. Refute it at one input. -/
def topPlacesWrong : ChangeSpec := { name := "topPlaces", fn := fun _ => fun
  | [d] => { results := [.lit (.bool false)], args := [d] }
  | _ => none }
def TopPlacesWrongFalsely : Prop := topPlacesRow.holds Try.pinned (OpenSpec.ofChange topPlacesWrong)

/-- 'lidarlaw05.StripEquations': WHATEVER THE INPUT: true; the input reads as it did. -/
def stripEquationsSpec : ChangeSpec := { name := "stripEquations", fn := fun _ => fun
  | [d] => { results := [.lit (.bool true)], args := [d] }
  | _ => none }
def stripEquationsRow : OpenClaim := { program := "ytikhlcgnlbinfaa", sum := "4220818f56a9210b279deeaeb22095ee3e701a887542ac3797735245d2d5c208", func := "lidar/lidarlaw05.StripEquations", spec := "stripEquations", apart := false }
def StripEquationsSaid : Prop := stripEquationsRow.holds Try.pinned (OpenSpec.ofChange stripEquationsSpec)

/-- ITS FALSE NEIGHBOUR: 'it returns false'. Refute it at one input. -/
def stripEquationsWrong : ChangeSpec := { name := "stripEquations", fn := fun _ => fun
  | [d] => { results := [.lit (.bool false)], args := [d] }
  | _ => none }
def StripEquationsWrongFalsely : Prop := stripEquationsRow.holds Try.pinned (OpenSpec.ofChange stripEquationsWrong)

/-- 'lidarlaw05.StripOrder': WHATEVER THE INPUT: true; the input reads as it did. -/
def stripOrderSpec : ChangeSpec := { name := "stripOrder", fn := fun _ => fun
  | [d1, d2, d3] => { results := [.lit (.bool true)], args := [d1, d2, d3] }
  | _ => none }
def stripOrderRow : OpenClaim := { program := "ytikhlcgnlbinfaa", sum := "4220818f56a9210b279deeaeb22095ee3e701a887542ac3797735245d2d5c208", func := "lidar/lidarlaw05.StripOrder", spec := "stripOrder", apart := false }
def StripOrderSaid : Prop := stripOrderRow.holds Try.pinned (OpenSpec.ofChange stripOrderSpec)

/-- ITS FALSE NEIGHBOUR: 'it returns false'. Refute it at one input. -/
def stripOrderWrong : ChangeSpec := { name := "stripOrder", fn := fun _ => fun
  | [d1, d2, d3] => { results := [.lit (.bool false)], args := [d1, d2, d3] }
  | _ => none }
def StripOrderWrongFalsely : Prop := stripOrderRow.holds Try.pinned (OpenSpec.ofChange stripOrderWrong)

/-- 'lidarlaw05.StripDrops': WHATEVER THE INPUT: true; the input reads as it did. -/
def stripDropsSpec : ChangeSpec := { name := "stripDrops", fn := fun _ => fun
  | [d1, d2] => { results := [.lit (.bool true)], args := [d1, d2] }
  | _ => none }
def stripDropsRow : OpenClaim := { program := "ytikhlcgnlbinfaa", sum := "4220818f56a9210b279deeaeb22095ee3e701a887542ac3797735245d2d5c208", func := "lidar/lidarlaw05.StripDrops", spec := "stripDrops", apart := false }
def StripDropsSaid : Prop := stripDropsRow.holds Try.pinned (OpenSpec.ofChange stripDropsSpec)

/-- ITS FALSE NEIGHBOUR: 'it returns false'. Refute it at one input. -/
def stripDropsWrong : ChangeSpec := { name := "stripDrops", fn := fun _ => fun
  | [d1, d2] => { results := [.lit (.bool false)], args := [d1, d2] }
  | _ => none }
def StripDropsWrongFalsely : Prop := stripDropsRow.holds Try.pinned (OpenSpec.ofChange stripDropsWrong)

/-- 'lidarlaw05.StripFree': WHATEVER THE INPUT: true; the input reads as it did. -/
def stripFreeSpec : ChangeSpec := { name := "stripFree", fn := fun _ => fun
  | [d] => { results := [.lit (.bool true)], args := [d] }
  | _ => none }
def stripFreeRow : OpenClaim := { program := "ytikhlcgnlbinfaa", sum := "4220818f56a9210b279deeaeb22095ee3e701a887542ac3797735245d2d5c208", func := "lidar/lidarlaw05.StripFree", spec := "stripFree", apart := false }
def StripFreeSaid : Prop := stripFreeRow.holds Try.pinned (OpenSpec.ofChange stripFreeSpec)

/-- ITS FALSE NEIGHBOUR: 'it returns false'. Refute it at one input. -/
def stripFreeWrong : ChangeSpec := { name := "stripFree", fn := fun _ => fun
  | [d] => { results := [.lit (.bool false)], args := [d] }
  | _ => none }
def StripFreeWrongFalsely : Prop := stripFreeRow.holds Try.pinned (OpenSpec.ofChange stripFreeWrong)

/-- 'lidarlaw05.StripScales': WHATEVER THE INPUT: true; the input reads as it did. -/
def stripScalesSpec : ChangeSpec := { name := "stripScales", fn := fun _ => fun
  | [d1, d2] => { results := [.lit (.bool true)], args := [d1, d2] }
  | _ => none }
def stripScalesRow : OpenClaim := { program := "ytikhlcgnlbinfaa", sum := "4220818f56a9210b279deeaeb22095ee3e701a887542ac3797735245d2d5c208", func := "lidar/lidarlaw05.StripScales", spec := "stripScales", apart := false }
def StripScalesSaid : Prop := stripScalesRow.holds Try.pinned (OpenSpec.ofChange stripScalesSpec)

/-- ITS FALSE NEIGHBOUR: 'it returns false'. Refute it at one input. -/
def stripScalesWrong : ChangeSpec := { name := "stripScales", fn := fun _ => fun
  | [d1, d2] => { results := [.lit (.bool false)], args := [d1, d2] }
  | _ => none }
def StripScalesWrongFalsely : Prop := stripScalesRow.holds Try.pinned (OpenSpec.ofChange stripScalesWrong)

/-- 'lidarlaw05.StripMeasures': WHATEVER THE INPUT: true; the input reads as it did. -/
def stripMeasuresSpec : ChangeSpec := { name := "stripMeasures", fn := fun _ => fun
  | [d1, d2, d3] => { results := [.lit (.bool true)], args := [d1, d2, d3] }
  | _ => none }
def stripMeasuresRow : OpenClaim := { program := "ytikhlcgnlbinfaa", sum := "4220818f56a9210b279deeaeb22095ee3e701a887542ac3797735245d2d5c208", func := "lidar/lidarlaw05.StripMeasures", spec := "stripMeasures", apart := false }
def StripMeasuresSaid : Prop := stripMeasuresRow.holds Try.pinned (OpenSpec.ofChange stripMeasuresSpec)

/-- ITS FALSE NEIGHBOUR: 'it returns false'. Refute it at one input. -/
def stripMeasuresWrong : ChangeSpec := { name := "stripMeasures", fn := fun _ => fun
  | [d1, d2, d3] => { results := [.lit (.bool false)], args := [d1, d2, d3] }
  | _ => none }
def StripMeasuresWrongFalsely : Prop := stripMeasuresRow.holds Try.pinned (OpenSpec.ofChange stripMeasuresWrong)

/-- 'lidarlaw05.StripMoves': WHATEVER THE INPUT: true; the input reads as it did. -/
def stripMovesSpec : ChangeSpec := { name := "stripMoves", fn := fun _ => fun
  | [d1, d2] => { results := [.lit (.bool true)], args := [d1, d2] }
  | _ => none }
def stripMovesRow : OpenClaim := { program := "ytikhlcgnlbinfaa", sum := "4220818f56a9210b279deeaeb22095ee3e701a887542ac3797735245d2d5c208", func := "lidar/lidarlaw05.StripMoves", spec := "stripMoves", apart := false }
def StripMovesSaid : Prop := stripMovesRow.holds Try.pinned (OpenSpec.ofChange stripMovesSpec)

/-- ITS FALSE NEIGHBOUR: 'it returns false'. Refute it at one input. -/
def stripMovesWrong : ChangeSpec := { name := "stripMoves", fn := fun _ => fun
  | [d1, d2] => { results := [.lit (.bool false)], args := [d1, d2] }
  | _ => none }
def StripMovesWrongFalsely : Prop := stripMovesRow.holds Try.pinned (OpenSpec.ofChange stripMovesWrong)

/-- 'lidarlaw05.StripCarries': WHATEVER THE INPUT: true; the input reads as it did. -/
def stripCarriesSpec : ChangeSpec := { name := "stripCarries", fn := fun _ => fun
  | [d] => { results := [.lit (.bool true)], args := [d] }
  | _ => none }
def stripCarriesRow : OpenClaim := { program := "ytikhlcgnlbinfaa", sum := "4220818f56a9210b279deeaeb22095ee3e701a887542ac3797735245d2d5c208", func := "lidar/lidarlaw05.StripCarries", spec := "stripCarries", apart := false }
def StripCarriesSaid : Prop := stripCarriesRow.holds Try.pinned (OpenSpec.ofChange stripCarriesSpec)

/-- ITS FALSE NEIGHBOUR: 'it returns false'. Refute it at one input. -/
def stripCarriesWrong : ChangeSpec := { name := "stripCarries", fn := fun _ => fun
  | [d] => { results := [.lit (.bool false)], args := [d] }
  | _ => none }
def StripCarriesWrongFalsely : Prop := stripCarriesRow.holds Try.pinned (OpenSpec.ofChange stripCarriesWrong)

/-- 'lidarlaw05.StripStill': WHATEVER THE INPUT: true; the input reads as it did. -/
def stripStillSpec : ChangeSpec := { name := "stripStill", fn := fun _ => fun
  | [d1, d2] => { results := [.lit (.bool true)], args := [d1, d2] }
  | _ => none }
def stripStillRow : OpenClaim := { program := "ytikhlcgnlbinfaa", sum := "4220818f56a9210b279deeaeb22095ee3e701a887542ac3797735245d2d5c208", func := "lidar/lidarlaw05.StripStill", spec := "stripStill", apart := false }
def StripStillSaid : Prop := stripStillRow.holds Try.pinned (OpenSpec.ofChange stripStillSpec)

/-- ITS FALSE NEIGHBOUR: 'it returns false'. Refute it at one input. -/
def stripStillWrong : ChangeSpec := { name := "stripStill", fn := fun _ => fun
  | [d1, d2] => { results := [.lit (.bool false)], args := [d1, d2] }
  | _ => none }
def StripStillWrongFalsely : Prop := stripStillRow.holds Try.pinned (OpenSpec.ofChange stripStillWrong)

/-- 'lidarlaw05.StripFacets': WHATEVER THE INPUT: true; the input reads as it did. -/
def stripFacetsSpec : ChangeSpec := { name := "stripFacets", fn := fun _ => fun
  | [d] => { results := [.lit (.bool true)], args := [d] }
  | _ => none }
def stripFacetsRow : OpenClaim := { program := "ytikhlcgnlbinfaa", sum := "4220818f56a9210b279deeaeb22095ee3e701a887542ac3797735245d2d5c208", func := "lidar/lidarlaw05.StripFacets", spec := "stripFacets", apart := false }
def StripFacetsSaid : Prop := stripFacetsRow.holds Try.pinned (OpenSpec.ofChange stripFacetsSpec)

/-- ITS FALSE NEIGHBOUR: 'it returns false'. Refute it at one input. -/
def stripFacetsWrong : ChangeSpec := { name := "stripFacets", fn := fun _ => fun
  | [d] => { results := [.lit (.bool false)], args := [d] }
  | _ => none }
def StripFacetsWrongFalsely : Prop := stripFacetsRow.holds Try.pinned (OpenSpec.ofChange stripFacetsWrong)

/-- 'lidarlaw05.StripSolves': WHATEVER THE INPUT: true; the input reads as it did. -/
def stripSolvesSpec : ChangeSpec := { name := "stripSolves", fn := fun _ => fun
  | [d] => { results := [.lit (.bool true)], args := [d] }
  | _ => none }
def stripSolvesRow : OpenClaim := { program := "ytikhlcgnlbinfaa", sum := "4220818f56a9210b279deeaeb22095ee3e701a887542ac3797735245d2d5c208", func := "lidar/lidarlaw05.StripSolves", spec := "stripSolves", apart := false }
def StripSolvesSaid : Prop := stripSolvesRow.holds Try.pinned (OpenSpec.ofChange stripSolvesSpec)

/-- ITS FALSE NEIGHBOUR: 'it returns false'. Refute it at one input. -/
def stripSolvesWrong : ChangeSpec := { name := "stripSolves", fn := fun _ => fun
  | [d] => { results := [.lit (.bool false)], args := [d] }
  | _ => none }
def StripSolvesWrongFalsely : Prop := stripSolvesRow.holds Try.pinned (OpenSpec.ofChange stripSolvesWrong)

/-- 'lidarlaw05.StripWorsts': WHATEVER THE INPUT: true; the input reads as it did. -/
def stripWorstsSpec : ChangeSpec := { name := "stripWorsts", fn := fun _ => fun
  | [d1, d2] => { results := [.lit (.bool true)], args := [d1, d2] }
  | _ => none }
def stripWorstsRow : OpenClaim := { program := "ytikhlcgnlbinfaa", sum := "4220818f56a9210b279deeaeb22095ee3e701a887542ac3797735245d2d5c208", func := "lidar/lidarlaw05.StripWorsts", spec := "stripWorsts", apart := false }
def StripWorstsSaid : Prop := stripWorstsRow.holds Try.pinned (OpenSpec.ofChange stripWorstsSpec)

/-- ITS FALSE NEIGHBOUR: 'it returns false'. Refute it at one input. -/
def stripWorstsWrong : ChangeSpec := { name := "stripWorsts", fn := fun _ => fun
  | [d1, d2] => { results := [.lit (.bool false)], args := [d1, d2] }
  | _ => none }
def StripWorstsWrongFalsely : Prop := stripWorstsRow.holds Try.pinned (OpenSpec.ofChange stripWorstsWrong)

/-- 'lidarlaw05.StripGroups': WHATEVER THE INPUT: true; the input reads as it did. -/
def stripGroupsSpec : ChangeSpec := { name := "stripGroups", fn := fun _ => fun
  | [d1, d2, d3] => { results := [.lit (.bool true)], args := [d1, d2, d3] }
  | _ => none }
def stripGroupsRow : OpenClaim := { program := "ytikhlcgnlbinfaa", sum := "4220818f56a9210b279deeaeb22095ee3e701a887542ac3797735245d2d5c208", func := "lidar/lidarlaw05.StripGroups", spec := "stripGroups", apart := false }
def StripGroupsSaid : Prop := stripGroupsRow.holds Try.pinned (OpenSpec.ofChange stripGroupsSpec)

/-- ITS FALSE NEIGHBOUR: 'it returns false'. Refute it at one input. -/
def stripGroupsWrong : ChangeSpec := { name := "stripGroups", fn := fun _ => fun
  | [d1, d2, d3] => { results := [.lit (.bool false)], args := [d1, d2, d3] }
  | _ => none }
def StripGroupsWrongFalsely : Prop := stripGroupsRow.holds Try.pinned (OpenSpec.ofChange stripGroupsWrong)

/-- 'lidarlaw05.StripAdjusts': WHATEVER THE INPUT: true; the input reads as it did. -/
def stripAdjustsSpec : ChangeSpec := { name := "stripAdjusts", fn := fun _ => fun
  | [d1, d2] => { results := [.lit (.bool true)], args := [d1, d2] }
  | _ => none }
def stripAdjustsRow : OpenClaim := { program := "ytikhlcgnlbinfaa", sum := "4220818f56a9210b279deeaeb22095ee3e701a887542ac3797735245d2d5c208", func := "lidar/lidarlaw05.StripAdjusts", spec := "stripAdjusts", apart := false }
def StripAdjustsSaid : Prop := stripAdjustsRow.holds Try.pinned (OpenSpec.ofChange stripAdjustsSpec)

/-- ITS FALSE NEIGHBOUR: 'it returns false'. Refute it at one input. -/
def stripAdjustsWrong : ChangeSpec := { name := "stripAdjusts", fn := fun _ => fun
  | [d1, d2] => { results := [.lit (.bool false)], args := [d1, d2] }
  | _ => none }
def StripAdjustsWrongFalsely : Prop := stripAdjustsRow.holds Try.pinned (OpenSpec.ofChange stripAdjustsWrong)

/-- 'lidarlaw05.StripOutliers': WHATEVER THE INPUT: true; the input reads as it did. -/
def stripOutliersSpec : ChangeSpec := { name := "stripOutliers", fn := fun _ => fun
  | [d1, d2] => { results := [.lit (.bool true)], args := [d1, d2] }
  | _ => none }
def stripOutliersRow : OpenClaim := { program := "ytikhlcgnlbinfaa", sum := "4220818f56a9210b279deeaeb22095ee3e701a887542ac3797735245d2d5c208", func := "lidar/lidarlaw05.StripOutliers", spec := "stripOutliers", apart := false }
def StripOutliersSaid : Prop := stripOutliersRow.holds Try.pinned (OpenSpec.ofChange stripOutliersSpec)

/-- ITS FALSE NEIGHBOUR: 'it returns false'. Refute it at one input. -/
def stripOutliersWrong : ChangeSpec := { name := "stripOutliers", fn := fun _ => fun
  | [d1, d2] => { results := [.lit (.bool false)], args := [d1, d2] }
  | _ => none }
def StripOutliersWrongFalsely : Prop := stripOutliersRow.holds Try.pinned (OpenSpec.ofChange stripOutliersWrong)

/- THE SECOND FORM. 'bulk': how many values and letters a reading holds, each counted each time it is reached (what is shared counts as often as it is met; a slice's spare places count too). A statement '..UptoSaid' is the law's where the arguments, and the package variables that the reading takes, are together of bulk at most 1048576: NARROWER than '..Said'. Prove '..Said' where nothing that the law and all that it calls make is longer than what came in: it says more and counts as full. Else prove '..UptoSaid'. A law counts once. -/
mutual
def uptoBulk {H : Type} : DataW H → Nat
  | .lit (.string bytes) => bytes.length + 1
  | .lit _ => 1
  | .nil => 1
  | .ptr d => uptoBulk d + 1
  | .slice elems spare => uptoBulkAll elems + uptoBulkAll spare + 1
  | .agg parts => uptoBulkAll parts + 1
  | .iface _ d => uptoBulk d + 1
  | .map entries => uptoBulkEntries entries + 1
  | .held _ => 1
def uptoBulkAll {H : Type} : List (DataW H) → Nat
  | [] => 0
  | d :: r => uptoBulk d + uptoBulkAll r
def uptoBulkEntries {H : Type} : List (Lit × DataW H) → Nat
  | [] => 0
  | x :: r => uptoBulkEntry x + uptoBulkEntries r
def uptoBulkEntry {H : Type} : Lit × DataW H → Nat
  | (.string bytes, d) => bytes.length + uptoBulk d + 1
  | (_, d) => uptoBulk d + 1
 end
def uptoSmall : (H : Type) → List (DataW H) → Bool := fun _ ds => decide (uptoBulkAll ds ≤ 1048576)
def OpenSpec.upto (s : _root_.Go.ChangeSpec) : _root_.Go.OpenSpec := { _root_.Go.OpenSpec.ofChange s with cond := some uptoSmall }

/-- 'lidartop.TopPlaces', WHERE WHAT IT READS IS OF BULK AT MOST 1048576: true; the input reads as it did. -/
def topPlacesUptoRow : OpenClaim := { program := "ytikhlcgnlbinfaa", sum := "4220818f56a9210b279deeaeb22095ee3e701a887542ac3797735245d2d5c208", func := "lidar/lidartop.TopPlaces", spec := "topPlaces", unfollowed := true, recurses := true, named := ["math/bits.divideError", "math/bits.overflowError"], apart := false, narrowed := true }
def TopPlacesUptoSaid : Prop := topPlacesUptoRow.holds Try.pinned (OpenSpec.upto topPlacesSpec)

/-- 'lidarlaw05.StripEquations', WHERE WHAT IT READS IS OF BULK AT MOST 1048576: true; the input reads as it did. -/
def stripEquationsUptoRow : OpenClaim := { program := "ytikhlcgnlbinfaa", sum := "4220818f56a9210b279deeaeb22095ee3e701a887542ac3797735245d2d5c208", func := "lidar/lidarlaw05.StripEquations", spec := "stripEquations", apart := false, narrowed := true }
def StripEquationsUptoSaid : Prop := stripEquationsUptoRow.holds Try.pinned (OpenSpec.upto stripEquationsSpec)

/-- 'lidarlaw05.StripOrder', WHERE WHAT IT READS IS OF BULK AT MOST 1048576: true; the input reads as it did. -/
def stripOrderUptoRow : OpenClaim := { program := "ytikhlcgnlbinfaa", sum := "4220818f56a9210b279deeaeb22095ee3e701a887542ac3797735245d2d5c208", func := "lidar/lidarlaw05.StripOrder", spec := "stripOrder", apart := false, narrowed := true }
def StripOrderUptoSaid : Prop := stripOrderUptoRow.holds Try.pinned (OpenSpec.upto stripOrderSpec)

/-- 'lidarlaw05.StripDrops', WHERE WHAT IT READS IS OF BULK AT MOST 1048576: true; the input reads as it did. -/
def stripDropsUptoRow : OpenClaim := { program := "ytikhlcgnlbinfaa", sum := "4220818f56a9210b279deeaeb22095ee3e701a887542ac3797735245d2d5c208", func := "lidar/lidarlaw05.StripDrops", spec := "stripDrops", apart := false, narrowed := true }
def StripDropsUptoSaid : Prop := stripDropsUptoRow.holds Try.pinned (OpenSpec.upto stripDropsSpec)

/-- 'lidarlaw05.StripFree', WHERE WHAT IT READS IS OF BULK AT MOST 1048576: true; the input reads as it did. -/
def stripFreeUptoRow : OpenClaim := { program := "ytikhlcgnlbinfaa", sum := "4220818f56a9210b279deeaeb22095ee3e701a887542ac3797735245d2d5c208", func := "lidar/lidarlaw05.StripFree", spec := "stripFree", apart := false, narrowed := true }
def StripFreeUptoSaid : Prop := stripFreeUptoRow.holds Try.pinned (OpenSpec.upto stripFreeSpec)

/-- 'lidarlaw05.StripScales', WHERE WHAT IT READS IS OF BULK AT MOST 1048576: true; the input reads as it did. -/
def stripScalesUptoRow : OpenClaim := { program := "ytikhlcgnlbinfaa", sum := "4220818f56a9210b279deeaeb22095ee3e701a887542ac3797735245d2d5c208", func := "lidar/lidarlaw05.StripScales", spec := "stripScales", apart := false, narrowed := true }
def StripScalesUptoSaid : Prop := stripScalesUptoRow.holds Try.pinned (OpenSpec.upto stripScalesSpec)

/-- 'lidarlaw05.StripMeasures', WHERE WHAT IT READS IS OF BULK AT MOST 1048576: true; the input reads as it did. -/
def stripMeasuresUptoRow : OpenClaim := { program := "ytikhlcgnlbinfaa", sum := "4220818f56a9210b279deeaeb22095ee3e701a887542ac3797735245d2d5c208", func := "lidar/lidarlaw05.StripMeasures", spec := "stripMeasures", apart := false, narrowed := true }
def StripMeasuresUptoSaid : Prop := stripMeasuresUptoRow.holds Try.pinned (OpenSpec.upto stripMeasuresSpec)

/-- 'lidarlaw05.StripMoves', WHERE WHAT IT READS IS OF BULK AT MOST 1048576: true; the input reads as it did. -/
def stripMovesUptoRow : OpenClaim := { program := "ytikhlcgnlbinfaa", sum := "4220818f56a9210b279deeaeb22095ee3e701a887542ac3797735245d2d5c208", func := "lidar/lidarlaw05.StripMoves", spec := "stripMoves", apart := false, narrowed := true }
def StripMovesUptoSaid : Prop := stripMovesUptoRow.holds Try.pinned (OpenSpec.upto stripMovesSpec)

/-- 'lidarlaw05.StripCarries', WHERE WHAT IT READS IS OF BULK AT MOST 1048576: true; the input reads as it did. -/
def stripCarriesUptoRow : OpenClaim := { program := "ytikhlcgnlbinfaa", sum := "4220818f56a9210b279deeaeb22095ee3e701a887542ac3797735245d2d5c208", func := "lidar/lidarlaw05.StripCarries", spec := "stripCarries", apart := false, narrowed := true }
def StripCarriesUptoSaid : Prop := stripCarriesUptoRow.holds Try.pinned (OpenSpec.upto stripCarriesSpec)

/-- 'lidarlaw05.StripStill', WHERE WHAT IT READS IS OF BULK AT MOST 1048576: true; the input reads as it did. -/
def stripStillUptoRow : OpenClaim := { program := "ytikhlcgnlbinfaa", sum := "4220818f56a9210b279deeaeb22095ee3e701a887542ac3797735245d2d5c208", func := "lidar/lidarlaw05.StripStill", spec := "stripStill", apart := false, narrowed := true }
def StripStillUptoSaid : Prop := stripStillUptoRow.holds Try.pinned (OpenSpec.upto stripStillSpec)

/-- 'lidarlaw05.StripFacets', WHERE WHAT IT READS IS OF BULK AT MOST 1048576: true; the input reads as it did. -/
def stripFacetsUptoRow : OpenClaim := { program := "ytikhlcgnlbinfaa", sum := "4220818f56a9210b279deeaeb22095ee3e701a887542ac3797735245d2d5c208", func := "lidar/lidarlaw05.StripFacets", spec := "stripFacets", apart := false, narrowed := true }
def StripFacetsUptoSaid : Prop := stripFacetsUptoRow.holds Try.pinned (OpenSpec.upto stripFacetsSpec)

/-- 'lidarlaw05.StripSolves', WHERE WHAT IT READS IS OF BULK AT MOST 1048576: true; the input reads as it did. -/
def stripSolvesUptoRow : OpenClaim := { program := "ytikhlcgnlbinfaa", sum := "4220818f56a9210b279deeaeb22095ee3e701a887542ac3797735245d2d5c208", func := "lidar/lidarlaw05.StripSolves", spec := "stripSolves", apart := false, narrowed := true }
def StripSolvesUptoSaid : Prop := stripSolvesUptoRow.holds Try.pinned (OpenSpec.upto stripSolvesSpec)

/-- 'lidarlaw05.StripWorsts', WHERE WHAT IT READS IS OF BULK AT MOST 1048576: true; the input reads as it did. -/
def stripWorstsUptoRow : OpenClaim := { program := "ytikhlcgnlbinfaa", sum := "4220818f56a9210b279deeaeb22095ee3e701a887542ac3797735245d2d5c208", func := "lidar/lidarlaw05.StripWorsts", spec := "stripWorsts", apart := false, narrowed := true }
def StripWorstsUptoSaid : Prop := stripWorstsUptoRow.holds Try.pinned (OpenSpec.upto stripWorstsSpec)

/-- 'lidarlaw05.StripGroups', WHERE WHAT IT READS IS OF BULK AT MOST 1048576: true; the input reads as it did. -/
def stripGroupsUptoRow : OpenClaim := { program := "ytikhlcgnlbinfaa", sum := "4220818f56a9210b279deeaeb22095ee3e701a887542ac3797735245d2d5c208", func := "lidar/lidarlaw05.StripGroups", spec := "stripGroups", apart := false, narrowed := true }
def StripGroupsUptoSaid : Prop := stripGroupsUptoRow.holds Try.pinned (OpenSpec.upto stripGroupsSpec)

/-- 'lidarlaw05.StripAdjusts', WHERE WHAT IT READS IS OF BULK AT MOST 1048576: true; the input reads as it did. -/
def stripAdjustsUptoRow : OpenClaim := { program := "ytikhlcgnlbinfaa", sum := "4220818f56a9210b279deeaeb22095ee3e701a887542ac3797735245d2d5c208", func := "lidar/lidarlaw05.StripAdjusts", spec := "stripAdjusts", apart := false, narrowed := true }
def StripAdjustsUptoSaid : Prop := stripAdjustsUptoRow.holds Try.pinned (OpenSpec.upto stripAdjustsSpec)

/-- 'lidarlaw05.StripOutliers', WHERE WHAT IT READS IS OF BULK AT MOST 1048576: true; the input reads as it did. -/
def stripOutliersUptoRow : OpenClaim := { program := "ytikhlcgnlbinfaa", sum := "4220818f56a9210b279deeaeb22095ee3e701a887542ac3797735245d2d5c208", func := "lidar/lidarlaw05.StripOutliers", spec := "stripOutliers", apart := false, narrowed := true }
def StripOutliersUptoSaid : Prop := stripOutliersUptoRow.holds Try.pinned (OpenSpec.upto stripOutliersSpec)

end Rows
end Go.Proofs.Ytikhlcgnlbinfaa
