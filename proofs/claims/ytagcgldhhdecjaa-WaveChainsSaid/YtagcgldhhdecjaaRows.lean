/-
  No cell of these rows narrows 'for every input' (looked for: loops, veiled, ifaces, maps, wideKeys, modest, calm, conditions, laid).
  DERIVED. THE GIVEN ROWS OF THIS SEAT. 17 by the template 'for every input the law returns true; each argument reads behind the call as it read before'; 0 by the template 'total and deterministic' (their statements: YtagcgldhhdecjaaTotals.lean).
  GIVEN WITH THE SEED: the statements are not yours to turn. If you find one false, say at which input.
  Laid BY PROGRAM, IN A SANDBOX (cutbox-rows.mjs): the forced cells as the released guide's own fill.sh prints them over the translation e67ac2c1da8d350f… (all of the seat's roots in one cut). By AI agents, Wed Nov 11 2026. No macro, syntax, notation, axiom, sorry.
-/
import Derived.Test.YtagcgldhhdecjaaChecked
import GoSem.Claim
import GoSem.ClaimJoined
import GoSem.ClaimMapViews
import Derived.JoinedTies
import Derived.KernelRfl
namespace Go.Proofs.Ytagcgldhhdecjaa
/- THE CELL 'sum', in the pinned program and in every row, IS THE sha256 OF THE DUMP (.gsa) THAT YtagcgldhhdecjaaProg.lean LOADS. Nothing in Lean hashes anything: it is a label: what it is worth is what the hold of that sum in a sandbox is worth. -/
noncomputable def Try.pinned : Pinned := { name := "ytagcgldhhdecjaa", sum := "e67ac2c1da8d350f842fe146af8f22a00e47ab0b1ef61c48e14543ece9861395", checked := Try.checked }
namespace Rows
def none {H : Type} : Left H := { results := [], args := [] }

/-- 'lidarlaw03.WaveRuns': WHATEVER THE INPUT: true; the input reads as it did. -/
def waveRunsSpec : ChangeSpec := { name := "waveRuns", fn := fun _ => fun
  | [d1, d2] => { results := [.lit (.bool true)], args := [d1, d2] }
  | _ => none }
def waveRunsRow : OpenClaim := { program := "ytagcgldhhdecjaa", sum := "e67ac2c1da8d350f842fe146af8f22a00e47ab0b1ef61c48e14543ece9861395", func := "lidar/lidarlaw03.WaveRuns", spec := "waveRuns", unfollowed := true, recurses := true, apart := false }
def WaveRunsSaid : Prop := waveRunsRow.holds Try.pinned (OpenSpec.ofChange waveRunsSpec)

/-- ITS FALSE NEIGHBOUR: 'it returns false'. Refute it at one input. -/
def waveRunsWrong : ChangeSpec := { name := "waveRuns", fn := fun _ => fun
  | [d1, d2] => { results := [.lit (.bool false)], args := [d1, d2] }
  | _ => none }
def WaveRunsWrongFalsely : Prop := waveRunsRow.holds Try.pinned (OpenSpec.ofChange waveRunsWrong)

/-- 'lidarlaw03.WaveEchoes': WHATEVER THE INPUT: true; the input reads as it did. -/
def waveEchoesSpec : ChangeSpec := { name := "waveEchoes", fn := fun _ => fun
  | [d1, d2] => { results := [.lit (.bool true)], args := [d1, d2] }
  | _ => none }
def waveEchoesRow : OpenClaim := { program := "ytagcgldhhdecjaa", sum := "e67ac2c1da8d350f842fe146af8f22a00e47ab0b1ef61c48e14543ece9861395", func := "lidar/lidarlaw03.WaveEchoes", spec := "waveEchoes", unfollowed := true, recurses := true, apart := false }
def WaveEchoesSaid : Prop := waveEchoesRow.holds Try.pinned (OpenSpec.ofChange waveEchoesSpec)

/-- ITS FALSE NEIGHBOUR: 'it returns false'. Refute it at one input. -/
def waveEchoesWrong : ChangeSpec := { name := "waveEchoes", fn := fun _ => fun
  | [d1, d2] => { results := [.lit (.bool false)], args := [d1, d2] }
  | _ => none }
def WaveEchoesWrongFalsely : Prop := waveEchoesRow.holds Try.pinned (OpenSpec.ofChange waveEchoesWrong)

/-- 'lidarlaw03.WaveChains': WHATEVER THE INPUT: true; the input reads as it did. -/
def waveChainsSpec : ChangeSpec := { name := "waveChains", fn := fun _ => fun
  | [d1, d2] => { results := [.lit (.bool true)], args := [d1, d2] }
  | _ => none }
def waveChainsRow : OpenClaim := { program := "ytagcgldhhdecjaa", sum := "e67ac2c1da8d350f842fe146af8f22a00e47ab0b1ef61c48e14543ece9861395", func := "lidar/lidarlaw03.WaveChains", spec := "waveChains", unfollowed := true, recurses := true, apart := false }
def WaveChainsSaid : Prop := waveChainsRow.holds Try.pinned (OpenSpec.ofChange waveChainsSpec)

/-- ITS FALSE NEIGHBOUR: 'it returns false'. Refute it at one input. -/
def waveChainsWrong : ChangeSpec := { name := "waveChains", fn := fun _ => fun
  | [d1, d2] => { results := [.lit (.bool false)], args := [d1, d2] }
  | _ => none }
def WaveChainsWrongFalsely : Prop := waveChainsRow.holds Try.pinned (OpenSpec.ofChange waveChainsWrong)

/-- 'lidarlaw03.WaveDelays': WHATEVER THE INPUT: true; the input reads as it did. -/
def waveDelaysSpec : ChangeSpec := { name := "waveDelays", fn := fun _ => fun
  | [d1, d2, d3] => { results := [.lit (.bool true)], args := [d1, d2, d3] }
  | _ => none }
def waveDelaysRow : OpenClaim := { program := "ytagcgldhhdecjaa", sum := "e67ac2c1da8d350f842fe146af8f22a00e47ab0b1ef61c48e14543ece9861395", func := "lidar/lidarlaw03.WaveDelays", spec := "waveDelays", unfollowed := true, recurses := true, apart := false }
def WaveDelaysSaid : Prop := waveDelaysRow.holds Try.pinned (OpenSpec.ofChange waveDelaysSpec)

/-- ITS FALSE NEIGHBOUR: 'it returns false'. Refute it at one input. -/
def waveDelaysWrong : ChangeSpec := { name := "waveDelays", fn := fun _ => fun
  | [d1, d2, d3] => { results := [.lit (.bool false)], args := [d1, d2, d3] }
  | _ => none }
def WaveDelaysWrongFalsely : Prop := waveDelaysRow.holds Try.pinned (OpenSpec.ofChange waveDelaysWrong)

/-- 'lidarlaw03.WaveTimes': WHATEVER THE INPUT: true; the input reads as it did. -/
def waveTimesSpec : ChangeSpec := { name := "waveTimes", fn := fun _ => fun
  | [d1, d2] => { results := [.lit (.bool true)], args := [d1, d2] }
  | _ => none }
def waveTimesRow : OpenClaim := { program := "ytagcgldhhdecjaa", sum := "e67ac2c1da8d350f842fe146af8f22a00e47ab0b1ef61c48e14543ece9861395", func := "lidar/lidarlaw03.WaveTimes", spec := "waveTimes", unfollowed := true, recurses := true, apart := false }
def WaveTimesSaid : Prop := waveTimesRow.holds Try.pinned (OpenSpec.ofChange waveTimesSpec)

/-- ITS FALSE NEIGHBOUR: 'it returns false'. Refute it at one input. -/
def waveTimesWrong : ChangeSpec := { name := "waveTimes", fn := fun _ => fun
  | [d1, d2] => { results := [.lit (.bool false)], args := [d1, d2] }
  | _ => none }
def WaveTimesWrongFalsely : Prop := waveTimesRow.holds Try.pinned (OpenSpec.ofChange waveTimesWrong)

/-- 'lidarlaw03.WaveLifts': WHATEVER THE INPUT: true; the input reads as it did. -/
def waveLiftsSpec : ChangeSpec := { name := "waveLifts", fn := fun _ => fun
  | [d1, d2, d3] => { results := [.lit (.bool true)], args := [d1, d2, d3] }
  | _ => none }
def waveLiftsRow : OpenClaim := { program := "ytagcgldhhdecjaa", sum := "e67ac2c1da8d350f842fe146af8f22a00e47ab0b1ef61c48e14543ece9861395", func := "lidar/lidarlaw03.WaveLifts", spec := "waveLifts", unfollowed := true, recurses := true, apart := false }
def WaveLiftsSaid : Prop := waveLiftsRow.holds Try.pinned (OpenSpec.ofChange waveLiftsSpec)

/-- ITS FALSE NEIGHBOUR: 'it returns false'. Refute it at one input. -/
def waveLiftsWrong : ChangeSpec := { name := "waveLifts", fn := fun _ => fun
  | [d1, d2, d3] => { results := [.lit (.bool false)], args := [d1, d2, d3] }
  | _ => none }
def WaveLiftsWrongFalsely : Prop := waveLiftsRow.holds Try.pinned (OpenSpec.ofChange waveLiftsWrong)

/-- 'lidarlaw03.WaveDigitizes': WHATEVER THE INPUT: true; the input reads as it did. -/
def waveDigitizesSpec : ChangeSpec := { name := "waveDigitizes", fn := fun _ => fun
  | [d] => { results := [.lit (.bool true)], args := [d] }
  | _ => none }
def waveDigitizesRow : OpenClaim := { program := "ytagcgldhhdecjaa", sum := "e67ac2c1da8d350f842fe146af8f22a00e47ab0b1ef61c48e14543ece9861395", func := "lidar/lidarlaw03.WaveDigitizes", spec := "waveDigitizes", unfollowed := true, recurses := true, apart := false }
def WaveDigitizesSaid : Prop := waveDigitizesRow.holds Try.pinned (OpenSpec.ofChange waveDigitizesSpec)

/-- ITS FALSE NEIGHBOUR: 'it returns false'. Refute it at one input. -/
def waveDigitizesWrong : ChangeSpec := { name := "waveDigitizes", fn := fun _ => fun
  | [d] => { results := [.lit (.bool false)], args := [d] }
  | _ => none }
def WaveDigitizesWrongFalsely : Prop := waveDigitizesRow.holds Try.pinned (OpenSpec.ofChange waveDigitizesWrong)

/-- 'lidarlaw03.WaveBounds': WHATEVER THE INPUT: true; the input reads as it did. -/
def waveBoundsSpec : ChangeSpec := { name := "waveBounds", fn := fun _ => fun
  | [d1, d2] => { results := [.lit (.bool true)], args := [d1, d2] }
  | _ => none }
def waveBoundsRow : OpenClaim := { program := "ytagcgldhhdecjaa", sum := "e67ac2c1da8d350f842fe146af8f22a00e47ab0b1ef61c48e14543ece9861395", func := "lidar/lidarlaw03.WaveBounds", spec := "waveBounds", unfollowed := true, recurses := true, apart := false }
def WaveBoundsSaid : Prop := waveBoundsRow.holds Try.pinned (OpenSpec.ofChange waveBoundsSpec)

/-- ITS FALSE NEIGHBOUR: 'it returns false'. Refute it at one input. -/
def waveBoundsWrong : ChangeSpec := { name := "waveBounds", fn := fun _ => fun
  | [d1, d2] => { results := [.lit (.bool false)], args := [d1, d2] }
  | _ => none }
def WaveBoundsWrongFalsely : Prop := waveBoundsRow.holds Try.pinned (OpenSpec.ofChange waveBoundsWrong)

/-- 'lidarlaw03.WaveDiffers': WHATEVER THE INPUT: true; the input reads as it did. -/
def waveDiffersSpec : ChangeSpec := { name := "waveDiffers", fn := fun _ => fun
  | [d] => { results := [.lit (.bool true)], args := [d] }
  | _ => none }
def waveDiffersRow : OpenClaim := { program := "ytagcgldhhdecjaa", sum := "e67ac2c1da8d350f842fe146af8f22a00e47ab0b1ef61c48e14543ece9861395", func := "lidar/lidarlaw03.WaveDiffers", spec := "waveDiffers", unfollowed := true, recurses := true, apart := false }
def WaveDiffersSaid : Prop := waveDiffersRow.holds Try.pinned (OpenSpec.ofChange waveDiffersSpec)

/-- ITS FALSE NEIGHBOUR: 'it returns false'. Refute it at one input. -/
def waveDiffersWrong : ChangeSpec := { name := "waveDiffers", fn := fun _ => fun
  | [d] => { results := [.lit (.bool false)], args := [d] }
  | _ => none }
def WaveDiffersWrongFalsely : Prop := waveDiffersRow.holds Try.pinned (OpenSpec.ofChange waveDiffersWrong)

/-- 'lidarlaw03.WaveSums': WHATEVER THE INPUT: true; the input reads as it did. -/
def waveSumsSpec : ChangeSpec := { name := "waveSums", fn := fun _ => fun
  | [d] => { results := [.lit (.bool true)], args := [d] }
  | _ => none }
def waveSumsRow : OpenClaim := { program := "ytagcgldhhdecjaa", sum := "e67ac2c1da8d350f842fe146af8f22a00e47ab0b1ef61c48e14543ece9861395", func := "lidar/lidarlaw03.WaveSums", spec := "waveSums", unfollowed := true, recurses := true, apart := false }
def WaveSumsSaid : Prop := waveSumsRow.holds Try.pinned (OpenSpec.ofChange waveSumsSpec)

/-- ITS FALSE NEIGHBOUR: 'it returns false'. Refute it at one input. -/
def waveSumsWrong : ChangeSpec := { name := "waveSums", fn := fun _ => fun
  | [d] => { results := [.lit (.bool false)], args := [d] }
  | _ => none }
def WaveSumsWrongFalsely : Prop := waveSumsRow.holds Try.pinned (OpenSpec.ofChange waveSumsWrong)

/-- 'lidarlaw03.WaveSteps': WHATEVER THE INPUT: true; the input reads as it did. -/
def waveStepsSpec : ChangeSpec := { name := "waveSteps", fn := fun _ => fun
  | [d] => { results := [.lit (.bool true)], args := [d] }
  | _ => none }
def waveStepsRow : OpenClaim := { program := "ytagcgldhhdecjaa", sum := "e67ac2c1da8d350f842fe146af8f22a00e47ab0b1ef61c48e14543ece9861395", func := "lidar/lidarlaw03.WaveSteps", spec := "waveSteps", unfollowed := true, recurses := true, apart := false }
def WaveStepsSaid : Prop := waveStepsRow.holds Try.pinned (OpenSpec.ofChange waveStepsSpec)

/-- ITS FALSE NEIGHBOUR: 'it returns false'. Refute it at one input. -/
def waveStepsWrong : ChangeSpec := { name := "waveSteps", fn := fun _ => fun
  | [d] => { results := [.lit (.bool false)], args := [d] }
  | _ => none }
def WaveStepsWrongFalsely : Prop := waveStepsRow.holds Try.pinned (OpenSpec.ofChange waveStepsWrong)

/-- 'lidarlaw03.WaveRanges': WHATEVER THE INPUT: true; the input reads as it did. -/
def waveRangesSpec : ChangeSpec := { name := "waveRanges", fn := fun _ => fun
  | [d1, d2] => { results := [.lit (.bool true)], args := [d1, d2] }
  | _ => none }
def waveRangesRow : OpenClaim := { program := "ytagcgldhhdecjaa", sum := "e67ac2c1da8d350f842fe146af8f22a00e47ab0b1ef61c48e14543ece9861395", func := "lidar/lidarlaw03.WaveRanges", spec := "waveRanges", unfollowed := true, recurses := true, apart := false }
def WaveRangesSaid : Prop := waveRangesRow.holds Try.pinned (OpenSpec.ofChange waveRangesSpec)

/-- ITS FALSE NEIGHBOUR: 'it returns false'. Refute it at one input. -/
def waveRangesWrong : ChangeSpec := { name := "waveRanges", fn := fun _ => fun
  | [d1, d2] => { results := [.lit (.bool false)], args := [d1, d2] }
  | _ => none }
def WaveRangesWrongFalsely : Prop := waveRangesRow.holds Try.pinned (OpenSpec.ofChange waveRangesWrong)

/-- 'lidarlaw03.WaveEncodes': WHATEVER THE INPUT: true; the input reads as it did. -/
def waveEncodesSpec : ChangeSpec := { name := "waveEncodes", fn := fun _ => fun
  | [d] => { results := [.lit (.bool true)], args := [d] }
  | _ => none }
def waveEncodesRow : OpenClaim := { program := "ytagcgldhhdecjaa", sum := "e67ac2c1da8d350f842fe146af8f22a00e47ab0b1ef61c48e14543ece9861395", func := "lidar/lidarlaw03.WaveEncodes", spec := "waveEncodes", unfollowed := true, recurses := true, apart := false }
def WaveEncodesSaid : Prop := waveEncodesRow.holds Try.pinned (OpenSpec.ofChange waveEncodesSpec)

/-- ITS FALSE NEIGHBOUR: 'it returns false'. Refute it at one input. -/
def waveEncodesWrong : ChangeSpec := { name := "waveEncodes", fn := fun _ => fun
  | [d] => { results := [.lit (.bool false)], args := [d] }
  | _ => none }
def WaveEncodesWrongFalsely : Prop := waveEncodesRow.holds Try.pinned (OpenSpec.ofChange waveEncodesWrong)

/-- 'lidarlaw03.WaveTravels': WHATEVER THE INPUT: true; the input reads as it did. -/
def waveTravelsSpec : ChangeSpec := { name := "waveTravels", fn := fun _ => fun
  | [d1, d2, d3] => { results := [.lit (.bool true)], args := [d1, d2, d3] }
  | _ => none }
def waveTravelsRow : OpenClaim := { program := "ytagcgldhhdecjaa", sum := "e67ac2c1da8d350f842fe146af8f22a00e47ab0b1ef61c48e14543ece9861395", func := "lidar/lidarlaw03.WaveTravels", spec := "waveTravels", unfollowed := true, recurses := true, apart := false }
def WaveTravelsSaid : Prop := waveTravelsRow.holds Try.pinned (OpenSpec.ofChange waveTravelsSpec)

/-- ITS FALSE NEIGHBOUR: 'it returns false'. Refute it at one input. -/
def waveTravelsWrong : ChangeSpec := { name := "waveTravels", fn := fun _ => fun
  | [d1, d2, d3] => { results := [.lit (.bool false)], args := [d1, d2, d3] }
  | _ => none }
def WaveTravelsWrongFalsely : Prop := waveTravelsRow.holds Try.pinned (OpenSpec.ofChange waveTravelsWrong)

/-- 'lidarlaw03.WaveDecodes': WHATEVER THE INPUT: true; the input reads as it did. -/
def waveDecodesSpec : ChangeSpec := { name := "waveDecodes", fn := fun _ => fun
  | [d] => { results := [.lit (.bool true)], args := [d] }
  | _ => none }
def waveDecodesRow : OpenClaim := { program := "ytagcgldhhdecjaa", sum := "e67ac2c1da8d350f842fe146af8f22a00e47ab0b1ef61c48e14543ece9861395", func := "lidar/lidarlaw03.WaveDecodes", spec := "waveDecodes", unfollowed := true, recurses := true, apart := false }
def WaveDecodesSaid : Prop := waveDecodesRow.holds Try.pinned (OpenSpec.ofChange waveDecodesSpec)

/-- ITS FALSE NEIGHBOUR: 'it returns false'. Refute it at one input. -/
def waveDecodesWrong : ChangeSpec := { name := "waveDecodes", fn := fun _ => fun
  | [d] => { results := [.lit (.bool false)], args := [d] }
  | _ => none }
def WaveDecodesWrongFalsely : Prop := waveDecodesRow.holds Try.pinned (OpenSpec.ofChange waveDecodesWrong)

/-- 'lidarlaw03.WaveReturns': WHATEVER THE INPUT: true; the input reads as it did. -/
def waveReturnsSpec : ChangeSpec := { name := "waveReturns", fn := fun _ => fun
  | [d1, d2] => { results := [.lit (.bool true)], args := [d1, d2] }
  | _ => none }
def waveReturnsRow : OpenClaim := { program := "ytagcgldhhdecjaa", sum := "e67ac2c1da8d350f842fe146af8f22a00e47ab0b1ef61c48e14543ece9861395", func := "lidar/lidarlaw03.WaveReturns", spec := "waveReturns", unfollowed := true, recurses := true, apart := false }
def WaveReturnsSaid : Prop := waveReturnsRow.holds Try.pinned (OpenSpec.ofChange waveReturnsSpec)

/-- ITS FALSE NEIGHBOUR: 'it returns false'. Refute it at one input. -/
def waveReturnsWrong : ChangeSpec := { name := "waveReturns", fn := fun _ => fun
  | [d1, d2] => { results := [.lit (.bool false)], args := [d1, d2] }
  | _ => none }
def WaveReturnsWrongFalsely : Prop := waveReturnsRow.holds Try.pinned (OpenSpec.ofChange waveReturnsWrong)

/-- 'lidarlaw03.WaveReturnsBack': WHATEVER THE INPUT: true; the input reads as it did. -/
def waveReturnsBackSpec : ChangeSpec := { name := "waveReturnsBack", fn := fun _ => fun
  | [d] => { results := [.lit (.bool true)], args := [d] }
  | _ => none }
def waveReturnsBackRow : OpenClaim := { program := "ytagcgldhhdecjaa", sum := "e67ac2c1da8d350f842fe146af8f22a00e47ab0b1ef61c48e14543ece9861395", func := "lidar/lidarlaw03.WaveReturnsBack", spec := "waveReturnsBack", unfollowed := true, recurses := true, apart := false }
def WaveReturnsBackSaid : Prop := waveReturnsBackRow.holds Try.pinned (OpenSpec.ofChange waveReturnsBackSpec)

/-- ITS FALSE NEIGHBOUR: 'it returns false'. Refute it at one input. -/
def waveReturnsBackWrong : ChangeSpec := { name := "waveReturnsBack", fn := fun _ => fun
  | [d] => { results := [.lit (.bool false)], args := [d] }
  | _ => none }
def WaveReturnsBackWrongFalsely : Prop := waveReturnsBackRow.holds Try.pinned (OpenSpec.ofChange waveReturnsBackWrong)

/- THE SECOND FORM. 'bulk': how many values and letters a reading holds, each counted each time it is reached (what is shared counts as often as it is met; a slice's spare places count too). A statement '..UptoSaid' is the law's where the arguments, and the package variables that the reading takes, are together of bulk at most 1048576: NARROWER than '..Said'. Prove '..Said' where nothing that the law and all that it calls make is longer than what came in: it says more and counts as full. Else prove '..UptoSaid'. A law counts once. -/
mutual
def uptoBulk {H : Type} : DataW H → Nat
  | .lit (.string bytes) => bytes.length + 1
  | .lit _ => 1
  | .nil => 1
  | .ptr d => uptoBulk d + 1
  | .slice elems spare => uptoBulkAll elems + uptoBulkAll spare + 1
  | .agg parts => uptoBulkAll parts + 1
  | .iface _ d => uptoBulk d + 1
  | .map entries => uptoBulkEntries entries + 1
  | .held _ => 1
def uptoBulkAll {H : Type} : List (DataW H) → Nat
  | [] => 0
  | d :: r => uptoBulk d + uptoBulkAll r
def uptoBulkEntries {H : Type} : List (Lit × DataW H) → Nat
  | [] => 0
  | x :: r => uptoBulkEntry x + uptoBulkEntries r
def uptoBulkEntry {H : Type} : Lit × DataW H → Nat
  | (.string bytes, d) => bytes.length + uptoBulk d + 1
  | (_, d) => uptoBulk d + 1
 end
def uptoSmall : (H : Type) → List (DataW H) → Bool := fun _ ds => decide (uptoBulkAll ds ≤ 1048576)
def OpenSpec.upto (s : _root_.Go.ChangeSpec) : _root_.Go.OpenSpec := { _root_.Go.OpenSpec.ofChange s with cond := some uptoSmall }

/-- 'lidarlaw03.WaveRuns', WHERE WHAT IT READS IS OF BULK AT MOST 1048576: true; the input reads as it did. -/
def waveRunsUptoRow : OpenClaim := { program := "ytagcgldhhdecjaa", sum := "e67ac2c1da8d350f842fe146af8f22a00e47ab0b1ef61c48e14543ece9861395", func := "lidar/lidarlaw03.WaveRuns", spec := "waveRuns", unfollowed := true, recurses := true, apart := false, narrowed := true }
def WaveRunsUptoSaid : Prop := waveRunsUptoRow.holds Try.pinned (OpenSpec.upto waveRunsSpec)

/-- 'lidarlaw03.WaveEchoes', WHERE WHAT IT READS IS OF BULK AT MOST 1048576: true; the input reads as it did. -/
def waveEchoesUptoRow : OpenClaim := { program := "ytagcgldhhdecjaa", sum := "e67ac2c1da8d350f842fe146af8f22a00e47ab0b1ef61c48e14543ece9861395", func := "lidar/lidarlaw03.WaveEchoes", spec := "waveEchoes", unfollowed := true, recurses := true, apart := false, narrowed := true }
def WaveEchoesUptoSaid : Prop := waveEchoesUptoRow.holds Try.pinned (OpenSpec.upto waveEchoesSpec)

/-- 'lidarlaw03.WaveChains', WHERE WHAT IT READS IS OF BULK AT MOST 1048576: true; the input reads as it did. -/
def waveChainsUptoRow : OpenClaim := { program := "ytagcgldhhdecjaa", sum := "e67ac2c1da8d350f842fe146af8f22a00e47ab0b1ef61c48e14543ece9861395", func := "lidar/lidarlaw03.WaveChains", spec := "waveChains", unfollowed := true, recurses := true, apart := false, narrowed := true }
def WaveChainsUptoSaid : Prop := waveChainsUptoRow.holds Try.pinned (OpenSpec.upto waveChainsSpec)

/-- 'lidarlaw03.WaveDelays', WHERE WHAT IT READS IS OF BULK AT MOST 1048576: true; the input reads as it did. -/
def waveDelaysUptoRow : OpenClaim := { program := "ytagcgldhhdecjaa", sum := "e67ac2c1da8d350f842fe146af8f22a00e47ab0b1ef61c48e14543ece9861395", func := "lidar/lidarlaw03.WaveDelays", spec := "waveDelays", unfollowed := true, recurses := true, apart := false, narrowed := true }
def WaveDelaysUptoSaid : Prop := waveDelaysUptoRow.holds Try.pinned (OpenSpec.upto waveDelaysSpec)

/-- 'lidarlaw03.WaveTimes', WHERE WHAT IT READS IS OF BULK AT MOST 1048576: true; the input reads as it did. -/
def waveTimesUptoRow : OpenClaim := { program := "ytagcgldhhdecjaa", sum := "e67ac2c1da8d350f842fe146af8f22a00e47ab0b1ef61c48e14543ece9861395", func := "lidar/lidarlaw03.WaveTimes", spec := "waveTimes", unfollowed := true, recurses := true, apart := false, narrowed := true }
def WaveTimesUptoSaid : Prop := waveTimesUptoRow.holds Try.pinned (OpenSpec.upto waveTimesSpec)

/-- 'lidarlaw03.WaveLifts', WHERE WHAT IT READS IS OF BULK AT MOST 1048576: true; the input reads as it did. -/
def waveLiftsUptoRow : OpenClaim := { program := "ytagcgldhhdecjaa", sum := "e67ac2c1da8d350f842fe146af8f22a00e47ab0b1ef61c48e14543ece9861395", func := "lidar/lidarlaw03.WaveLifts", spec := "waveLifts", unfollowed := true, recurses := true, apart := false, narrowed := true }
def WaveLiftsUptoSaid : Prop := waveLiftsUptoRow.holds Try.pinned (OpenSpec.upto waveLiftsSpec)

/-- 'lidarlaw03.WaveDigitizes', WHERE WHAT IT READS IS OF BULK AT MOST 1048576: true; the input reads as it did. -/
def waveDigitizesUptoRow : OpenClaim := { program := "ytagcgldhhdecjaa", sum := "e67ac2c1da8d350f842fe146af8f22a00e47ab0b1ef61c48e14543ece9861395", func := "lidar/lidarlaw03.WaveDigitizes", spec := "waveDigitizes", unfollowed := true, recurses := true, apart := false, narrowed := true }
def WaveDigitizesUptoSaid : Prop := waveDigitizesUptoRow.holds Try.pinned (OpenSpec.upto waveDigitizesSpec)

/-- 'lidarlaw03.WaveBounds', WHERE WHAT IT READS IS OF BULK AT MOST 1048576: true; the input reads as it did. -/
def waveBoundsUptoRow : OpenClaim := { program := "ytagcgldhhdecjaa", sum := "e67ac2c1da8d350f842fe146af8f22a00e47ab0b1ef61c48e14543ece9861395", func := "lidar/lidarlaw03.WaveBounds", spec := "waveBounds", unfollowed := true, recurses := true, apart := false, narrowed := true }
def WaveBoundsUptoSaid : Prop := waveBoundsUptoRow.holds Try.pinned (OpenSpec.upto waveBoundsSpec)

/-- 'lidarlaw03.WaveDiffers', WHERE WHAT IT READS IS OF BULK AT MOST 1048576: true; the input reads as it did. -/
def waveDiffersUptoRow : OpenClaim := { program := "ytagcgldhhdecjaa", sum := "e67ac2c1da8d350f842fe146af8f22a00e47ab0b1ef61c48e14543ece9861395", func := "lidar/lidarlaw03.WaveDiffers", spec := "waveDiffers", unfollowed := true, recurses := true, apart := false, narrowed := true }
def WaveDiffersUptoSaid : Prop := waveDiffersUptoRow.holds Try.pinned (OpenSpec.upto waveDiffersSpec)

/-- 'lidarlaw03.WaveSums', WHERE WHAT IT READS IS OF BULK AT MOST 1048576: true; the input reads as it did. -/
def waveSumsUptoRow : OpenClaim := { program := "ytagcgldhhdecjaa", sum := "e67ac2c1da8d350f842fe146af8f22a00e47ab0b1ef61c48e14543ece9861395", func := "lidar/lidarlaw03.WaveSums", spec := "waveSums", unfollowed := true, recurses := true, apart := false, narrowed := true }
def WaveSumsUptoSaid : Prop := waveSumsUptoRow.holds Try.pinned (OpenSpec.upto waveSumsSpec)

/-- 'lidarlaw03.WaveSteps', WHERE WHAT IT READS IS OF BULK AT MOST 1048576: true; the input reads as it did. -/
def waveStepsUptoRow : OpenClaim := { program := "ytagcgldhhdecjaa", sum := "e67ac2c1da8d350f842fe146af8f22a00e47ab0b1ef61c48e14543ece9861395", func := "lidar/lidarlaw03.WaveSteps", spec := "waveSteps", unfollowed := true, recurses := true, apart := false, narrowed := true }
def WaveStepsUptoSaid : Prop := waveStepsUptoRow.holds Try.pinned (OpenSpec.upto waveStepsSpec)

/-- 'lidarlaw03.WaveRanges', WHERE WHAT IT READS IS OF BULK AT MOST 1048576: true; the input reads as it did. -/
def waveRangesUptoRow : OpenClaim := { program := "ytagcgldhhdecjaa", sum := "e67ac2c1da8d350f842fe146af8f22a00e47ab0b1ef61c48e14543ece9861395", func := "lidar/lidarlaw03.WaveRanges", spec := "waveRanges", unfollowed := true, recurses := true, apart := false, narrowed := true }
def WaveRangesUptoSaid : Prop := waveRangesUptoRow.holds Try.pinned (OpenSpec.upto waveRangesSpec)

/-- 'lidarlaw03.WaveEncodes', WHERE WHAT IT READS IS OF BULK AT MOST 1048576: true; the input reads as it did. -/
def waveEncodesUptoRow : OpenClaim := { program := "ytagcgldhhdecjaa", sum := "e67ac2c1da8d350f842fe146af8f22a00e47ab0b1ef61c48e14543ece9861395", func := "lidar/lidarlaw03.WaveEncodes", spec := "waveEncodes", unfollowed := true, recurses := true, apart := false, narrowed := true }
def WaveEncodesUptoSaid : Prop := waveEncodesUptoRow.holds Try.pinned (OpenSpec.upto waveEncodesSpec)

/-- 'lidarlaw03.WaveTravels', WHERE WHAT IT READS IS OF BULK AT MOST 1048576: true; the input reads as it did. -/
def waveTravelsUptoRow : OpenClaim := { program := "ytagcgldhhdecjaa", sum := "e67ac2c1da8d350f842fe146af8f22a00e47ab0b1ef61c48e14543ece9861395", func := "lidar/lidarlaw03.WaveTravels", spec := "waveTravels", unfollowed := true, recurses := true, apart := false, narrowed := true }
def WaveTravelsUptoSaid : Prop := waveTravelsUptoRow.holds Try.pinned (OpenSpec.upto waveTravelsSpec)

/-- 'lidarlaw03.WaveDecodes', WHERE WHAT IT READS IS OF BULK AT MOST 1048576: true; the input reads as it did. -/
def waveDecodesUptoRow : OpenClaim := { program := "ytagcgldhhdecjaa", sum := "e67ac2c1da8d350f842fe146af8f22a00e47ab0b1ef61c48e14543ece9861395", func := "lidar/lidarlaw03.WaveDecodes", spec := "waveDecodes", unfollowed := true, recurses := true, apart := false, narrowed := true }
def WaveDecodesUptoSaid : Prop := waveDecodesUptoRow.holds Try.pinned (OpenSpec.upto waveDecodesSpec)

/-- 'lidarlaw03.WaveReturns', WHERE WHAT IT READS IS OF BULK AT MOST 1048576: true; the input reads as it did. -/
def waveReturnsUptoRow : OpenClaim := { program := "ytagcgldhhdecjaa", sum := "e67ac2c1da8d350f842fe146af8f22a00e47ab0b1ef61c48e14543ece9861395", func := "lidar/lidarlaw03.WaveReturns", spec := "waveReturns", unfollowed := true, recurses := true, apart := false, narrowed := true }
def WaveReturnsUptoSaid : Prop := waveReturnsUptoRow.holds Try.pinned (OpenSpec.upto waveReturnsSpec)

/-- 'lidarlaw03.WaveReturnsBack', WHERE WHAT IT READS IS OF BULK AT MOST 1048576: true; the input reads as it did. -/
def waveReturnsBackUptoRow : OpenClaim := { program := "ytagcgldhhdecjaa", sum := "e67ac2c1da8d350f842fe146af8f22a00e47ab0b1ef61c48e14543ece9861395", func := "lidar/lidarlaw03.WaveReturnsBack", spec := "waveReturnsBack", unfollowed := true, recurses := true, apart := false, narrowed := true }
def WaveReturnsBackUptoSaid : Prop := waveReturnsBackUptoRow.holds Try.pinned (OpenSpec.upto waveReturnsBackSpec)

end Rows
end Go.Proofs.Ytagcgldhhdecjaa
