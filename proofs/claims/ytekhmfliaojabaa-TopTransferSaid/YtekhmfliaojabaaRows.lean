/-
  No cell of these rows narrows 'for every input' (looked for: loops, veiled, ifaces, maps, wideKeys, modest, calm, conditions, laid).
  DERIVED. THE GIVEN ROWS OF THIS SEAT. 15 by the template 'for every input the law returns true; each argument reads behind the call as it read before'; 0 by the template 'total and deterministic' (their statements: YtekhmfliaojabaaTotals.lean).
  GIVEN WITH THE SEED: the statements are not yours to turn. If you find one false, say at which input.
  Laid BY PROGRAM, IN A SANDBOX (cutbox-rows.mjs): the forced cells as the released guide's own fill.sh prints them over the translation 715af5a1e5fa5a0a… (all of the seat's roots in one cut). By AI agents, Wed Nov 11 2026. No macro, syntax, notation, axiom, sorry.
-/
import Derived.Test.YtekhmfliaojabaaChecked
import GoSem.Claim
import GoSem.ClaimJoined
import GoSem.ClaimMapViews
import Derived.JoinedTies
import Derived.KernelRfl
namespace Go.Proofs.Ytekhmfliaojabaa
/- THE CELL 'sum', in the pinned program and in every row, IS THE sha256 OF THE DUMP (.gsa) THAT YtekhmfliaojabaaProg.lean LOADS. Nothing in Lean hashes anything: it is a label: what it is worth is what the hold of that sum in a sandbox is worth. -/
noncomputable def Try.pinned : Pinned := { name := "ytekhmfliaojabaa", sum := "715af5a1e5fa5a0a8523114675e7d840f5b1acc60cead6018598b31153e68ede", checked := Try.checked }
namespace Rows
def none {H : Type} : Left H := { results := [], args := [] }

/-- 'lidarlaw02.LinkReads': WHATEVER THE INPUT: true; the input reads as it did. -/
def linkReadsSpec : ChangeSpec := { name := "linkReads", fn := fun _ => fun
  | [d] => { results := [.lit (.bool true)], args := [d] }
  | _ => none }
def linkReadsRow : OpenClaim := { program := "ytekhmfliaojabaa", sum := "715af5a1e5fa5a0a8523114675e7d840f5b1acc60cead6018598b31153e68ede", func := "lidar/lidarlaw02.LinkReads", spec := "linkReads", apart := false }
def LinkReadsSaid : Prop := linkReadsRow.holds Try.pinned (OpenSpec.ofChange linkReadsSpec)

/-- ITS FALSE NEIGHBOUR: 'it returns false'. Refute it at one input. -/
def linkReadsWrong : ChangeSpec := { name := "linkReads", fn := fun _ => fun
  | [d] => { results := [.lit (.bool false)], args := [d] }
  | _ => none }
def LinkReadsWrongFalsely : Prop := linkReadsRow.holds Try.pinned (OpenSpec.ofChange linkReadsWrong)

/-- 'lidarlaw02.LinkNumbers': WHATEVER THE INPUT: true; the input reads as it did. -/
def linkNumbersSpec : ChangeSpec := { name := "linkNumbers", fn := fun _ => fun
  | [d1, d2, d3] => { results := [.lit (.bool true)], args := [d1, d2, d3] }
  | _ => none }
def linkNumbersRow : OpenClaim := { program := "ytekhmfliaojabaa", sum := "715af5a1e5fa5a0a8523114675e7d840f5b1acc60cead6018598b31153e68ede", func := "lidar/lidarlaw02.LinkNumbers", spec := "linkNumbers", apart := false }
def LinkNumbersSaid : Prop := linkNumbersRow.holds Try.pinned (OpenSpec.ofChange linkNumbersSpec)

/-- ITS FALSE NEIGHBOUR: 'it returns false'. Refute it at one input. -/
def linkNumbersWrong : ChangeSpec := { name := "linkNumbers", fn := fun _ => fun
  | [d1, d2, d3] => { results := [.lit (.bool false)], args := [d1, d2, d3] }
  | _ => none }
def LinkNumbersWrongFalsely : Prop := linkNumbersRow.holds Try.pinned (OpenSpec.ofChange linkNumbersWrong)

/-- 'lidarlaw02.LinkCarries': WHATEVER THE INPUT: true; the input reads as it did. -/
def linkCarriesSpec : ChangeSpec := { name := "linkCarries", fn := fun _ => fun
  | [d1, d2] => { results := [.lit (.bool true)], args := [d1, d2] }
  | _ => none }
def linkCarriesRow : OpenClaim := { program := "ytekhmfliaojabaa", sum := "715af5a1e5fa5a0a8523114675e7d840f5b1acc60cead6018598b31153e68ede", func := "lidar/lidarlaw02.LinkCarries", spec := "linkCarries", apart := false }
def LinkCarriesSaid : Prop := linkCarriesRow.holds Try.pinned (OpenSpec.ofChange linkCarriesSpec)

/-- ITS FALSE NEIGHBOUR: 'it returns false'. Refute it at one input. -/
def linkCarriesWrong : ChangeSpec := { name := "linkCarries", fn := fun _ => fun
  | [d1, d2] => { results := [.lit (.bool false)], args := [d1, d2] }
  | _ => none }
def LinkCarriesWrongFalsely : Prop := linkCarriesRow.holds Try.pinned (OpenSpec.ofChange linkCarriesWrong)

/-- 'lidarlaw02.LinkUnpacks': WHATEVER THE INPUT: true; the input reads as it did. -/
def linkUnpacksSpec : ChangeSpec := { name := "linkUnpacks", fn := fun _ => fun
  | [d] => { results := [.lit (.bool true)], args := [d] }
  | _ => none }
def linkUnpacksRow : OpenClaim := { program := "ytekhmfliaojabaa", sum := "715af5a1e5fa5a0a8523114675e7d840f5b1acc60cead6018598b31153e68ede", func := "lidar/lidarlaw02.LinkUnpacks", spec := "linkUnpacks", apart := false }
def LinkUnpacksSaid : Prop := linkUnpacksRow.holds Try.pinned (OpenSpec.ofChange linkUnpacksSpec)

/-- ITS FALSE NEIGHBOUR: 'it returns false'. Refute it at one input. -/
def linkUnpacksWrong : ChangeSpec := { name := "linkUnpacks", fn := fun _ => fun
  | [d] => { results := [.lit (.bool false)], args := [d] }
  | _ => none }
def LinkUnpacksWrongFalsely : Prop := linkUnpacksRow.holds Try.pinned (OpenSpec.ofChange linkUnpacksWrong)

/-- 'lidarlaw02.LinkSends': WHATEVER THE INPUT: true; the input reads as it did. -/
def linkSendsSpec : ChangeSpec := { name := "linkSends", fn := fun _ => fun
  | [d1, d2, d3] => { results := [.lit (.bool true)], args := [d1, d2, d3] }
  | _ => none }
def linkSendsRow : OpenClaim := { program := "ytekhmfliaojabaa", sum := "715af5a1e5fa5a0a8523114675e7d840f5b1acc60cead6018598b31153e68ede", func := "lidar/lidarlaw02.LinkSends", spec := "linkSends", apart := false }
def LinkSendsSaid : Prop := linkSendsRow.holds Try.pinned (OpenSpec.ofChange linkSendsSpec)

/-- ITS FALSE NEIGHBOUR: 'it returns false'. Refute it at one input. -/
def linkSendsWrong : ChangeSpec := { name := "linkSends", fn := fun _ => fun
  | [d1, d2, d3] => { results := [.lit (.bool false)], args := [d1, d2, d3] }
  | _ => none }
def LinkSendsWrongFalsely : Prop := linkSendsRow.holds Try.pinned (OpenSpec.ofChange linkSendsWrong)

/-- 'lidarlaw02.LinkOnce': WHATEVER THE INPUT: true; the input reads as it did. -/
def linkOnceSpec : ChangeSpec := { name := "linkOnce", fn := fun _ => fun
  | [d1, d2] => { results := [.lit (.bool true)], args := [d1, d2] }
  | _ => none }
def linkOnceRow : OpenClaim := { program := "ytekhmfliaojabaa", sum := "715af5a1e5fa5a0a8523114675e7d840f5b1acc60cead6018598b31153e68ede", func := "lidar/lidarlaw02.LinkOnce", spec := "linkOnce", apart := false }
def LinkOnceSaid : Prop := linkOnceRow.holds Try.pinned (OpenSpec.ofChange linkOnceSpec)

/-- ITS FALSE NEIGHBOUR: 'it returns false'. Refute it at one input. -/
def linkOnceWrong : ChangeSpec := { name := "linkOnce", fn := fun _ => fun
  | [d1, d2] => { results := [.lit (.bool false)], args := [d1, d2] }
  | _ => none }
def LinkOnceWrongFalsely : Prop := linkOnceRow.holds Try.pinned (OpenSpec.ofChange linkOnceWrong)

/-- 'lidarlaw02.LinkOrders': WHATEVER THE INPUT: true; the input reads as it did. -/
def linkOrdersSpec : ChangeSpec := { name := "linkOrders", fn := fun _ => fun
  | [d1, d2] => { results := [.lit (.bool true)], args := [d1, d2] }
  | _ => none }
def linkOrdersRow : OpenClaim := { program := "ytekhmfliaojabaa", sum := "715af5a1e5fa5a0a8523114675e7d840f5b1acc60cead6018598b31153e68ede", func := "lidar/lidarlaw02.LinkOrders", spec := "linkOrders", apart := false }
def LinkOrdersSaid : Prop := linkOrdersRow.holds Try.pinned (OpenSpec.ofChange linkOrdersSpec)

/-- ITS FALSE NEIGHBOUR: 'it returns false'. Refute it at one input. -/
def linkOrdersWrong : ChangeSpec := { name := "linkOrders", fn := fun _ => fun
  | [d1, d2] => { results := [.lit (.bool false)], args := [d1, d2] }
  | _ => none }
def LinkOrdersWrongFalsely : Prop := linkOrdersRow.holds Try.pinned (OpenSpec.ofChange linkOrdersWrong)

/-- 'lidarlaw02.LinkPacks': WHATEVER THE INPUT: true; the input reads as it did. -/
def linkPacksSpec : ChangeSpec := { name := "linkPacks", fn := fun _ => fun
  | [d1, d2] => { results := [.lit (.bool true)], args := [d1, d2] }
  | _ => none }
def linkPacksRow : OpenClaim := { program := "ytekhmfliaojabaa", sum := "715af5a1e5fa5a0a8523114675e7d840f5b1acc60cead6018598b31153e68ede", func := "lidar/lidarlaw02.LinkPacks", spec := "linkPacks", apart := false }
def LinkPacksSaid : Prop := linkPacksRow.holds Try.pinned (OpenSpec.ofChange linkPacksSpec)

/-- ITS FALSE NEIGHBOUR: 'it returns false'. Refute it at one input. -/
def linkPacksWrong : ChangeSpec := { name := "linkPacks", fn := fun _ => fun
  | [d1, d2] => { results := [.lit (.bool false)], args := [d1, d2] }
  | _ => none }
def LinkPacksWrongFalsely : Prop := linkPacksRow.holds Try.pinned (OpenSpec.ofChange linkPacksWrong)

/-- 'lidarlaw02.LinkDamages': WHATEVER THE INPUT: true; the input reads as it did. -/
def linkDamagesSpec : ChangeSpec := { name := "linkDamages", fn := fun _ => fun
  | [d1, d2, d3] => { results := [.lit (.bool true)], args := [d1, d2, d3] }
  | _ => none }
def linkDamagesRow : OpenClaim := { program := "ytekhmfliaojabaa", sum := "715af5a1e5fa5a0a8523114675e7d840f5b1acc60cead6018598b31153e68ede", func := "lidar/lidarlaw02.LinkDamages", spec := "linkDamages", apart := false }
def LinkDamagesSaid : Prop := linkDamagesRow.holds Try.pinned (OpenSpec.ofChange linkDamagesSpec)

/-- ITS FALSE NEIGHBOUR: 'it returns false'. Refute it at one input. -/
def linkDamagesWrong : ChangeSpec := { name := "linkDamages", fn := fun _ => fun
  | [d1, d2, d3] => { results := [.lit (.bool false)], args := [d1, d2, d3] }
  | _ => none }
def LinkDamagesWrongFalsely : Prop := linkDamagesRow.holds Try.pinned (OpenSpec.ofChange linkDamagesWrong)

/-- 'lidarlaw02.LinkScans': WHATEVER THE INPUT: true; the input reads as it did. -/
def linkScansSpec : ChangeSpec := { name := "linkScans", fn := fun _ => fun
  | [d] => { results := [.lit (.bool true)], args := [d] }
  | _ => none }
def linkScansRow : OpenClaim := { program := "ytekhmfliaojabaa", sum := "715af5a1e5fa5a0a8523114675e7d840f5b1acc60cead6018598b31153e68ede", func := "lidar/lidarlaw02.LinkScans", spec := "linkScans", apart := false }
def LinkScansSaid : Prop := linkScansRow.holds Try.pinned (OpenSpec.ofChange linkScansSpec)

/-- ITS FALSE NEIGHBOUR: 'it returns false'. Refute it at one input. -/
def linkScansWrong : ChangeSpec := { name := "linkScans", fn := fun _ => fun
  | [d] => { results := [.lit (.bool false)], args := [d] }
  | _ => none }
def LinkScansWrongFalsely : Prop := linkScansRow.holds Try.pinned (OpenSpec.ofChange linkScansWrong)

/-- 'lidarlaw02.LinkFinds': WHATEVER THE INPUT: true; the input reads as it did. -/
def linkFindsSpec : ChangeSpec := { name := "linkFinds", fn := fun _ => fun
  | [d1, d2] => { results := [.lit (.bool true)], args := [d1, d2] }
  | _ => none }
def linkFindsRow : OpenClaim := { program := "ytekhmfliaojabaa", sum := "715af5a1e5fa5a0a8523114675e7d840f5b1acc60cead6018598b31153e68ede", func := "lidar/lidarlaw02.LinkFinds", spec := "linkFinds", apart := false }
def LinkFindsSaid : Prop := linkFindsRow.holds Try.pinned (OpenSpec.ofChange linkFindsSpec)

/-- ITS FALSE NEIGHBOUR: 'it returns false'. Refute it at one input. -/
def linkFindsWrong : ChangeSpec := { name := "linkFinds", fn := fun _ => fun
  | [d1, d2] => { results := [.lit (.bool false)], args := [d1, d2] }
  | _ => none }
def LinkFindsWrongFalsely : Prop := linkFindsRow.holds Try.pinned (OpenSpec.ofChange linkFindsWrong)

/-- 'lidarlaw02.LinkReceives': WHATEVER THE INPUT: true; the input reads as it did. -/
def linkReceivesSpec : ChangeSpec := { name := "linkReceives", fn := fun _ => fun
  | [d1, d2] => { results := [.lit (.bool true)], args := [d1, d2] }
  | _ => none }
def linkReceivesRow : OpenClaim := { program := "ytekhmfliaojabaa", sum := "715af5a1e5fa5a0a8523114675e7d840f5b1acc60cead6018598b31153e68ede", func := "lidar/lidarlaw02.LinkReceives", spec := "linkReceives", apart := false }
def LinkReceivesSaid : Prop := linkReceivesRow.holds Try.pinned (OpenSpec.ofChange linkReceivesSpec)

/-- ITS FALSE NEIGHBOUR: 'it returns false'. Refute it at one input. -/
def linkReceivesWrong : ChangeSpec := { name := "linkReceives", fn := fun _ => fun
  | [d1, d2] => { results := [.lit (.bool false)], args := [d1, d2] }
  | _ => none }
def LinkReceivesWrongFalsely : Prop := linkReceivesRow.holds Try.pinned (OpenSpec.ofChange linkReceivesWrong)

/-- 'lidarlaw02.LinkNils': WHATEVER THE INPUT: true; the input reads as it did. -/
def linkNilsSpec : ChangeSpec := { name := "linkNils", fn := fun _ => fun
  | [d1, d2, d3] => { results := [.lit (.bool true)], args := [d1, d2, d3] }
  | _ => none }
def linkNilsRow : OpenClaim := { program := "ytekhmfliaojabaa", sum := "715af5a1e5fa5a0a8523114675e7d840f5b1acc60cead6018598b31153e68ede", func := "lidar/lidarlaw02.LinkNils", spec := "linkNils", apart := false }
def LinkNilsSaid : Prop := linkNilsRow.holds Try.pinned (OpenSpec.ofChange linkNilsSpec)

/-- ITS FALSE NEIGHBOUR: 'it returns false'. Refute it at one input. -/
def linkNilsWrong : ChangeSpec := { name := "linkNils", fn := fun _ => fun
  | [d1, d2, d3] => { results := [.lit (.bool false)], args := [d1, d2, d3] }
  | _ => none }
def LinkNilsWrongFalsely : Prop := linkNilsRow.holds Try.pinned (OpenSpec.ofChange linkNilsWrong)

/-- 'lidarlaw02.LinkTransfers': WHATEVER THE INPUT: true; the input reads as it did. -/
def linkTransfersSpec : ChangeSpec := { name := "linkTransfers", fn := fun _ => fun
  | [d1, d2, d3] => { results := [.lit (.bool true)], args := [d1, d2, d3] }
  | _ => none }
def linkTransfersRow : OpenClaim := { program := "ytekhmfliaojabaa", sum := "715af5a1e5fa5a0a8523114675e7d840f5b1acc60cead6018598b31153e68ede", func := "lidar/lidarlaw02.LinkTransfers", spec := "linkTransfers", apart := false }
def LinkTransfersSaid : Prop := linkTransfersRow.holds Try.pinned (OpenSpec.ofChange linkTransfersSpec)

/-- ITS FALSE NEIGHBOUR: 'it returns false'. Refute it at one input. -/
def linkTransfersWrong : ChangeSpec := { name := "linkTransfers", fn := fun _ => fun
  | [d1, d2, d3] => { results := [.lit (.bool false)], args := [d1, d2, d3] }
  | _ => none }
def LinkTransfersWrongFalsely : Prop := linkTransfersRow.holds Try.pinned (OpenSpec.ofChange linkTransfersWrong)

/-- 'lidartop.TopTransfer': WHATEVER THE INPUT: true; the input reads as it did. -/
def topTransferSpec : ChangeSpec := { name := "topTransfer", fn := fun _ => fun
  | [d1, d2, d3] => { results := [.lit (.bool true)], args := [d1, d2, d3] }
  | _ => none }
def topTransferRow : OpenClaim := { program := "ytekhmfliaojabaa", sum := "715af5a1e5fa5a0a8523114675e7d840f5b1acc60cead6018598b31153e68ede", func := "lidar/lidartop.TopTransfer", spec := "topTransfer", apart := false }
def TopTransferSaid : Prop := topTransferRow.holds Try.pinned (OpenSpec.ofChange topTransferSpec)

/-- ITS FALSE NEIGHBOUR: 'it returns false'. Refute it at one input. -/
def topTransferWrong : ChangeSpec := { name := "topTransfer", fn := fun _ => fun
  | [d1, d2, d3] => { results := [.lit (.bool false)], args := [d1, d2, d3] }
  | _ => none }
def TopTransferWrongFalsely : Prop := topTransferRow.holds Try.pinned (OpenSpec.ofChange topTransferWrong)

/- THE SECOND FORM. 'bulk': how many values and letters a reading holds, each counted each time it is reached (what is shared counts as often as it is met; a slice's spare places count too). A statement '..UptoSaid' is the law's where the arguments, and the package variables that the reading takes, are together of bulk at most 1048576: NARROWER than '..Said'. Prove '..Said' where nothing that the law and all that it calls make is longer than what came in: it says more and counts as full. Else prove '..UptoSaid'. A law counts once. -/
mutual
def uptoBulk {H : Type} : DataW H → Nat
  | .lit (.string bytes) => bytes.length + 1
  | .lit _ => 1
  | .nil => 1
  | .ptr d => uptoBulk d + 1
  | .slice elems spare => uptoBulkAll elems + uptoBulkAll spare + 1
  | .agg parts => uptoBulkAll parts + 1
  | .iface _ d => uptoBulk d + 1
  | .map entries => uptoBulkEntries entries + 1
  | .held _ => 1
def uptoBulkAll {H : Type} : List (DataW H) → Nat
  | [] => 0
  | d :: r => uptoBulk d + uptoBulkAll r
def uptoBulkEntries {H : Type} : List (Lit × DataW H) → Nat
  | [] => 0
  | x :: r => uptoBulkEntry x + uptoBulkEntries r
def uptoBulkEntry {H : Type} : Lit × DataW H → Nat
  | (.string bytes, d) => bytes.length + uptoBulk d + 1
  | (_, d) => uptoBulk d + 1
 end
def uptoSmall : (H : Type) → List (DataW H) → Bool := fun _ ds => decide (uptoBulkAll ds ≤ 1048576)
def OpenSpec.upto (s : _root_.Go.ChangeSpec) : _root_.Go.OpenSpec := { _root_.Go.OpenSpec.ofChange s with cond := some uptoSmall }

/-- 'lidarlaw02.LinkReads', WHERE WHAT IT READS IS OF BULK AT MOST 1048576: true; the input reads as it did. -/
def linkReadsUptoRow : OpenClaim := { program := "ytekhmfliaojabaa", sum := "715af5a1e5fa5a0a8523114675e7d840f5b1acc60cead6018598b31153e68ede", func := "lidar/lidarlaw02.LinkReads", spec := "linkReads", apart := false, narrowed := true }
def LinkReadsUptoSaid : Prop := linkReadsUptoRow.holds Try.pinned (OpenSpec.upto linkReadsSpec)

/-- 'lidarlaw02.LinkNumbers', WHERE WHAT IT READS IS OF BULK AT MOST 1048576: true; the input reads as it did. -/
def linkNumbersUptoRow : OpenClaim := { program := "ytekhmfliaojabaa", sum := "715af5a1e5fa5a0a8523114675e7d840f5b1acc60cead6018598b31153e68ede", func := "lidar/lidarlaw02.LinkNumbers", spec := "linkNumbers", apart := false, narrowed := true }
def LinkNumbersUptoSaid : Prop := linkNumbersUptoRow.holds Try.pinned (OpenSpec.upto linkNumbersSpec)

/-- 'lidarlaw02.LinkCarries', WHERE WHAT IT READS IS OF BULK AT MOST 1048576: true; the input reads as it did. -/
def linkCarriesUptoRow : OpenClaim := { program := "ytekhmfliaojabaa", sum := "715af5a1e5fa5a0a8523114675e7d840f5b1acc60cead6018598b31153e68ede", func := "lidar/lidarlaw02.LinkCarries", spec := "linkCarries", apart := false, narrowed := true }
def LinkCarriesUptoSaid : Prop := linkCarriesUptoRow.holds Try.pinned (OpenSpec.upto linkCarriesSpec)

/-- 'lidarlaw02.LinkUnpacks', WHERE WHAT IT READS IS OF BULK AT MOST 1048576: true; the input reads as it did. -/
def linkUnpacksUptoRow : OpenClaim := { program := "ytekhmfliaojabaa", sum := "715af5a1e5fa5a0a8523114675e7d840f5b1acc60cead6018598b31153e68ede", func := "lidar/lidarlaw02.LinkUnpacks", spec := "linkUnpacks", apart := false, narrowed := true }
def LinkUnpacksUptoSaid : Prop := linkUnpacksUptoRow.holds Try.pinned (OpenSpec.upto linkUnpacksSpec)

/-- 'lidarlaw02.LinkSends', WHERE WHAT IT READS IS OF BULK AT MOST 1048576: true; the input reads as it did. -/
def linkSendsUptoRow : OpenClaim := { program := "ytekhmfliaojabaa", sum := "715af5a1e5fa5a0a8523114675e7d840f5b1acc60cead6018598b31153e68ede", func := "lidar/lidarlaw02.LinkSends", spec := "linkSends", apart := false, narrowed := true }
def LinkSendsUptoSaid : Prop := linkSendsUptoRow.holds Try.pinned (OpenSpec.upto linkSendsSpec)

/-- 'lidarlaw02.LinkOnce', WHERE WHAT IT READS IS OF BULK AT MOST 1048576: true; the input reads as it did. -/
def linkOnceUptoRow : OpenClaim := { program := "ytekhmfliaojabaa", sum := "715af5a1e5fa5a0a8523114675e7d840f5b1acc60cead6018598b31153e68ede", func := "lidar/lidarlaw02.LinkOnce", spec := "linkOnce", apart := false, narrowed := true }
def LinkOnceUptoSaid : Prop := linkOnceUptoRow.holds Try.pinned (OpenSpec.upto linkOnceSpec)

/-- 'lidarlaw02.LinkOrders', WHERE WHAT IT READS IS OF BULK AT MOST 1048576: true; the input reads as it did. -/
def linkOrdersUptoRow : OpenClaim := { program := "ytekhmfliaojabaa", sum := "715af5a1e5fa5a0a8523114675e7d840f5b1acc60cead6018598b31153e68ede", func := "lidar/lidarlaw02.LinkOrders", spec := "linkOrders", apart := false, narrowed := true }
def LinkOrdersUptoSaid : Prop := linkOrdersUptoRow.holds Try.pinned (OpenSpec.upto linkOrdersSpec)

/-- 'lidarlaw02.LinkPacks', WHERE WHAT IT READS IS OF BULK AT MOST 1048576: true; the input reads as it did. -/
def linkPacksUptoRow : OpenClaim := { program := "ytekhmfliaojabaa", sum := "715af5a1e5fa5a0a8523114675e7d840f5b1acc60cead6018598b31153e68ede", func := "lidar/lidarlaw02.LinkPacks", spec := "linkPacks", apart := false, narrowed := true }
def LinkPacksUptoSaid : Prop := linkPacksUptoRow.holds Try.pinned (OpenSpec.upto linkPacksSpec)

/-- 'lidarlaw02.LinkDamages', WHERE WHAT IT READS IS OF BULK AT MOST 1048576: true; the input reads as it did. -/
def linkDamagesUptoRow : OpenClaim := { program := "ytekhmfliaojabaa", sum := "715af5a1e5fa5a0a8523114675e7d840f5b1acc60cead6018598b31153e68ede", func := "lidar/lidarlaw02.LinkDamages", spec := "linkDamages", apart := false, narrowed := true }
def LinkDamagesUptoSaid : Prop := linkDamagesUptoRow.holds Try.pinned (OpenSpec.upto linkDamagesSpec)

/-- 'lidarlaw02.LinkScans', WHERE WHAT IT READS IS OF BULK AT MOST 1048576: true; the input reads as it did. -/
def linkScansUptoRow : OpenClaim := { program := "ytekhmfliaojabaa", sum := "715af5a1e5fa5a0a8523114675e7d840f5b1acc60cead6018598b31153e68ede", func := "lidar/lidarlaw02.LinkScans", spec := "linkScans", apart := false, narrowed := true }
def LinkScansUptoSaid : Prop := linkScansUptoRow.holds Try.pinned (OpenSpec.upto linkScansSpec)

/-- 'lidarlaw02.LinkFinds', WHERE WHAT IT READS IS OF BULK AT MOST 1048576: true; the input reads as it did. -/
def linkFindsUptoRow : OpenClaim := { program := "ytekhmfliaojabaa", sum := "715af5a1e5fa5a0a8523114675e7d840f5b1acc60cead6018598b31153e68ede", func := "lidar/lidarlaw02.LinkFinds", spec := "linkFinds", apart := false, narrowed := true }
def LinkFindsUptoSaid : Prop := linkFindsUptoRow.holds Try.pinned (OpenSpec.upto linkFindsSpec)

/-- 'lidarlaw02.LinkReceives', WHERE WHAT IT READS IS OF BULK AT MOST 1048576: true; the input reads as it did. -/
def linkReceivesUptoRow : OpenClaim := { program := "ytekhmfliaojabaa", sum := "715af5a1e5fa5a0a8523114675e7d840f5b1acc60cead6018598b31153e68ede", func := "lidar/lidarlaw02.LinkReceives", spec := "linkReceives", apart := false, narrowed := true }
def LinkReceivesUptoSaid : Prop := linkReceivesUptoRow.holds Try.pinned (OpenSpec.upto linkReceivesSpec)

/-- 'lidarlaw02.LinkNils', WHERE WHAT IT READS IS OF BULK AT MOST 1048576: true; the input reads as it did. -/
def linkNilsUptoRow : OpenClaim := { program := "ytekhmfliaojabaa", sum := "715af5a1e5fa5a0a8523114675e7d840f5b1acc60cead6018598b31153e68ede", func := "lidar/lidarlaw02.LinkNils", spec := "linkNils", apart := false, narrowed := true }
def LinkNilsUptoSaid : Prop := linkNilsUptoRow.holds Try.pinned (OpenSpec.upto linkNilsSpec)

/-- 'lidarlaw02.LinkTransfers', WHERE WHAT IT READS IS OF BULK AT MOST 1048576: true; the input reads as it did. -/
def linkTransfersUptoRow : OpenClaim := { program := "ytekhmfliaojabaa", sum := "715af5a1e5fa5a0a8523114675e7d840f5b1acc60cead6018598b31153e68ede", func := "lidar/lidarlaw02.LinkTransfers", spec := "linkTransfers", apart := false, narrowed := true }
def LinkTransfersUptoSaid : Prop := linkTransfersUptoRow.holds Try.pinned (OpenSpec.upto linkTransfersSpec)

/-- 'lidartop.TopTransfer', WHERE WHAT IT READS IS OF BULK AT MOST 1048576: true; the input reads as it did. -/
def topTransferUptoRow : OpenClaim := { program := "ytekhmfliaojabaa", sum := "715af5a1e5fa5a0a8523114675e7d840f5b1acc60cead6018598b31153e68ede", func := "lidar/lidartop.TopTransfer", spec := "topTransfer", apart := false, narrowed := true }
def TopTransferUptoSaid : Prop := topTransferUptoRow.holds Try.pinned (OpenSpec.upto topTransferSpec)

end Rows
end Go.Proofs.Ytekhmfliaojabaa
