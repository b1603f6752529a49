/-
  No cell of these rows narrows 'for every input' (looked for: loops, veiled, ifaces, maps, wideKeys, modest, calm, conditions, laid).
  DERIVED. THE GIVEN ROWS OF THIS SEAT. 14 by the template 'for every input the law returns true; each argument reads behind the call as it read before'; 0 by the template 'total and deterministic' (their statements: YtpbfapbajmdlkaaGreatTotals.lean).
  GIVEN WITH THE SEED: the statements are not yours to turn. If you find one false, say at which input.
  Laid BY PROGRAM, IN A SANDBOX (cutbox-rows.mjs): the forced cells as the released guide's own fill.sh prints them over the translation 101d9d05db7f8c01… (all of the seat's roots in one cut). By AI agents, Wed Nov 11 2026. No macro, syntax, notation, axiom, sorry.
-/
import Derived.Test.YtpbfapbajmdlkaaGreatChecked
import GoSem.Claim
import GoSem.ClaimJoined
import GoSem.ClaimMapViews
import Derived.JoinedTies
import Derived.KernelRfl
namespace Go.Proofs.YtpbfapbajmdlkaaGreat
/- THE CELL 'sum', in the pinned program and in every row, IS THE sha256 OF THE DUMP (.gsa) THAT YtpbfapbajmdlkaaGreatProg.lean LOADS. Nothing in Lean hashes anything: it is a label: what it is worth is what the hold of that sum in a sandbox is worth. -/
noncomputable def Tryz.pinned : Pinned := { name := "ytpbfapbajmdlkaagreat", sum := "101d9d05db7f8c017b5c9a37876ea3fb15741507a3eeaa91d74af0ad4d4ce933", checked := Tryz.checked }
namespace Rows
def none {H : Type} : Left H := { results := [], args := [] }

/-- 'sacristylaw9.TreeOrder': WHATEVER THE INPUT: true; the input reads as it did. -/
def treeOrderSpec : ChangeSpec := { name := "treeOrder", fn := fun _ => fun
  | [d1, d2] => { results := [.lit (.bool true)], args := [d1, d2] }
  | _ => none }
def treeOrderRow : OpenClaim := { program := "ytpbfapbajmdlkaagreat", sum := "101d9d05db7f8c017b5c9a37876ea3fb15741507a3eeaa91d74af0ad4d4ce933", func := "sacristy/sacristylaw9.TreeOrder", spec := "treeOrder", inPlace := ["maps.clone", "internal/bytealg.abigen_runtime_cmpstring", "slices.overlaps[sacristy/api.Pair]", "slices.overlaps[string]", "slices.overlaps[uint32]"], unfollowed := true, recurses := true, apart := false }
def TreeOrderSaid : Prop := treeOrderRow.holds Tryz.pinned (OpenSpec.ofChange treeOrderSpec)

/-- ITS FALSE NEIGHBOUR: 'it returns false'. Refute it at one input. -/
def treeOrderWrong : ChangeSpec := { name := "treeOrder", fn := fun _ => fun
  | [d1, d2] => { results := [.lit (.bool false)], args := [d1, d2] }
  | _ => none }
def TreeOrderWrongFalsely : Prop := treeOrderRow.holds Tryz.pinned (OpenSpec.ofChange treeOrderWrong)

/-- 'sacristylaw9.TreeStays': WHATEVER THE INPUT: true; the input reads as it did. -/
def treeStaysSpec : ChangeSpec := { name := "treeStays", fn := fun _ => fun
  | [d1, d2] => { results := [.lit (.bool true)], args := [d1, d2] }
  | _ => none }
def treeStaysRow : OpenClaim := { program := "ytpbfapbajmdlkaagreat", sum := "101d9d05db7f8c017b5c9a37876ea3fb15741507a3eeaa91d74af0ad4d4ce933", func := "sacristy/sacristylaw9.TreeStays", spec := "treeStays", inPlace := ["maps.clone", "internal/bytealg.abigen_runtime_cmpstring", "slices.overlaps[sacristy/api.Pair]", "slices.overlaps[string]", "slices.overlaps[uint32]"], unfollowed := true, recurses := true, apart := false }
def TreeStaysSaid : Prop := treeStaysRow.holds Tryz.pinned (OpenSpec.ofChange treeStaysSpec)

/-- ITS FALSE NEIGHBOUR: 'it returns false'. Refute it at one input. -/
def treeStaysWrong : ChangeSpec := { name := "treeStays", fn := fun _ => fun
  | [d1, d2] => { results := [.lit (.bool false)], args := [d1, d2] }
  | _ => none }
def TreeStaysWrongFalsely : Prop := treeStaysRow.holds Tryz.pinned (OpenSpec.ofChange treeStaysWrong)

/-- 'sacristylaw9.TreeScans': WHATEVER THE INPUT: true; the input reads as it did. -/
def treeScansSpec : ChangeSpec := { name := "treeScans", fn := fun _ => fun
  | [d1, d2, d3] => { results := [.lit (.bool true)], args := [d1, d2, d3] }
  | _ => none }
def treeScansRow : OpenClaim := { program := "ytpbfapbajmdlkaagreat", sum := "101d9d05db7f8c017b5c9a37876ea3fb15741507a3eeaa91d74af0ad4d4ce933", func := "sacristy/sacristylaw9.TreeScans", spec := "treeScans", inPlace := ["maps.clone", "internal/bytealg.abigen_runtime_cmpstring", "slices.overlaps[sacristy/api.Pair]", "slices.overlaps[string]", "slices.overlaps[uint32]"], unfollowed := true, recurses := true, apart := false }
def TreeScansSaid : Prop := treeScansRow.holds Tryz.pinned (OpenSpec.ofChange treeScansSpec)

/-- ITS FALSE NEIGHBOUR: 'it returns false'. Refute it at one input. -/
def treeScansWrong : ChangeSpec := { name := "treeScans", fn := fun _ => fun
  | [d1, d2, d3] => { results := [.lit (.bool false)], args := [d1, d2, d3] }
  | _ => none }
def TreeScansWrongFalsely : Prop := treeScansRow.holds Tryz.pinned (OpenSpec.ofChange treeScansWrong)

/-- 'sacristylaw9.TreeRoom': WHATEVER THE INPUT: true; the input reads as it did. -/
def treeRoomSpec : ChangeSpec := { name := "treeRoom", fn := fun _ => fun
  | [d1, d2, d3] => { results := [.lit (.bool true)], args := [d1, d2, d3] }
  | _ => none }
def treeRoomRow : OpenClaim := { program := "ytpbfapbajmdlkaagreat", sum := "101d9d05db7f8c017b5c9a37876ea3fb15741507a3eeaa91d74af0ad4d4ce933", func := "sacristy/sacristylaw9.TreeRoom", spec := "treeRoom", inPlace := ["maps.clone", "internal/bytealg.abigen_runtime_cmpstring", "slices.overlaps[sacristy/api.Pair]", "slices.overlaps[string]", "slices.overlaps[uint32]"], unfollowed := true, recurses := true, apart := false }
def TreeRoomSaid : Prop := treeRoomRow.holds Tryz.pinned (OpenSpec.ofChange treeRoomSpec)

/-- ITS FALSE NEIGHBOUR: 'it returns false'. Refute it at one input. -/
def treeRoomWrong : ChangeSpec := { name := "treeRoom", fn := fun _ => fun
  | [d1, d2, d3] => { results := [.lit (.bool false)], args := [d1, d2, d3] }
  | _ => none }
def TreeRoomWrongFalsely : Prop := treeRoomRow.holds Tryz.pinned (OpenSpec.ofChange treeRoomWrong)

/-- 'sacristylaw9.TreeEmpties': WHATEVER THE INPUT: true; the input reads as it did. -/
def treeEmptiesSpec : ChangeSpec := { name := "treeEmpties", fn := fun _ => fun
  | [d1, d2, d3] => { results := [.lit (.bool true)], args := [d1, d2, d3] }
  | _ => none }
def treeEmptiesRow : OpenClaim := { program := "ytpbfapbajmdlkaagreat", sum := "101d9d05db7f8c017b5c9a37876ea3fb15741507a3eeaa91d74af0ad4d4ce933", func := "sacristy/sacristylaw9.TreeEmpties", spec := "treeEmpties", inPlace := ["maps.clone", "internal/bytealg.abigen_runtime_cmpstring", "slices.overlaps[sacristy/api.Pair]", "slices.overlaps[string]", "slices.overlaps[uint32]"], unfollowed := true, recurses := true, apart := false }
def TreeEmptiesSaid : Prop := treeEmptiesRow.holds Tryz.pinned (OpenSpec.ofChange treeEmptiesSpec)

/-- ITS FALSE NEIGHBOUR: 'it returns false'. Refute it at one input. -/
def treeEmptiesWrong : ChangeSpec := { name := "treeEmpties", fn := fun _ => fun
  | [d1, d2, d3] => { results := [.lit (.bool false)], args := [d1, d2, d3] }
  | _ => none }
def TreeEmptiesWrongFalsely : Prop := treeEmptiesRow.holds Tryz.pinned (OpenSpec.ofChange treeEmptiesWrong)

/-- 'sacristylaw10.StoreMany': WHATEVER THE INPUT: true; the input reads as it did. -/
def storeManySpec : ChangeSpec := { name := "storeMany", fn := fun _ => fun
  | [d1, d2] => { results := [.lit (.bool true)], args := [d1, d2] }
  | _ => none }
def storeManyRow : OpenClaim := { program := "ytpbfapbajmdlkaagreat", sum := "101d9d05db7f8c017b5c9a37876ea3fb15741507a3eeaa91d74af0ad4d4ce933", func := "sacristy/sacristylaw10.StoreMany", spec := "storeMany", inPlace := ["maps.clone", "internal/bytealg.abigen_runtime_cmpstring", "slices.overlaps[string]", "slices.overlaps[uint32]", "slices.overlaps[sacristy/api.Pair]"], unfollowed := true, recurses := true, apart := false }
def StoreManySaid : Prop := storeManyRow.holds Tryz.pinned (OpenSpec.ofChange storeManySpec)

/-- ITS FALSE NEIGHBOUR: 'it returns false'. Refute it at one input. -/
def storeManyWrong : ChangeSpec := { name := "storeMany", fn := fun _ => fun
  | [d1, d2] => { results := [.lit (.bool false)], args := [d1, d2] }
  | _ => none }
def StoreManyWrongFalsely : Prop := storeManyRow.holds Tryz.pinned (OpenSpec.ofChange storeManyWrong)

/-- 'sacristylaw10.StoreLong': WHATEVER THE INPUT: true; the input reads as it did. -/
def storeLongSpec : ChangeSpec := { name := "storeLong", fn := fun _ => fun
  | [d1, d2] => { results := [.lit (.bool true)], args := [d1, d2] }
  | _ => none }
def storeLongRow : OpenClaim := { program := "ytpbfapbajmdlkaagreat", sum := "101d9d05db7f8c017b5c9a37876ea3fb15741507a3eeaa91d74af0ad4d4ce933", func := "sacristy/sacristylaw10.StoreLong", spec := "storeLong", inPlace := ["maps.clone", "internal/bytealg.abigen_runtime_cmpstring", "slices.overlaps[string]", "slices.overlaps[uint32]", "slices.overlaps[sacristy/api.Pair]"], unfollowed := true, recurses := true, apart := false }
def StoreLongSaid : Prop := storeLongRow.holds Tryz.pinned (OpenSpec.ofChange storeLongSpec)

/-- ITS FALSE NEIGHBOUR: 'it returns false'. Refute it at one input. -/
def storeLongWrong : ChangeSpec := { name := "storeLong", fn := fun _ => fun
  | [d1, d2] => { results := [.lit (.bool false)], args := [d1, d2] }
  | _ => none }
def StoreLongWrongFalsely : Prop := storeLongRow.holds Tryz.pinned (OpenSpec.ofChange storeLongWrong)

/-- 'sacristylaw10.StoreAgain': WHATEVER THE INPUT: true; the input reads as it did. -/
def storeAgainSpec : ChangeSpec := { name := "storeAgain", fn := fun _ => fun
  | [d1, d2, d3] => { results := [.lit (.bool true)], args := [d1, d2, d3] }
  | _ => none }
def storeAgainRow : OpenClaim := { program := "ytpbfapbajmdlkaagreat", sum := "101d9d05db7f8c017b5c9a37876ea3fb15741507a3eeaa91d74af0ad4d4ce933", func := "sacristy/sacristylaw10.StoreAgain", spec := "storeAgain", inPlace := ["maps.clone", "internal/bytealg.abigen_runtime_cmpstring", "slices.overlaps[string]", "slices.overlaps[uint32]", "slices.overlaps[sacristy/api.Pair]"], unfollowed := true, recurses := true, apart := false }
def StoreAgainSaid : Prop := storeAgainRow.holds Tryz.pinned (OpenSpec.ofChange storeAgainSpec)

/-- ITS FALSE NEIGHBOUR: 'it returns false'. Refute it at one input. -/
def storeAgainWrong : ChangeSpec := { name := "storeAgain", fn := fun _ => fun
  | [d1, d2, d3] => { results := [.lit (.bool false)], args := [d1, d2, d3] }
  | _ => none }
def StoreAgainWrongFalsely : Prop := storeAgainRow.holds Tryz.pinned (OpenSpec.ofChange storeAgainWrong)

/-- 'sacristylaw10.StoreBatch': WHATEVER THE INPUT: true; the input reads as it did. -/
def storeBatchSpec : ChangeSpec := { name := "storeBatch", fn := fun _ => fun
  | [d1, d2] => { results := [.lit (.bool true)], args := [d1, d2] }
  | _ => none }
def storeBatchRow : OpenClaim := { program := "ytpbfapbajmdlkaagreat", sum := "101d9d05db7f8c017b5c9a37876ea3fb15741507a3eeaa91d74af0ad4d4ce933", func := "sacristy/sacristylaw10.StoreBatch", spec := "storeBatch", inPlace := ["maps.clone", "internal/bytealg.abigen_runtime_cmpstring", "slices.overlaps[string]", "slices.overlaps[uint32]", "slices.overlaps[sacristy/api.Pair]"], unfollowed := true, recurses := true, apart := false }
def StoreBatchSaid : Prop := storeBatchRow.holds Tryz.pinned (OpenSpec.ofChange storeBatchSpec)

/-- ITS FALSE NEIGHBOUR: 'it returns false'. Refute it at one input. -/
def storeBatchWrong : ChangeSpec := { name := "storeBatch", fn := fun _ => fun
  | [d1, d2] => { results := [.lit (.bool false)], args := [d1, d2] }
  | _ => none }
def StoreBatchWrongFalsely : Prop := storeBatchRow.holds Tryz.pinned (OpenSpec.ofChange storeBatchWrong)

/-- 'sacristylaw10.StoreRefuses': WHATEVER THE INPUT: true; the input reads as it did. -/
def storeRefusesSpec : ChangeSpec := { name := "storeRefuses", fn := fun _ => fun
  | [d1, d2, d3] => { results := [.lit (.bool true)], args := [d1, d2, d3] }
  | _ => none }
def storeRefusesRow : OpenClaim := { program := "ytpbfapbajmdlkaagreat", sum := "101d9d05db7f8c017b5c9a37876ea3fb15741507a3eeaa91d74af0ad4d4ce933", func := "sacristy/sacristylaw10.StoreRefuses", spec := "storeRefuses", inPlace := ["maps.clone", "internal/bytealg.abigen_runtime_cmpstring", "slices.overlaps[string]", "slices.overlaps[uint32]", "slices.overlaps[sacristy/api.Pair]"], unfollowed := true, recurses := true, apart := false }
def StoreRefusesSaid : Prop := storeRefusesRow.holds Tryz.pinned (OpenSpec.ofChange storeRefusesSpec)

/-- ITS FALSE NEIGHBOUR: 'it returns false'. Refute it at one input. -/
def storeRefusesWrong : ChangeSpec := { name := "storeRefuses", fn := fun _ => fun
  | [d1, d2, d3] => { results := [.lit (.bool false)], args := [d1, d2, d3] }
  | _ => none }
def StoreRefusesWrongFalsely : Prop := storeRefusesRow.holds Tryz.pinned (OpenSpec.ofChange storeRefusesWrong)

/-- 'sacristylaw10.StoreRoom': WHATEVER THE INPUT: true; the input reads as it did. -/
def storeRoomSpec : ChangeSpec := { name := "storeRoom", fn := fun _ => fun
  | [d1, d2] => { results := [.lit (.bool true)], args := [d1, d2] }
  | _ => none }
def storeRoomRow : OpenClaim := { program := "ytpbfapbajmdlkaagreat", sum := "101d9d05db7f8c017b5c9a37876ea3fb15741507a3eeaa91d74af0ad4d4ce933", func := "sacristy/sacristylaw10.StoreRoom", spec := "storeRoom", inPlace := ["maps.clone", "internal/bytealg.abigen_runtime_cmpstring", "slices.overlaps[string]", "slices.overlaps[uint32]", "slices.overlaps[sacristy/api.Pair]"], unfollowed := true, recurses := true, apart := false }
def StoreRoomSaid : Prop := storeRoomRow.holds Tryz.pinned (OpenSpec.ofChange storeRoomSpec)

/-- ITS FALSE NEIGHBOUR: 'it returns false'. Refute it at one input. -/
def storeRoomWrong : ChangeSpec := { name := "storeRoom", fn := fun _ => fun
  | [d1, d2] => { results := [.lit (.bool false)], args := [d1, d2] }
  | _ => none }
def StoreRoomWrongFalsely : Prop := storeRoomRow.holds Tryz.pinned (OpenSpec.ofChange storeRoomWrong)

/-- 'sacristylaw10.StoreSnaps': WHATEVER THE INPUT: true; the input reads as it did. -/
def storeSnapsSpec : ChangeSpec := { name := "storeSnaps", fn := fun _ => fun
  | [d1, d2, d3] => { results := [.lit (.bool true)], args := [d1, d2, d3] }
  | _ => none }
def storeSnapsRow : OpenClaim := { program := "ytpbfapbajmdlkaagreat", sum := "101d9d05db7f8c017b5c9a37876ea3fb15741507a3eeaa91d74af0ad4d4ce933", func := "sacristy/sacristylaw10.StoreSnaps", spec := "storeSnaps", inPlace := ["maps.clone", "internal/bytealg.abigen_runtime_cmpstring", "slices.overlaps[string]", "slices.overlaps[uint32]", "slices.overlaps[sacristy/api.Pair]"], unfollowed := true, recurses := true, apart := false }
def StoreSnapsSaid : Prop := storeSnapsRow.holds Tryz.pinned (OpenSpec.ofChange storeSnapsSpec)

/-- ITS FALSE NEIGHBOUR: 'it returns false'. Refute it at one input. -/
def storeSnapsWrong : ChangeSpec := { name := "storeSnaps", fn := fun _ => fun
  | [d1, d2, d3] => { results := [.lit (.bool false)], args := [d1, d2, d3] }
  | _ => none }
def StoreSnapsWrongFalsely : Prop := storeSnapsRow.holds Tryz.pinned (OpenSpec.ofChange storeSnapsWrong)

/-- 'sacristylaw10.StoreScans': WHATEVER THE INPUT: true; the input reads as it did. -/
def storeScansSpec : ChangeSpec := { name := "storeScans", fn := fun _ => fun
  | [d1, d2, d3, d4] => { results := [.lit (.bool true)], args := [d1, d2, d3, d4] }
  | _ => none }
def storeScansRow : OpenClaim := { program := "ytpbfapbajmdlkaagreat", sum := "101d9d05db7f8c017b5c9a37876ea3fb15741507a3eeaa91d74af0ad4d4ce933", func := "sacristy/sacristylaw10.StoreScans", spec := "storeScans", inPlace := ["maps.clone", "internal/bytealg.abigen_runtime_cmpstring", "slices.overlaps[string]", "slices.overlaps[uint32]", "slices.overlaps[sacristy/api.Pair]"], unfollowed := true, recurses := true, apart := false }
def StoreScansSaid : Prop := storeScansRow.holds Tryz.pinned (OpenSpec.ofChange storeScansSpec)

/-- ITS FALSE NEIGHBOUR: 'it returns false'. Refute it at one input. -/
def storeScansWrong : ChangeSpec := { name := "storeScans", fn := fun _ => fun
  | [d1, d2, d3, d4] => { results := [.lit (.bool false)], args := [d1, d2, d3, d4] }
  | _ => none }
def StoreScansWrongFalsely : Prop := storeScansRow.holds Tryz.pinned (OpenSpec.ofChange storeScansWrong)

/-- 'sacristylaw10.StorePlays': WHATEVER THE INPUT: true; the input reads as it did. -/
def storePlaysSpec : ChangeSpec := { name := "storePlays", fn := fun _ => fun
  | [d1, d2] => { results := [.lit (.bool true)], args := [d1, d2] }
  | _ => none }
def storePlaysRow : OpenClaim := { program := "ytpbfapbajmdlkaagreat", sum := "101d9d05db7f8c017b5c9a37876ea3fb15741507a3eeaa91d74af0ad4d4ce933", func := "sacristy/sacristylaw10.StorePlays", spec := "storePlays", inPlace := ["maps.clone", "internal/bytealg.abigen_runtime_cmpstring", "slices.overlaps[string]", "slices.overlaps[uint32]", "slices.overlaps[sacristy/api.Pair]"], unfollowed := true, recurses := true, apart := false }
def StorePlaysSaid : Prop := storePlaysRow.holds Tryz.pinned (OpenSpec.ofChange storePlaysSpec)

/-- ITS FALSE NEIGHBOUR: 'it returns false'. Refute it at one input. -/
def storePlaysWrong : ChangeSpec := { name := "storePlays", fn := fun _ => fun
  | [d1, d2] => { results := [.lit (.bool false)], args := [d1, d2] }
  | _ => none }
def StorePlaysWrongFalsely : Prop := storePlaysRow.holds Tryz.pinned (OpenSpec.ofChange storePlaysWrong)

/- THE SECOND FORM. 'bulk': how many values and letters a reading holds, each counted each time it is reached (what is shared counts as often as it is met; a slice's spare places count too). A statement '..UptoSaid' is the law's where the arguments, and the package variables that the reading takes, are together of bulk at most 1048576: NARROWER than '..Said'. Prove '..Said' where nothing that the law and all that it calls make is longer than what came in: it says more and counts as full. Else prove '..UptoSaid'. A law counts once. -/
mutual
def uptoBulk {H : Type} : DataW H → Nat
  | .lit (.string bytes) => bytes.length + 1
  | .lit _ => 1
  | .nil => 1
  | .ptr d => uptoBulk d + 1
  | .slice elems spare => uptoBulkAll elems + uptoBulkAll spare + 1
  | .agg parts => uptoBulkAll parts + 1
  | .iface _ d => uptoBulk d + 1
  | .map entries => uptoBulkEntries entries + 1
  | .held _ => 1
def uptoBulkAll {H : Type} : List (DataW H) → Nat
  | [] => 0
  | d :: r => uptoBulk d + uptoBulkAll r
def uptoBulkEntries {H : Type} : List (Lit × DataW H) → Nat
  | [] => 0
  | x :: r => uptoBulkEntry x + uptoBulkEntries r
def uptoBulkEntry {H : Type} : Lit × DataW H → Nat
  | (.string bytes, d) => bytes.length + uptoBulk d + 1
  | (_, d) => uptoBulk d + 1
 end
def uptoSmall : (H : Type) → List (DataW H) → Bool := fun _ ds => decide (uptoBulkAll ds ≤ 1048576)
def OpenSpec.upto (s : _root_.Go.ChangeSpec) : _root_.Go.OpenSpec := { _root_.Go.OpenSpec.ofChange s with cond := some uptoSmall }

/-- 'sacristylaw9.TreeOrder', WHERE WHAT IT READS IS OF BULK AT MOST 1048576: true; the input reads as it did. -/
def treeOrderUptoRow : OpenClaim := { program := "ytpbfapbajmdlkaagreat", sum := "101d9d05db7f8c017b5c9a37876ea3fb15741507a3eeaa91d74af0ad4d4ce933", func := "sacristy/sacristylaw9.TreeOrder", spec := "treeOrder", inPlace := ["maps.clone", "internal/bytealg.abigen_runtime_cmpstring", "slices.overlaps[sacristy/api.Pair]", "slices.overlaps[string]", "slices.overlaps[uint32]"], unfollowed := true, recurses := true, apart := false, narrowed := true }
def TreeOrderUptoSaid : Prop := treeOrderUptoRow.holds Tryz.pinned (OpenSpec.upto treeOrderSpec)

/-- 'sacristylaw9.TreeStays', WHERE WHAT IT READS IS OF BULK AT MOST 1048576: true; the input reads as it did. -/
def treeStaysUptoRow : OpenClaim := { program := "ytpbfapbajmdlkaagreat", sum := "101d9d05db7f8c017b5c9a37876ea3fb15741507a3eeaa91d74af0ad4d4ce933", func := "sacristy/sacristylaw9.TreeStays", spec := "treeStays", inPlace := ["maps.clone", "internal/bytealg.abigen_runtime_cmpstring", "slices.overlaps[sacristy/api.Pair]", "slices.overlaps[string]", "slices.overlaps[uint32]"], unfollowed := true, recurses := true, apart := false, narrowed := true }
def TreeStaysUptoSaid : Prop := treeStaysUptoRow.holds Tryz.pinned (OpenSpec.upto treeStaysSpec)

/-- 'sacristylaw9.TreeScans', WHERE WHAT IT READS IS OF BULK AT MOST 1048576: true; the input reads as it did. -/
def treeScansUptoRow : OpenClaim := { program := "ytpbfapbajmdlkaagreat", sum := "101d9d05db7f8c017b5c9a37876ea3fb15741507a3eeaa91d74af0ad4d4ce933", func := "sacristy/sacristylaw9.TreeScans", spec := "treeScans", inPlace := ["maps.clone", "internal/bytealg.abigen_runtime_cmpstring", "slices.overlaps[sacristy/api.Pair]", "slices.overlaps[string]", "slices.overlaps[uint32]"], unfollowed := true, recurses := true, apart := false, narrowed := true }
def TreeScansUptoSaid : Prop := treeScansUptoRow.holds Tryz.pinned (OpenSpec.upto treeScansSpec)

/-- 'sacristylaw9.TreeRoom', WHERE WHAT IT READS IS OF BULK AT MOST 1048576: true; the input reads as it did. -/
def treeRoomUptoRow : OpenClaim := { program := "ytpbfapbajmdlkaagreat", sum := "101d9d05db7f8c017b5c9a37876ea3fb15741507a3eeaa91d74af0ad4d4ce933", func := "sacristy/sacristylaw9.TreeRoom", spec := "treeRoom", inPlace := ["maps.clone", "internal/bytealg.abigen_runtime_cmpstring", "slices.overlaps[sacristy/api.Pair]", "slices.overlaps[string]", "slices.overlaps[uint32]"], unfollowed := true, recurses := true, apart := false, narrowed := true }
def TreeRoomUptoSaid : Prop := treeRoomUptoRow.holds Tryz.pinned (OpenSpec.upto treeRoomSpec)

/-- 'sacristylaw9.TreeEmpties', WHERE WHAT IT READS IS OF BULK AT MOST 1048576: true; the input reads as it did. -/
def treeEmptiesUptoRow : OpenClaim := { program := "ytpbfapbajmdlkaagreat", sum := "101d9d05db7f8c017b5c9a37876ea3fb15741507a3eeaa91d74af0ad4d4ce933", func := "sacristy/sacristylaw9.TreeEmpties", spec := "treeEmpties", inPlace := ["maps.clone", "internal/bytealg.abigen_runtime_cmpstring", "slices.overlaps[sacristy/api.Pair]", "slices.overlaps[string]", "slices.overlaps[uint32]"], unfollowed := true, recurses := true, apart := false, narrowed := true }
def TreeEmptiesUptoSaid : Prop := treeEmptiesUptoRow.holds Tryz.pinned (OpenSpec.upto treeEmptiesSpec)

/-- 'sacristylaw10.StoreMany', WHERE WHAT IT READS IS OF BULK AT MOST 1048576: true; the input reads as it did. -/
def storeManyUptoRow : OpenClaim := { program := "ytpbfapbajmdlkaagreat", sum := "101d9d05db7f8c017b5c9a37876ea3fb15741507a3eeaa91d74af0ad4d4ce933", func := "sacristy/sacristylaw10.StoreMany", spec := "storeMany", inPlace := ["maps.clone", "internal/bytealg.abigen_runtime_cmpstring", "slices.overlaps[string]", "slices.overlaps[uint32]", "slices.overlaps[sacristy/api.Pair]"], unfollowed := true, recurses := true, apart := false, narrowed := true }
def StoreManyUptoSaid : Prop := storeManyUptoRow.holds Tryz.pinned (OpenSpec.upto storeManySpec)

/-- 'sacristylaw10.StoreLong', WHERE WHAT IT READS IS OF BULK AT MOST 1048576: true; the input reads as it did. -/
def storeLongUptoRow : OpenClaim := { program := "ytpbfapbajmdlkaagreat", sum := "101d9d05db7f8c017b5c9a37876ea3fb15741507a3eeaa91d74af0ad4d4ce933", func := "sacristy/sacristylaw10.StoreLong", spec := "storeLong", inPlace := ["maps.clone", "internal/bytealg.abigen_runtime_cmpstring", "slices.overlaps[string]", "slices.overlaps[uint32]", "slices.overlaps[sacristy/api.Pair]"], unfollowed := true, recurses := true, apart := false, narrowed := true }
def StoreLongUptoSaid : Prop := storeLongUptoRow.holds Tryz.pinned (OpenSpec.upto storeLongSpec)

/-- 'sacristylaw10.StoreAgain', WHERE WHAT IT READS IS OF BULK AT MOST 1048576: true; the input reads as it did. -/
def storeAgainUptoRow : OpenClaim := { program := "ytpbfapbajmdlkaagreat", sum := "101d9d05db7f8c017b5c9a37876ea3fb15741507a3eeaa91d74af0ad4d4ce933", func := "sacristy/sacristylaw10.StoreAgain", spec := "storeAgain", inPlace := ["maps.clone", "internal/bytealg.abigen_runtime_cmpstring", "slices.overlaps[string]", "slices.overlaps[uint32]", "slices.overlaps[sacristy/api.Pair]"], unfollowed := true, recurses := true, apart := false, narrowed := true }
def StoreAgainUptoSaid : Prop := storeAgainUptoRow.holds Tryz.pinned (OpenSpec.upto storeAgainSpec)

/-- 'sacristylaw10.StoreBatch', WHERE WHAT IT READS IS OF BULK AT MOST 1048576: true; the input reads as it did. -/
def storeBatchUptoRow : OpenClaim := { program := "ytpbfapbajmdlkaagreat", sum := "101d9d05db7f8c017b5c9a37876ea3fb15741507a3eeaa91d74af0ad4d4ce933", func := "sacristy/sacristylaw10.StoreBatch", spec := "storeBatch", inPlace := ["maps.clone", "internal/bytealg.abigen_runtime_cmpstring", "slices.overlaps[string]", "slices.overlaps[uint32]", "slices.overlaps[sacristy/api.Pair]"], unfollowed := true, recurses := true, apart := false, narrowed := true }
def StoreBatchUptoSaid : Prop := storeBatchUptoRow.holds Tryz.pinned (OpenSpec.upto storeBatchSpec)

/-- 'sacristylaw10.StoreRefuses', WHERE WHAT IT READS IS OF BULK AT MOST 1048576: true; the input reads as it did. -/
def storeRefusesUptoRow : OpenClaim := { program := "ytpbfapbajmdlkaagreat", sum := "101d9d05db7f8c017b5c9a37876ea3fb15741507a3eeaa91d74af0ad4d4ce933", func := "sacristy/sacristylaw10.StoreRefuses", spec := "storeRefuses", inPlace := ["maps.clone", "internal/bytealg.abigen_runtime_cmpstring", "slices.overlaps[string]", "slices.overlaps[uint32]", "slices.overlaps[sacristy/api.Pair]"], unfollowed := true, recurses := true, apart := false, narrowed := true }
def StoreRefusesUptoSaid : Prop := storeRefusesUptoRow.holds Tryz.pinned (OpenSpec.upto storeRefusesSpec)

/-- 'sacristylaw10.StoreRoom', WHERE WHAT IT READS IS OF BULK AT MOST 1048576: true; the input reads as it did. -/
def storeRoomUptoRow : OpenClaim := { program := "ytpbfapbajmdlkaagreat", sum := "101d9d05db7f8c017b5c9a37876ea3fb15741507a3eeaa91d74af0ad4d4ce933", func := "sacristy/sacristylaw10.StoreRoom", spec := "storeRoom", inPlace := ["maps.clone", "internal/bytealg.abigen_runtime_cmpstring", "slices.overlaps[string]", "slices.overlaps[uint32]", "slices.overlaps[sacristy/api.Pair]"], unfollowed := true, recurses := true, apart := false, narrowed := true }
def StoreRoomUptoSaid : Prop := storeRoomUptoRow.holds Tryz.pinned (OpenSpec.upto storeRoomSpec)

/-- 'sacristylaw10.StoreSnaps', WHERE WHAT IT READS IS OF BULK AT MOST 1048576: true; the input reads as it did. -/
def storeSnapsUptoRow : OpenClaim := { program := "ytpbfapbajmdlkaagreat", sum := "101d9d05db7f8c017b5c9a37876ea3fb15741507a3eeaa91d74af0ad4d4ce933", func := "sacristy/sacristylaw10.StoreSnaps", spec := "storeSnaps", inPlace := ["maps.clone", "internal/bytealg.abigen_runtime_cmpstring", "slices.overlaps[string]", "slices.overlaps[uint32]", "slices.overlaps[sacristy/api.Pair]"], unfollowed := true, recurses := true, apart := false, narrowed := true }
def StoreSnapsUptoSaid : Prop := storeSnapsUptoRow.holds Tryz.pinned (OpenSpec.upto storeSnapsSpec)

/-- 'sacristylaw10.StoreScans', WHERE WHAT IT READS IS OF BULK AT MOST 1048576: true; the input reads as it did. -/
def storeScansUptoRow : OpenClaim := { program := "ytpbfapbajmdlkaagreat", sum := "101d9d05db7f8c017b5c9a37876ea3fb15741507a3eeaa91d74af0ad4d4ce933", func := "sacristy/sacristylaw10.StoreScans", spec := "storeScans", inPlace := ["maps.clone", "internal/bytealg.abigen_runtime_cmpstring", "slices.overlaps[string]", "slices.overlaps[uint32]", "slices.overlaps[sacristy/api.Pair]"], unfollowed := true, recurses := true, apart := false, narrowed := true }
def StoreScansUptoSaid : Prop := storeScansUptoRow.holds Tryz.pinned (OpenSpec.upto storeScansSpec)

/-- 'sacristylaw10.StorePlays', WHERE WHAT IT READS IS OF BULK AT MOST 1048576: true; the input reads as it did. -/
def storePlaysUptoRow : OpenClaim := { program := "ytpbfapbajmdlkaagreat", sum := "101d9d05db7f8c017b5c9a37876ea3fb15741507a3eeaa91d74af0ad4d4ce933", func := "sacristy/sacristylaw10.StorePlays", spec := "storePlays", inPlace := ["maps.clone", "internal/bytealg.abigen_runtime_cmpstring", "slices.overlaps[string]", "slices.overlaps[uint32]", "slices.overlaps[sacristy/api.Pair]"], unfollowed := true, recurses := true, apart := false, narrowed := true }
def StorePlaysUptoSaid : Prop := storePlaysUptoRow.holds Tryz.pinned (OpenSpec.upto storePlaysSpec)

end Rows
end Go.Proofs.YtpbfapbajmdlkaaGreat
