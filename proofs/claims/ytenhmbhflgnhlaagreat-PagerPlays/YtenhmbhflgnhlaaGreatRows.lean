/-
  No cell of these rows narrows 'for every input' (looked for: loops, veiled, ifaces, maps, wideKeys, modest, calm, conditions, laid).
  DERIVED. THE GIVEN ROWS OF THIS SEAT. 7 by the template 'for every input the law returns true; each argument reads behind the call as it read before'; 0 by the template 'total and deterministic' (their statements: YtenhmbhflgnhlaaGreatTotals.lean).
  GIVEN WITH THE SEED: the statements are not yours to turn. If you find one false, say at which input.
  Laid BY PROGRAM, IN A SANDBOX (cutbox-rows.mjs): the forced cells as the released guide's own fill.sh prints them over the translation f4df0930673e6d3c… (all of the seat's roots in one cut). By AI agents, Wed Nov 11 2026. No macro, syntax, notation, axiom, sorry.
-/
import Derived.Test.YtenhmbhflgnhlaaGreatChecked
import GoSem.Claim
import GoSem.ClaimJoined
import GoSem.ClaimMapViews
import Derived.JoinedTies
import Derived.KernelRfl
namespace Go.Proofs.YtenhmbhflgnhlaaGreat
/- THE CELL 'sum', in the pinned program and in every row, IS THE sha256 OF THE DUMP (.gsa) THAT YtenhmbhflgnhlaaGreatProg.lean LOADS. Nothing in Lean hashes anything: it is a label: what it is worth is what the hold of that sum in a sandbox is worth. -/
noncomputable def Tryz.pinned : Pinned := { name := "ytenhmbhflgnhlaagreat", sum := "f4df0930673e6d3c7faaa40e99db60f41a6a3a26ddfc45a951b2cb6a731a14dd", checked := Tryz.checked }
namespace Rows
def none {H : Type} : Left H := { results := [], args := [] }

/-- 'sacristylaw12.SlotsStand': WHATEVER THE INPUT: true; the input reads as it did. -/
def slotsStandSpec : ChangeSpec := { name := "slotsStand", fn := fun _ => fun
  | [d1, d2, d3, d4, d5] => { results := [.lit (.bool true)], args := [d1, d2, d3, d4, d5] }
  | _ => none }
def slotsStandRow : OpenClaim := { program := "ytenhmbhflgnhlaagreat", sum := "f4df0930673e6d3c7faaa40e99db60f41a6a3a26ddfc45a951b2cb6a731a14dd", func := "sacristy/sacristylaw12.SlotsStand", spec := "slotsStand", unfollowed := true, recurses := true, apart := false }
def SlotsStandSaid : Prop := slotsStandRow.holds Tryz.pinned (OpenSpec.ofChange slotsStandSpec)

/-- ITS FALSE NEIGHBOUR: 'it returns false'. Refute it at one input. -/
def slotsStandWrong : ChangeSpec := { name := "slotsStand", fn := fun _ => fun
  | [d1, d2, d3, d4, d5] => { results := [.lit (.bool false)], args := [d1, d2, d3, d4, d5] }
  | _ => none }
def SlotsStandWrongFalsely : Prop := slotsStandRow.holds Tryz.pinned (OpenSpec.ofChange slotsStandWrong)

/-- 'sacristylaw7.PagerTurned': WHATEVER THE INPUT: true; the input reads as it did. -/
def pagerTurnedSpec : ChangeSpec := { name := "pagerTurned", fn := fun _ => fun
  | [d1, d2, d3, d4] => { results := [.lit (.bool true)], args := [d1, d2, d3, d4] }
  | _ => none }
def pagerTurnedRow : OpenClaim := { program := "ytenhmbhflgnhlaagreat", sum := "f4df0930673e6d3c7faaa40e99db60f41a6a3a26ddfc45a951b2cb6a731a14dd", func := "sacristy/sacristylaw7.PagerTurned", spec := "pagerTurned", inPlace := ["maps.clone"], unfollowed := true, recurses := true, apart := false }
def PagerTurnedSaid : Prop := pagerTurnedRow.holds Tryz.pinned (OpenSpec.ofChange pagerTurnedSpec)

/-- ITS FALSE NEIGHBOUR: 'it returns false'. Refute it at one input. -/
def pagerTurnedWrong : ChangeSpec := { name := "pagerTurned", fn := fun _ => fun
  | [d1, d2, d3, d4] => { results := [.lit (.bool false)], args := [d1, d2, d3, d4] }
  | _ => none }
def PagerTurnedWrongFalsely : Prop := pagerTurnedRow.holds Tryz.pinned (OpenSpec.ofChange pagerTurnedWrong)

/-- 'sacristylaw7.PagerStands': WHATEVER THE INPUT: true; the input reads as it did. -/
def pagerStandsSpec : ChangeSpec := { name := "pagerStands", fn := fun _ => fun
  | [d1, d2] => { results := [.lit (.bool true)], args := [d1, d2] }
  | _ => none }
def pagerStandsRow : OpenClaim := { program := "ytenhmbhflgnhlaagreat", sum := "f4df0930673e6d3c7faaa40e99db60f41a6a3a26ddfc45a951b2cb6a731a14dd", func := "sacristy/sacristylaw7.PagerStands", spec := "pagerStands", inPlace := ["maps.clone"], unfollowed := true, recurses := true, apart := false }
def PagerStandsSaid : Prop := pagerStandsRow.holds Tryz.pinned (OpenSpec.ofChange pagerStandsSpec)

/-- ITS FALSE NEIGHBOUR: 'it returns false'. Refute it at one input. -/
def pagerStandsWrong : ChangeSpec := { name := "pagerStands", fn := fun _ => fun
  | [d1, d2] => { results := [.lit (.bool false)], args := [d1, d2] }
  | _ => none }
def PagerStandsWrongFalsely : Prop := pagerStandsRow.holds Tryz.pinned (OpenSpec.ofChange pagerStandsWrong)

/-- 'sacristylaw7.PagerEach': WHATEVER THE INPUT: true; the input reads as it did. -/
def pagerEachSpec : ChangeSpec := { name := "pagerEach", fn := fun _ => fun
  | [d1, d2] => { results := [.lit (.bool true)], args := [d1, d2] }
  | _ => none }
def pagerEachRow : OpenClaim := { program := "ytenhmbhflgnhlaagreat", sum := "f4df0930673e6d3c7faaa40e99db60f41a6a3a26ddfc45a951b2cb6a731a14dd", func := "sacristy/sacristylaw7.PagerEach", spec := "pagerEach", inPlace := ["maps.clone"], unfollowed := true, recurses := true, apart := false }
def PagerEachSaid : Prop := pagerEachRow.holds Tryz.pinned (OpenSpec.ofChange pagerEachSpec)

/-- ITS FALSE NEIGHBOUR: 'it returns false'. Refute it at one input. -/
def pagerEachWrong : ChangeSpec := { name := "pagerEach", fn := fun _ => fun
  | [d1, d2] => { results := [.lit (.bool false)], args := [d1, d2] }
  | _ => none }
def PagerEachWrongFalsely : Prop := pagerEachRow.holds Tryz.pinned (OpenSpec.ofChange pagerEachWrong)

/-- 'sacristylaw7.PagerFull': WHATEVER THE INPUT: true; the input reads as it did. -/
def pagerFullSpec : ChangeSpec := { name := "pagerFull", fn := fun _ => fun
  | [d1, d2] => { results := [.lit (.bool true)], args := [d1, d2] }
  | _ => none }
def pagerFullRow : OpenClaim := { program := "ytenhmbhflgnhlaagreat", sum := "f4df0930673e6d3c7faaa40e99db60f41a6a3a26ddfc45a951b2cb6a731a14dd", func := "sacristy/sacristylaw7.PagerFull", spec := "pagerFull", inPlace := ["maps.clone"], unfollowed := true, recurses := true, apart := false }
def PagerFullSaid : Prop := pagerFullRow.holds Tryz.pinned (OpenSpec.ofChange pagerFullSpec)

/-- ITS FALSE NEIGHBOUR: 'it returns false'. Refute it at one input. -/
def pagerFullWrong : ChangeSpec := { name := "pagerFull", fn := fun _ => fun
  | [d1, d2] => { results := [.lit (.bool false)], args := [d1, d2] }
  | _ => none }
def PagerFullWrongFalsely : Prop := pagerFullRow.holds Tryz.pinned (OpenSpec.ofChange pagerFullWrong)

/-- 'sacristylaw7.PagerLasts': WHATEVER THE INPUT: true; the input reads as it did. -/
def pagerLastsSpec : ChangeSpec := { name := "pagerLasts", fn := fun _ => fun
  | [d1, d2] => { results := [.lit (.bool true)], args := [d1, d2] }
  | _ => none }
def pagerLastsRow : OpenClaim := { program := "ytenhmbhflgnhlaagreat", sum := "f4df0930673e6d3c7faaa40e99db60f41a6a3a26ddfc45a951b2cb6a731a14dd", func := "sacristy/sacristylaw7.PagerLasts", spec := "pagerLasts", inPlace := ["maps.clone"], unfollowed := true, recurses := true, apart := false }
def PagerLastsSaid : Prop := pagerLastsRow.holds Tryz.pinned (OpenSpec.ofChange pagerLastsSpec)

/-- ITS FALSE NEIGHBOUR: 'it returns false'. Refute it at one input. -/
def pagerLastsWrong : ChangeSpec := { name := "pagerLasts", fn := fun _ => fun
  | [d1, d2] => { results := [.lit (.bool false)], args := [d1, d2] }
  | _ => none }
def PagerLastsWrongFalsely : Prop := pagerLastsRow.holds Tryz.pinned (OpenSpec.ofChange pagerLastsWrong)

/-- 'sacristylaw7.PagerPlays': WHATEVER THE INPUT: true; the input reads as it did. -/
def pagerPlaysSpec : ChangeSpec := { name := "pagerPlays", fn := fun _ => fun
  | [d1, d2] => { results := [.lit (.bool true)], args := [d1, d2] }
  | _ => none }
def pagerPlaysRow : OpenClaim := { program := "ytenhmbhflgnhlaagreat", sum := "f4df0930673e6d3c7faaa40e99db60f41a6a3a26ddfc45a951b2cb6a731a14dd", func := "sacristy/sacristylaw7.PagerPlays", spec := "pagerPlays", inPlace := ["maps.clone"], unfollowed := true, recurses := true, apart := false }
def PagerPlaysSaid : Prop := pagerPlaysRow.holds Tryz.pinned (OpenSpec.ofChange pagerPlaysSpec)

/-- ITS FALSE NEIGHBOUR: 'it returns false'. Refute it at one input. -/
def pagerPlaysWrong : ChangeSpec := { name := "pagerPlays", fn := fun _ => fun
  | [d1, d2] => { results := [.lit (.bool false)], args := [d1, d2] }
  | _ => none }
def PagerPlaysWrongFalsely : Prop := pagerPlaysRow.holds Tryz.pinned (OpenSpec.ofChange pagerPlaysWrong)

/- THE SECOND FORM. 'bulk': how many values and letters a reading holds, each counted each time it is reached (what is shared counts as often as it is met; a slice's spare places count too). A statement '..UptoSaid' is the law's where the arguments, and the package variables that the reading takes, are together of bulk at most 1048576: NARROWER than '..Said'. Prove '..Said' where nothing that the law and all that it calls make is longer than what came in: it says more and counts as full. Else prove '..UptoSaid'. A law counts once. -/
mutual
def uptoBulk {H : Type} : DataW H → Nat
  | .lit (.string bytes) => bytes.length + 1
  | .lit _ => 1
  | .nil => 1
  | .ptr d => uptoBulk d + 1
  | .slice elems spare => uptoBulkAll elems + uptoBulkAll spare + 1
  | .agg parts => uptoBulkAll parts + 1
  | .iface _ d => uptoBulk d + 1
  | .map entries => uptoBulkEntries entries + 1
  | .held _ => 1
def uptoBulkAll {H : Type} : List (DataW H) → Nat
  | [] => 0
  | d :: r => uptoBulk d + uptoBulkAll r
def uptoBulkEntries {H : Type} : List (Lit × DataW H) → Nat
  | [] => 0
  | x :: r => uptoBulkEntry x + uptoBulkEntries r
def uptoBulkEntry {H : Type} : Lit × DataW H → Nat
  | (.string bytes, d) => bytes.length + uptoBulk d + 1
  | (_, d) => uptoBulk d + 1
 end
def uptoSmall : (H : Type) → List (DataW H) → Bool := fun _ ds => decide (uptoBulkAll ds ≤ 1048576)
def OpenSpec.upto (s : _root_.Go.ChangeSpec) : _root_.Go.OpenSpec := { _root_.Go.OpenSpec.ofChange s with cond := some uptoSmall }

/-- 'sacristylaw12.SlotsStand', WHERE WHAT IT READS IS OF BULK AT MOST 1048576: true; the input reads as it did. -/
def slotsStandUptoRow : OpenClaim := { program := "ytenhmbhflgnhlaagreat", sum := "f4df0930673e6d3c7faaa40e99db60f41a6a3a26ddfc45a951b2cb6a731a14dd", func := "sacristy/sacristylaw12.SlotsStand", spec := "slotsStand", unfollowed := true, recurses := true, apart := false, narrowed := true }
def SlotsStandUptoSaid : Prop := slotsStandUptoRow.holds Tryz.pinned (OpenSpec.upto slotsStandSpec)

/-- 'sacristylaw7.PagerTurned', WHERE WHAT IT READS IS OF BULK AT MOST 1048576: true; the input reads as it did. -/
def pagerTurnedUptoRow : OpenClaim := { program := "ytenhmbhflgnhlaagreat", sum := "f4df0930673e6d3c7faaa40e99db60f41a6a3a26ddfc45a951b2cb6a731a14dd", func := "sacristy/sacristylaw7.PagerTurned", spec := "pagerTurned", inPlace := ["maps.clone"], unfollowed := true, recurses := true, apart := false, narrowed := true }
def PagerTurnedUptoSaid : Prop := pagerTurnedUptoRow.holds Tryz.pinned (OpenSpec.upto pagerTurnedSpec)

/-- 'sacristylaw7.PagerStands', WHERE WHAT IT READS IS OF BULK AT MOST 1048576: true; the input reads as it did. -/
def pagerStandsUptoRow : OpenClaim := { program := "ytenhmbhflgnhlaagreat", sum := "f4df0930673e6d3c7faaa40e99db60f41a6a3a26ddfc45a951b2cb6a731a14dd", func := "sacristy/sacristylaw7.PagerStands", spec := "pagerStands", inPlace := ["maps.clone"], unfollowed := true, recurses := true, apart := false, narrowed := true }
def PagerStandsUptoSaid : Prop := pagerStandsUptoRow.holds Tryz.pinned (OpenSpec.upto pagerStandsSpec)

/-- 'sacristylaw7.PagerEach', WHERE WHAT IT READS IS OF BULK AT MOST 1048576: true; the input reads as it did. -/
def pagerEachUptoRow : OpenClaim := { program := "ytenhmbhflgnhlaagreat", sum := "f4df0930673e6d3c7faaa40e99db60f41a6a3a26ddfc45a951b2cb6a731a14dd", func := "sacristy/sacristylaw7.PagerEach", spec := "pagerEach", inPlace := ["maps.clone"], unfollowed := true, recurses := true, apart := false, narrowed := true }
def PagerEachUptoSaid : Prop := pagerEachUptoRow.holds Tryz.pinned (OpenSpec.upto pagerEachSpec)

/-- 'sacristylaw7.PagerFull', WHERE WHAT IT READS IS OF BULK AT MOST 1048576: true; the input reads as it did. -/
def pagerFullUptoRow : OpenClaim := { program := "ytenhmbhflgnhlaagreat", sum := "f4df0930673e6d3c7faaa40e99db60f41a6a3a26ddfc45a951b2cb6a731a14dd", func := "sacristy/sacristylaw7.PagerFull", spec := "pagerFull", inPlace := ["maps.clone"], unfollowed := true, recurses := true, apart := false, narrowed := true }
def PagerFullUptoSaid : Prop := pagerFullUptoRow.holds Tryz.pinned (OpenSpec.upto pagerFullSpec)

/-- 'sacristylaw7.PagerLasts', WHERE WHAT IT READS IS OF BULK AT MOST 1048576: true; the input reads as it did. -/
def pagerLastsUptoRow : OpenClaim := { program := "ytenhmbhflgnhlaagreat", sum := "f4df0930673e6d3c7faaa40e99db60f41a6a3a26ddfc45a951b2cb6a731a14dd", func := "sacristy/sacristylaw7.PagerLasts", spec := "pagerLasts", inPlace := ["maps.clone"], unfollowed := true, recurses := true, apart := false, narrowed := true }
def PagerLastsUptoSaid : Prop := pagerLastsUptoRow.holds Tryz.pinned (OpenSpec.upto pagerLastsSpec)

/-- 'sacristylaw7.PagerPlays', WHERE WHAT IT READS IS OF BULK AT MOST 1048576: true; the input reads as it did. -/
def pagerPlaysUptoRow : OpenClaim := { program := "ytenhmbhflgnhlaagreat", sum := "f4df0930673e6d3c7faaa40e99db60f41a6a3a26ddfc45a951b2cb6a731a14dd", func := "sacristy/sacristylaw7.PagerPlays", spec := "pagerPlays", inPlace := ["maps.clone"], unfollowed := true, recurses := true, apart := false, narrowed := true }
def PagerPlaysUptoSaid : Prop := pagerPlaysUptoRow.holds Tryz.pinned (OpenSpec.upto pagerPlaysSpec)

end Rows
end Go.Proofs.YtenhmbhflgnhlaaGreat
