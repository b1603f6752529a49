/-
  No cell of these rows narrows 'for every input' (looked for: loops, veiled, ifaces, maps, wideKeys, modest, calm, conditions, laid).
  DERIVED. THE GIVEN ROWS OF THIS SEAT. 5 by the template 'for every input the law returns true; each argument reads behind the call as it read before'; 0 by the template 'total and deterministic' (their statements: YtenhmbhflgnhlaaTotals.lean).
  GIVEN WITH THE SEED: the statements are not yours to turn. If you find one false, say at which input.
  Laid BY PROGRAM, IN A SANDBOX (cutbox-rows.mjs): the forced cells as the released guide's own fill.sh prints them over the translation 1366dee1ce29683e… (all of the seat's roots in one cut). By AI agents, Wed Nov 11 2026. No macro, syntax, notation, axiom, sorry.
-/
import Derived.Test.YtenhmbhflgnhlaaChecked
import GoSem.Claim
import GoSem.ClaimJoined
import GoSem.ClaimMapViews
import Derived.JoinedTies
import Derived.KernelRfl
namespace Go.Proofs.Ytenhmbhflgnhlaa
/- THE CELL 'sum', in the pinned program and in every row, IS THE sha256 OF THE DUMP (.gsa) THAT YtenhmbhflgnhlaaProg.lean LOADS. Nothing in Lean hashes anything: it is a label: what it is worth is what the hold of that sum in a sandbox is worth. -/
noncomputable def Try.pinned : Pinned := { name := "ytenhmbhflgnhlaa", sum := "1366dee1ce29683e98774fdfeff19c269e086113ac872b4f0da7338b925193ac", checked := Try.checked }
namespace Rows
def none {H : Type} : Left H := { results := [], args := [] }

/-- 'sacristylaw12.SlotsApart': WHATEVER THE INPUT: true; the input reads as it did. -/
def slotsApartSpec : ChangeSpec := { name := "slotsApart", fn := fun _ => fun
  | [d] => { results := [.lit (.bool true)], args := [d] }
  | _ => none }
def slotsApartRow : OpenClaim := { program := "ytenhmbhflgnhlaa", sum := "1366dee1ce29683e98774fdfeff19c269e086113ac872b4f0da7338b925193ac", func := "sacristy/sacristylaw12.SlotsApart", spec := "slotsApart", unfollowed := true, recurses := true, apart := false }
def SlotsApartSaid : Prop := slotsApartRow.holds Try.pinned (OpenSpec.ofChange slotsApartSpec)

/-- ITS FALSE NEIGHBOUR: 'it returns false'. Refute it at one input. -/
def slotsApartWrong : ChangeSpec := { name := "slotsApart", fn := fun _ => fun
  | [d] => { results := [.lit (.bool false)], args := [d] }
  | _ => none }
def SlotsApartWrongFalsely : Prop := slotsApartRow.holds Try.pinned (OpenSpec.ofChange slotsApartWrong)

/-- 'sacristylaw12.SlotsMade': WHATEVER THE INPUT: true; the input reads as it did. -/
def slotsMadeSpec : ChangeSpec := { name := "slotsMade", fn := fun _ => fun
  | [d1, d2] => { results := [.lit (.bool true)], args := [d1, d2] }
  | _ => none }
def slotsMadeRow : OpenClaim := { program := "ytenhmbhflgnhlaa", sum := "1366dee1ce29683e98774fdfeff19c269e086113ac872b4f0da7338b925193ac", func := "sacristy/sacristylaw12.SlotsMade", spec := "slotsMade", unfollowed := true, recurses := true, apart := false }
def SlotsMadeSaid : Prop := slotsMadeRow.holds Try.pinned (OpenSpec.ofChange slotsMadeSpec)

/-- ITS FALSE NEIGHBOUR: 'it returns false'. Refute it at one input. -/
def slotsMadeWrong : ChangeSpec := { name := "slotsMade", fn := fun _ => fun
  | [d1, d2] => { results := [.lit (.bool false)], args := [d1, d2] }
  | _ => none }
def SlotsMadeWrongFalsely : Prop := slotsMadeRow.holds Try.pinned (OpenSpec.ofChange slotsMadeWrong)

/-- 'sacristylaw12.SlotsLast': WHATEVER THE INPUT: true; the input reads as it did. -/
def slotsLastSpec : ChangeSpec := { name := "slotsLast", fn := fun _ => fun
  | [d1, d2, d3] => { results := [.lit (.bool true)], args := [d1, d2, d3] }
  | _ => none }
def slotsLastRow : OpenClaim := { program := "ytenhmbhflgnhlaa", sum := "1366dee1ce29683e98774fdfeff19c269e086113ac872b4f0da7338b925193ac", func := "sacristy/sacristylaw12.SlotsLast", spec := "slotsLast", unfollowed := true, recurses := true, apart := false }
def SlotsLastSaid : Prop := slotsLastRow.holds Try.pinned (OpenSpec.ofChange slotsLastSpec)

/-- ITS FALSE NEIGHBOUR: 'it returns false'. Refute it at one input. -/
def slotsLastWrong : ChangeSpec := { name := "slotsLast", fn := fun _ => fun
  | [d1, d2, d3] => { results := [.lit (.bool false)], args := [d1, d2, d3] }
  | _ => none }
def SlotsLastWrongFalsely : Prop := slotsLastRow.holds Try.pinned (OpenSpec.ofChange slotsLastWrong)

/-- 'sacristylaw12.SlotsErased': WHATEVER THE INPUT: true; the input reads as it did. -/
def slotsErasedSpec : ChangeSpec := { name := "slotsErased", fn := fun _ => fun
  | [d1, d2, d3, d4, d5, d6, d7, d8] => { results := [.lit (.bool true)], args := [d1, d2, d3, d4, d5, d6, d7, d8] }
  | _ => none }
def slotsErasedRow : OpenClaim := { program := "ytenhmbhflgnhlaa", sum := "1366dee1ce29683e98774fdfeff19c269e086113ac872b4f0da7338b925193ac", func := "sacristy/sacristylaw12.SlotsErased", spec := "slotsErased", unfollowed := true, recurses := true, apart := false }
def SlotsErasedSaid : Prop := slotsErasedRow.holds Try.pinned (OpenSpec.ofChange slotsErasedSpec)

/-- ITS FALSE NEIGHBOUR: 'it returns false'. Refute it at one input. -/
def slotsErasedWrong : ChangeSpec := { name := "slotsErased", fn := fun _ => fun
  | [d1, d2, d3, d4, d5, d6, d7, d8] => { results := [.lit (.bool false)], args := [d1, d2, d3, d4, d5, d6, d7, d8] }
  | _ => none }
def SlotsErasedWrongFalsely : Prop := slotsErasedRow.holds Try.pinned (OpenSpec.ofChange slotsErasedWrong)

/-- 'sacristylaw12.SlotsPlay': WHATEVER THE INPUT: true; the input reads as it did. -/
def slotsPlaySpec : ChangeSpec := { name := "slotsPlay", fn := fun _ => fun
  | [d] => { results := [.lit (.bool true)], args := [d] }
  | _ => none }
def slotsPlayRow : OpenClaim := { program := "ytenhmbhflgnhlaa", sum := "1366dee1ce29683e98774fdfeff19c269e086113ac872b4f0da7338b925193ac", func := "sacristy/sacristylaw12.SlotsPlay", spec := "slotsPlay", unfollowed := true, recurses := true, apart := false }
def SlotsPlaySaid : Prop := slotsPlayRow.holds Try.pinned (OpenSpec.ofChange slotsPlaySpec)

/-- ITS FALSE NEIGHBOUR: 'it returns false'. Refute it at one input. -/
def slotsPlayWrong : ChangeSpec := { name := "slotsPlay", fn := fun _ => fun
  | [d] => { results := [.lit (.bool false)], args := [d] }
  | _ => none }
def SlotsPlayWrongFalsely : Prop := slotsPlayRow.holds Try.pinned (OpenSpec.ofChange slotsPlayWrong)

/- THE SECOND FORM. 'bulk': how many values and letters a reading holds, each counted each time it is reached (what is shared counts as often as it is met; a slice's spare places count too). A statement '..UptoSaid' is the law's where the arguments, and the package variables that the reading takes, are together of bulk at most 1048576: NARROWER than '..Said'. Prove '..Said' where nothing that the law and all that it calls make is longer than what came in: it says more and counts as full. Else prove '..UptoSaid'. A law counts once. -/
mutual
def uptoBulk {H : Type} : DataW H → Nat
  | .lit (.string bytes) => bytes.length + 1
  | .lit _ => 1
  | .nil => 1
  | .ptr d => uptoBulk d + 1
  | .slice elems spare => uptoBulkAll elems + uptoBulkAll spare + 1
  | .agg parts => uptoBulkAll parts + 1
  | .iface _ d => uptoBulk d + 1
  | .map entries => uptoBulkEntries entries + 1
  | .held _ => 1
def uptoBulkAll {H : Type} : List (DataW H) → Nat
  | [] => 0
  | d :: r => uptoBulk d + uptoBulkAll r
def uptoBulkEntries {H : Type} : List (Lit × DataW H) → Nat
  | [] => 0
  | x :: r => uptoBulkEntry x + uptoBulkEntries r
def uptoBulkEntry {H : Type} : Lit × DataW H → Nat
  | (.string bytes, d) => bytes.length + uptoBulk d + 1
  | (_, d) => uptoBulk d + 1
 end
def uptoSmall : (H : Type) → List (DataW H) → Bool := fun _ ds => decide (uptoBulkAll ds ≤ 1048576)
def OpenSpec.upto (s : _root_.Go.ChangeSpec) : _root_.Go.OpenSpec := { _root_.Go.OpenSpec.ofChange s with cond := some uptoSmall }

/-- 'sacristylaw12.SlotsApart', WHERE WHAT IT READS IS OF BULK AT MOST 1048576: true; the input reads as it did. -/
def slotsApartUptoRow : OpenClaim := { program := "ytenhmbhflgnhlaa", sum := "1366dee1ce29683e98774fdfeff19c269e086113ac872b4f0da7338b925193ac", func := "sacristy/sacristylaw12.SlotsApart", spec := "slotsApart", unfollowed := true, recurses := true, apart := false, narrowed := true }
def SlotsApartUptoSaid : Prop := slotsApartUptoRow.holds Try.pinned (OpenSpec.upto slotsApartSpec)

/-- 'sacristylaw12.SlotsMade', WHERE WHAT IT READS IS OF BULK AT MOST 1048576: true; the input reads as it did. -/
def slotsMadeUptoRow : OpenClaim := { program := "ytenhmbhflgnhlaa", sum := "1366dee1ce29683e98774fdfeff19c269e086113ac872b4f0da7338b925193ac", func := "sacristy/sacristylaw12.SlotsMade", spec := "slotsMade", unfollowed := true, recurses := true, apart := false, narrowed := true }
def SlotsMadeUptoSaid : Prop := slotsMadeUptoRow.holds Try.pinned (OpenSpec.upto slotsMadeSpec)

/-- 'sacristylaw12.SlotsLast', WHERE WHAT IT READS IS OF BULK AT MOST 1048576: true; the input reads as it did. -/
def slotsLastUptoRow : OpenClaim := { program := "ytenhmbhflgnhlaa", sum := "1366dee1ce29683e98774fdfeff19c269e086113ac872b4f0da7338b925193ac", func := "sacristy/sacristylaw12.SlotsLast", spec := "slotsLast", unfollowed := true, recurses := true, apart := false, narrowed := true }
def SlotsLastUptoSaid : Prop := slotsLastUptoRow.holds Try.pinned (OpenSpec.upto slotsLastSpec)

/-- 'sacristylaw12.SlotsErased', WHERE WHAT IT READS IS OF BULK AT MOST 1048576: true; the input reads as it did. -/
def slotsErasedUptoRow : OpenClaim := { program := "ytenhmbhflgnhlaa", sum := "1366dee1ce29683e98774fdfeff19c269e086113ac872b4f0da7338b925193ac", func := "sacristy/sacristylaw12.SlotsErased", spec := "slotsErased", unfollowed := true, recurses := true, apart := false, narrowed := true }
def SlotsErasedUptoSaid : Prop := slotsErasedUptoRow.holds Try.pinned (OpenSpec.upto slotsErasedSpec)

/-- 'sacristylaw12.SlotsPlay', WHERE WHAT IT READS IS OF BULK AT MOST 1048576: true; the input reads as it did. -/
def slotsPlayUptoRow : OpenClaim := { program := "ytenhmbhflgnhlaa", sum := "1366dee1ce29683e98774fdfeff19c269e086113ac872b4f0da7338b925193ac", func := "sacristy/sacristylaw12.SlotsPlay", spec := "slotsPlay", unfollowed := true, recurses := true, apart := false, narrowed := true }
def SlotsPlayUptoSaid : Prop := slotsPlayUptoRow.holds Try.pinned (OpenSpec.upto slotsPlaySpec)

end Rows
end Go.Proofs.Ytenhmbhflgnhlaa
