/-
  NARROWER THAN 'FOR EVERY INPUT', by the rows' own cells (each row's printed sentence says how): LowerMeans: loops, laid · LowerHides: loops, laid · LowerPlain: loops, laid · LowerSays: loops, laid.
  DERIVED. THE GIVEN ROWS OF THIS SEAT. 4 by the template 'for every input the law returns true; each argument reads behind the call as it read before'; 0 by the template 'total and deterministic' (their statements: YtkplfaionpplaaaGreatDoorTotals.lean).
  GIVEN WITH THE SEED: the statements are not yours to turn. If you find one false, say at which input.
  Laid BY PROGRAM, IN A SANDBOX (cutbox-rows.mjs): the forced cells as the released guide's own fill.sh prints them over the translation f98f947a7e9a9c3b… (all of the seat's roots in one cut). By AI agents, Wed Nov 11 2026. No macro, syntax, notation, axiom, sorry.
-/
import Derived.Test.YtkplfaionpplaaaGreatDoorChecked
import GoSem.Claim
import GoSem.ClaimJoined
import GoSem.ClaimMapViews
import Derived.JoinedTies
import Derived.KernelRfl
namespace Go.Proofs.YtkplfaionpplaaaGreatDoor
/- THE CELL 'sum', in the pinned program and in every row, IS THE sha256 OF THE DUMP (.gsa) THAT YtkplfaionpplaaaGreatDoorProg.lean LOADS. Nothing in Lean hashes anything: it is a label: what it is worth is what the hold of that sum in a sandbox is worth. -/
noncomputable def Tryz.pinned : Pinned := { name := "ytkplfaionpplaaagreatdoor", sum := "f98f947a7e9a9c3b18afbff5095c1b810c51a72581ced43a72b38418c88376e4", checked := Tryz.checked }
namespace Rows
def none {H : Type} : Left H := { results := [], args := [] }

/- WHAT THE LISTED PACKAGE-LEVEL VARIABLES READ AS WHEN THE CALL BEGINS. Each datum BY PROGRAM (the guide's laid-datum.mjs) off the statement by which the dump's own 'gosem.cut.vars' lays the variable. In a bare row this is a premise. The card (YtkplfaionpplaaaGreatDoorCards.lean) ties it to the program's text. -/
def laid_alembic_api_ErrRange {H : Type} : DataW H := .iface "*errors.errorString" (.ptr (.agg [.lit (.string [97, 32, 110, 117, 109, 98, 101, 114, 32, 111, 117, 116, 32, 111, 102, 32, 105, 116, 115, 32, 114, 97, 110, 103, 101])]))
def laid_alembic_api_ErrMany {H : Type} : DataW H := .iface "*errors.errorString" (.ptr (.agg [.lit (.string [116, 111, 111, 32, 109, 97, 110, 121])]))
def laid_alembic_api_ErrShape {H : Type} : DataW H := .iface "*errors.errorString" (.ptr (.agg [.lit (.string [110, 111, 116, 32, 97, 115, 32, 105, 116, 32, 104, 97, 115, 32, 116, 111, 32, 98, 101])]))
def laid_alembic_api_ErrOp {H : Type} : DataW H := .iface "*errors.errorString" (.ptr (.agg [.lit (.string [110, 111, 32, 115, 117, 99, 104, 32, 116, 104, 105, 110, 103, 32, 116, 111, 32, 100, 111])]))
def laid_alembic_api_ErrVar {H : Type} : DataW H := .iface "*errors.errorString" (.ptr (.agg [.lit (.string [110, 111, 32, 115, 117, 99, 104, 32, 118, 97, 114, 105, 97, 98, 108, 101])]))
def laid_alembic_api_ErrSecret {H : Type} : DataW H := .iface "*errors.errorString" (.ptr (.agg [.lit (.string [97, 32, 115, 101, 99, 114, 101, 116, 32, 119, 104, 101, 114, 101, 32, 105, 116, 32, 109, 97, 121, 32, 110, 111, 116, 32, 98, 101])]))
def laid_alembic_api_ErrLength {H : Type} : DataW H := .iface "*errors.errorString" (.ptr (.agg [.lit (.string [110, 111, 116, 32, 97, 115, 32, 108, 111, 110, 103, 32, 97, 115, 32, 105, 116, 32, 104, 97, 115, 32, 116, 111, 32, 98, 101])]))
def laid_alembic_api_ErrNone {H : Type} : DataW H := .iface "*errors.errorString" (.ptr (.agg [.lit (.string [116, 104, 101, 114, 101, 32, 105, 115, 32, 110, 111, 110, 101])]))
def laid_alembic_api_ErrLabel {H : Type} : DataW H := .iface "*errors.errorString" (.ptr (.agg [.lit (.string [110, 111, 32, 115, 117, 99, 104, 32, 112, 108, 97, 99, 101])]))
def laid_alembic_api_ErrFar {H : Type} : DataW H := .iface "*errors.errorString" (.ptr (.agg [.lit (.string [116, 111, 111, 32, 102, 97, 114])]))
def laid_alembic_api_ErrFuel {H : Type} : DataW H := .iface "*errors.errorString" (.ptr (.agg [.lit (.string [105, 116, 32, 116, 97, 107, 101, 115, 32, 116, 111, 111, 32, 108, 111, 110, 103])]))
def laid_alembic_api_ErrFault {H : Type} : DataW H := .iface "*errors.errorString" (.ptr (.agg [.lit (.string [119, 104, 101, 114, 101, 32, 116, 104, 101, 114, 101, 32, 105, 115, 32, 110, 111, 116, 104, 105, 110, 103])]))
def laid_alembic_api_ErrWord {H : Type} : DataW H := .iface "*errors.errorString" (.ptr (.agg [.lit (.string [110, 111, 32, 115, 117, 99, 104, 32, 119, 111, 114, 100])]))
def laid_alembic_api_ErrNumber {H : Type} : DataW H := .iface "*errors.errorString" (.ptr (.agg [.lit (.string [110, 111, 116, 32, 97, 32, 110, 117, 109, 98, 101, 114])]))

/-- 'alembiclaw19.LowerMeans': WHATEVER THE INPUT: true; the input reads as it did. -/
def lowerMeansSpec : ChangeSpec := { name := "lowerMeans", fn := fun _ => fun
  | [d1, d2, d3] => { results := [.lit (.bool true)], args := [d1, d2, d3] }
  | _ => none }
def lowerMeansRow : OpenClaim := { program := "ytkplfaionpplaaagreatdoor", sum := "f98f947a7e9a9c3b18afbff5095c1b810c51a72581ced43a72b38418c88376e4", func := "alembic/alembiclaw19.LowerMeans", spec := "lowerMeans", unfollowed := true, recurses := true, named := ["alembic/api.ErrSecret", "alembic/api.ErrMany", "alembic/api.ErrRange", "alembic/api.ErrOp", "alembic/api.ErrVar", "alembic/api.ErrShape"], loops := true, apart := false, laid := [("alembic/api.ErrRange", laid_alembic_api_ErrRange), ("alembic/api.ErrMany", laid_alembic_api_ErrMany), ("alembic/api.ErrShape", laid_alembic_api_ErrShape), ("alembic/api.ErrOp", laid_alembic_api_ErrOp), ("alembic/api.ErrVar", laid_alembic_api_ErrVar), ("alembic/api.ErrSecret", laid_alembic_api_ErrSecret)] }
def LowerMeansSaid : Prop := lowerMeansRow.holds Tryz.pinned (OpenSpec.ofChange lowerMeansSpec)

/-- ITS FALSE NEIGHBOUR: 'it returns false'. Refute it at one input. -/
def lowerMeansWrong : ChangeSpec := { name := "lowerMeans", fn := fun _ => fun
  | [d1, d2, d3] => { results := [.lit (.bool false)], args := [d1, d2, d3] }
  | _ => none }
def LowerMeansWrongFalsely : Prop := lowerMeansRow.holds Tryz.pinned (OpenSpec.ofChange lowerMeansWrong)

/-- 'alembiclaw19.LowerHides': WHATEVER THE INPUT: true; the input reads as it did. -/
def lowerHidesSpec : ChangeSpec := { name := "lowerHides", fn := fun _ => fun
  | [d1, d2, d3, d4, d5] => { results := [.lit (.bool true)], args := [d1, d2, d3, d4, d5] }
  | _ => none }
def lowerHidesRow : OpenClaim := { program := "ytkplfaionpplaaagreatdoor", sum := "f98f947a7e9a9c3b18afbff5095c1b810c51a72581ced43a72b38418c88376e4", func := "alembic/alembiclaw19.LowerHides", spec := "lowerHides", unfollowed := true, recurses := true, named := ["alembic/api.ErrSecret", "alembic/api.ErrMany", "alembic/api.ErrRange", "alembic/api.ErrOp", "alembic/api.ErrVar", "alembic/api.ErrShape"], loops := true, apart := false, laid := [("alembic/api.ErrRange", laid_alembic_api_ErrRange), ("alembic/api.ErrMany", laid_alembic_api_ErrMany), ("alembic/api.ErrShape", laid_alembic_api_ErrShape), ("alembic/api.ErrOp", laid_alembic_api_ErrOp), ("alembic/api.ErrVar", laid_alembic_api_ErrVar), ("alembic/api.ErrSecret", laid_alembic_api_ErrSecret)] }
def LowerHidesSaid : Prop := lowerHidesRow.holds Tryz.pinned (OpenSpec.ofChange lowerHidesSpec)

/-- ITS FALSE NEIGHBOUR: 'it returns false'. Refute it at one input. -/
def lowerHidesWrong : ChangeSpec := { name := "lowerHides", fn := fun _ => fun
  | [d1, d2, d3, d4, d5] => { results := [.lit (.bool false)], args := [d1, d2, d3, d4, d5] }
  | _ => none }
def LowerHidesWrongFalsely : Prop := lowerHidesRow.holds Tryz.pinned (OpenSpec.ofChange lowerHidesWrong)

/-- 'alembiclaw19.LowerPlain': WHATEVER THE INPUT: true; the input reads as it did. -/
def lowerPlainSpec : ChangeSpec := { name := "lowerPlain", fn := fun _ => fun
  | [d1, d2, d3] => { results := [.lit (.bool true)], args := [d1, d2, d3] }
  | _ => none }
def lowerPlainRow : OpenClaim := { program := "ytkplfaionpplaaagreatdoor", sum := "f98f947a7e9a9c3b18afbff5095c1b810c51a72581ced43a72b38418c88376e4", func := "alembic/alembiclaw19.LowerPlain", spec := "lowerPlain", unfollowed := true, recurses := true, named := ["alembic/api.ErrSecret", "alembic/api.ErrMany", "alembic/api.ErrRange", "alembic/api.ErrOp", "alembic/api.ErrVar", "alembic/api.ErrShape"], loops := true, apart := false, laid := [("alembic/api.ErrRange", laid_alembic_api_ErrRange), ("alembic/api.ErrMany", laid_alembic_api_ErrMany), ("alembic/api.ErrShape", laid_alembic_api_ErrShape), ("alembic/api.ErrOp", laid_alembic_api_ErrOp), ("alembic/api.ErrVar", laid_alembic_api_ErrVar), ("alembic/api.ErrSecret", laid_alembic_api_ErrSecret)] }
def LowerPlainSaid : Prop := lowerPlainRow.holds Tryz.pinned (OpenSpec.ofChange lowerPlainSpec)

/-- ITS FALSE NEIGHBOUR: 'it returns false'. Refute it at one input. -/
def lowerPlainWrong : ChangeSpec := { name := "lowerPlain", fn := fun _ => fun
  | [d1, d2, d3] => { results := [.lit (.bool false)], args := [d1, d2, d3] }
  | _ => none }
def LowerPlainWrongFalsely : Prop := lowerPlainRow.holds Tryz.pinned (OpenSpec.ofChange lowerPlainWrong)

/-- 'alembiclaw19.LowerSays': WHATEVER THE INPUT: true; the input reads as it did. -/
def lowerSaysSpec : ChangeSpec := { name := "lowerSays", fn := fun _ => fun
  | [d1, d2, d3, d4, d5] => { results := [.lit (.bool true)], args := [d1, d2, d3, d4, d5] }
  | _ => none }
def lowerSaysRow : OpenClaim := { program := "ytkplfaionpplaaagreatdoor", sum := "f98f947a7e9a9c3b18afbff5095c1b810c51a72581ced43a72b38418c88376e4", func := "alembic/alembiclaw19.LowerSays", spec := "lowerSays", unfollowed := true, recurses := true, named := ["alembic/api.ErrSecret", "alembic/api.ErrMany", "alembic/api.ErrRange", "alembic/api.ErrOp", "alembic/api.ErrVar", "alembic/api.ErrShape", "alembic/api.ErrLength", "alembic/api.ErrNone", "alembic/api.ErrLabel", "alembic/api.ErrFar", "alembic/api.ErrFuel", "alembic/api.ErrFault", "alembic/api.ErrWord", "alembic/api.ErrNumber"], loops := true, apart := false, laid := [("alembic/api.ErrRange", laid_alembic_api_ErrRange), ("alembic/api.ErrLength", laid_alembic_api_ErrLength), ("alembic/api.ErrMany", laid_alembic_api_ErrMany), ("alembic/api.ErrShape", laid_alembic_api_ErrShape), ("alembic/api.ErrNone", laid_alembic_api_ErrNone), ("alembic/api.ErrOp", laid_alembic_api_ErrOp), ("alembic/api.ErrVar", laid_alembic_api_ErrVar), ("alembic/api.ErrSecret", laid_alembic_api_ErrSecret), ("alembic/api.ErrLabel", laid_alembic_api_ErrLabel), ("alembic/api.ErrFar", laid_alembic_api_ErrFar), ("alembic/api.ErrFuel", laid_alembic_api_ErrFuel), ("alembic/api.ErrFault", laid_alembic_api_ErrFault), ("alembic/api.ErrWord", laid_alembic_api_ErrWord), ("alembic/api.ErrNumber", laid_alembic_api_ErrNumber)] }
def LowerSaysSaid : Prop := lowerSaysRow.holds Tryz.pinned (OpenSpec.ofChange lowerSaysSpec)

/-- ITS FALSE NEIGHBOUR: 'it returns false'. Refute it at one input. -/
def lowerSaysWrong : ChangeSpec := { name := "lowerSays", fn := fun _ => fun
  | [d1, d2, d3, d4, d5] => { results := [.lit (.bool false)], args := [d1, d2, d3, d4, d5] }
  | _ => none }
def LowerSaysWrongFalsely : Prop := lowerSaysRow.holds Tryz.pinned (OpenSpec.ofChange lowerSaysWrong)

/- THE SECOND FORM. 'bulk': how many values and letters a reading holds, each counted each time it is reached (what is shared counts as often as it is met; a slice's spare places count too). A statement '..UptoSaid' is the law's where the arguments, and the package variables that the reading takes, are together of bulk at most 1048576: NARROWER than '..Said'. Prove '..Said' where nothing that the law and all that it calls make is longer than what came in: it says more and counts as full. Else prove '..UptoSaid'. A law counts once. -/
mutual
def uptoBulk {H : Type} : DataW H → Nat
  | .lit (.string bytes) => bytes.length + 1
  | .lit _ => 1
  | .nil => 1
  | .ptr d => uptoBulk d + 1
  | .slice elems spare => uptoBulkAll elems + uptoBulkAll spare + 1
  | .agg parts => uptoBulkAll parts + 1
  | .iface _ d => uptoBulk d + 1
  | .map entries => uptoBulkEntries entries + 1
  | .held _ => 1
def uptoBulkAll {H : Type} : List (DataW H) → Nat
  | [] => 0
  | d :: r => uptoBulk d + uptoBulkAll r
def uptoBulkEntries {H : Type} : List (Lit × DataW H) → Nat
  | [] => 0
  | x :: r => uptoBulkEntry x + uptoBulkEntries r
def uptoBulkEntry {H : Type} : Lit × DataW H → Nat
  | (.string bytes, d) => bytes.length + uptoBulk d + 1
  | (_, d) => uptoBulk d + 1
 end
def uptoSmall : (H : Type) → List (DataW H) → Bool := fun _ ds => decide (uptoBulkAll ds ≤ 1048576)
def OpenSpec.upto (s : _root_.Go.ChangeSpec) : _root_.Go.OpenSpec := { _root_.Go.OpenSpec.ofChange s with cond := some uptoSmall }

/-- 'alembiclaw19.LowerMeans', WHERE WHAT IT READS IS OF BULK AT MOST 1048576: true; the input reads as it did. -/
def lowerMeansUptoRow : OpenClaim := { program := "ytkplfaionpplaaagreatdoor", sum := "f98f947a7e9a9c3b18afbff5095c1b810c51a72581ced43a72b38418c88376e4", func := "alembic/alembiclaw19.LowerMeans", spec := "lowerMeans", unfollowed := true, recurses := true, named := ["alembic/api.ErrSecret", "alembic/api.ErrMany", "alembic/api.ErrRange", "alembic/api.ErrOp", "alembic/api.ErrVar", "alembic/api.ErrShape"], loops := true, apart := false, laid := [("alembic/api.ErrRange", laid_alembic_api_ErrRange), ("alembic/api.ErrMany", laid_alembic_api_ErrMany), ("alembic/api.ErrShape", laid_alembic_api_ErrShape), ("alembic/api.ErrOp", laid_alembic_api_ErrOp), ("alembic/api.ErrVar", laid_alembic_api_ErrVar), ("alembic/api.ErrSecret", laid_alembic_api_ErrSecret)], narrowed := true }
def LowerMeansUptoSaid : Prop := lowerMeansUptoRow.holds Tryz.pinned (OpenSpec.upto lowerMeansSpec)

/-- 'alembiclaw19.LowerHides', WHERE WHAT IT READS IS OF BULK AT MOST 1048576: true; the input reads as it did. -/
def lowerHidesUptoRow : OpenClaim := { program := "ytkplfaionpplaaagreatdoor", sum := "f98f947a7e9a9c3b18afbff5095c1b810c51a72581ced43a72b38418c88376e4", func := "alembic/alembiclaw19.LowerHides", spec := "lowerHides", unfollowed := true, recurses := true, named := ["alembic/api.ErrSecret", "alembic/api.ErrMany", "alembic/api.ErrRange", "alembic/api.ErrOp", "alembic/api.ErrVar", "alembic/api.ErrShape"], loops := true, apart := false, laid := [("alembic/api.ErrRange", laid_alembic_api_ErrRange), ("alembic/api.ErrMany", laid_alembic_api_ErrMany), ("alembic/api.ErrShape", laid_alembic_api_ErrShape), ("alembic/api.ErrOp", laid_alembic_api_ErrOp), ("alembic/api.ErrVar", laid_alembic_api_ErrVar), ("alembic/api.ErrSecret", laid_alembic_api_ErrSecret)], narrowed := true }
def LowerHidesUptoSaid : Prop := lowerHidesUptoRow.holds Tryz.pinned (OpenSpec.upto lowerHidesSpec)

/-- 'alembiclaw19.LowerPlain', WHERE WHAT IT READS IS OF BULK AT MOST 1048576: true; the input reads as it did. -/
def lowerPlainUptoRow : OpenClaim := { program := "ytkplfaionpplaaagreatdoor", sum := "f98f947a7e9a9c3b18afbff5095c1b810c51a72581ced43a72b38418c88376e4", func := "alembic/alembiclaw19.LowerPlain", spec := "lowerPlain", unfollowed := true, recurses := true, named := ["alembic/api.ErrSecret", "alembic/api.ErrMany", "alembic/api.ErrRange", "alembic/api.ErrOp", "alembic/api.ErrVar", "alembic/api.ErrShape"], loops := true, apart := false, laid := [("alembic/api.ErrRange", laid_alembic_api_ErrRange), ("alembic/api.ErrMany", laid_alembic_api_ErrMany), ("alembic/api.ErrShape", laid_alembic_api_ErrShape), ("alembic/api.ErrOp", laid_alembic_api_ErrOp), ("alembic/api.ErrVar", laid_alembic_api_ErrVar), ("alembic/api.ErrSecret", laid_alembic_api_ErrSecret)], narrowed := true }
def LowerPlainUptoSaid : Prop := lowerPlainUptoRow.holds Tryz.pinned (OpenSpec.upto lowerPlainSpec)

/-- 'alembiclaw19.LowerSays', WHERE WHAT IT READS IS OF BULK AT MOST 1048576: true; the input reads as it did. -/
def lowerSaysUptoRow : OpenClaim := { program := "ytkplfaionpplaaagreatdoor", sum := "f98f947a7e9a9c3b18afbff5095c1b810c51a72581ced43a72b38418c88376e4", func := "alembic/alembiclaw19.LowerSays", spec := "lowerSays", unfollowed := true, recurses := true, named := ["alembic/api.ErrSecret", "alembic/api.ErrMany", "alembic/api.ErrRange", "alembic/api.ErrOp", "alembic/api.ErrVar", "alembic/api.ErrShape", "alembic/api.ErrLength", "alembic/api.ErrNone", "alembic/api.ErrLabel", "alembic/api.ErrFar", "alembic/api.ErrFuel", "alembic/api.ErrFault", "alembic/api.ErrWord", "alembic/api.ErrNumber"], loops := true, apart := false, laid := [("alembic/api.ErrRange", laid_alembic_api_ErrRange), ("alembic/api.ErrLength", laid_alembic_api_ErrLength), ("alembic/api.ErrMany", laid_alembic_api_ErrMany), ("alembic/api.ErrShape", laid_alembic_api_ErrShape), ("alembic/api.ErrNone", laid_alembic_api_ErrNone), ("alembic/api.ErrOp", laid_alembic_api_ErrOp), ("alembic/api.ErrVar", laid_alembic_api_ErrVar), ("alembic/api.ErrSecret", laid_alembic_api_ErrSecret), ("alembic/api.ErrLabel", laid_alembic_api_ErrLabel), ("alembic/api.ErrFar", laid_alembic_api_ErrFar), ("alembic/api.ErrFuel", laid_alembic_api_ErrFuel), ("alembic/api.ErrFault", laid_alembic_api_ErrFault), ("alembic/api.ErrWord", laid_alembic_api_ErrWord), ("alembic/api.ErrNumber", laid_alembic_api_ErrNumber)], narrowed := true }
def LowerSaysUptoSaid : Prop := lowerSaysUptoRow.holds Tryz.pinned (OpenSpec.upto lowerSaysSpec)

end Rows
end Go.Proofs.YtkplfaionpplaaaGreatDoor
