/-
  DERIVED. GIVEN WITH THE SEED: THE CARDS: each row of YtkplfaionpplaaaGreatDoorRows.lean that lists a variable, with what it lists TIED to the program's text (the seventh form; the later family's looks); each row that meets fmt, with fmt's text TOLD by the authors' own Lean function (tested against real Go, not proved from fmt's source: count such statements apart). THE CARD IS WHAT COUNTS. Prove the row's statement (the work); the ties are given (YtkplfaionpplaaaGreatDoorTie.lean); close each card by the builder's one call (the guide's Derived/Test/ToyasCard.lean, 'card_holds'). Laid BY PROGRAM, IN A SANDBOX (cutbox-door.mjs). By AI agents, Wed Nov 11 2026. No macro, syntax, notation, axiom, sorry.
-/
import Derived.Test.YtkplfaionpplaaaGreatDoorRows
import GoSem.ClaimSeven
namespace Go.Proofs.YtkplfaionpplaaaGreatDoor
namespace Rows

/-- THE TIED CARD OF 'alembiclaw19.LowerMeans'. -/
def lowerMeansCard : Claim7 := { stood := { row := lowerMeansRow, standIns := [], harness := (true, "04421d3ed5badd3d7092817fbbf7224db24f1520aed9700f279a862501af7ddc"), looks := true }, kinds := [], alts := [], laidByText := true, laidKinds := [.sentinel, .sentinel, .sentinel, .sentinel, .sentinel, .sentinel], laidTests := true, laidLooks := .later }
def LowerMeansCardSaid : Prop := Claim7.holds Tryz.pinned (.plain (OpenSpec.ofChange lowerMeansSpec)) lowerMeansCard

/-- THE TIED CARD OF 'alembiclaw19.LowerHides'. -/
def lowerHidesCard : Claim7 := { stood := { row := lowerHidesRow, standIns := [], harness := (true, "04421d3ed5badd3d7092817fbbf7224db24f1520aed9700f279a862501af7ddc"), looks := true }, kinds := [], alts := [], laidByText := true, laidKinds := [.sentinel, .sentinel, .sentinel, .sentinel, .sentinel, .sentinel], laidTests := true, laidLooks := .later }
def LowerHidesCardSaid : Prop := Claim7.holds Tryz.pinned (.plain (OpenSpec.ofChange lowerHidesSpec)) lowerHidesCard

/-- THE TIED CARD OF 'alembiclaw19.LowerPlain'. -/
def lowerPlainCard : Claim7 := { stood := { row := lowerPlainRow, standIns := [], harness := (true, "04421d3ed5badd3d7092817fbbf7224db24f1520aed9700f279a862501af7ddc"), looks := true }, kinds := [], alts := [], laidByText := true, laidKinds := [.sentinel, .sentinel, .sentinel, .sentinel, .sentinel, .sentinel], laidTests := true, laidLooks := .later }
def LowerPlainCardSaid : Prop := Claim7.holds Tryz.pinned (.plain (OpenSpec.ofChange lowerPlainSpec)) lowerPlainCard

/-- THE TIED CARD OF 'alembiclaw19.LowerSays'. -/
def lowerSaysCard : Claim7 := { stood := { row := lowerSaysRow, standIns := [], harness := (true, "04421d3ed5badd3d7092817fbbf7224db24f1520aed9700f279a862501af7ddc"), looks := true }, kinds := [], alts := [], laidByText := true, laidKinds := [.sentinel, .sentinel, .sentinel, .sentinel, .sentinel, .sentinel, .sentinel, .sentinel, .sentinel, .sentinel, .sentinel, .sentinel, .sentinel, .sentinel], laidTests := true, laidLooks := .later }
def LowerSaysCardSaid : Prop := Claim7.holds Tryz.pinned (.plain (OpenSpec.ofChange lowerSaysSpec)) lowerSaysCard

/-- THE SECOND FORM's CARD OF 'alembiclaw19.LowerMeans'. -/
def lowerMeansUptoCard : Claim7 := { stood := { row := lowerMeansUptoRow, standIns := [], harness := (true, "04421d3ed5badd3d7092817fbbf7224db24f1520aed9700f279a862501af7ddc"), looks := true }, kinds := [], alts := [], laidByText := true, laidKinds := [.sentinel, .sentinel, .sentinel, .sentinel, .sentinel, .sentinel], laidTests := true, laidLooks := .later }
def LowerMeansUptoCardSaid : Prop := Claim7.holds Tryz.pinned (.plain (OpenSpec.upto lowerMeansSpec)) lowerMeansUptoCard

/-- THE SECOND FORM's CARD OF 'alembiclaw19.LowerHides'. -/
def lowerHidesUptoCard : Claim7 := { stood := { row := lowerHidesUptoRow, standIns := [], harness := (true, "04421d3ed5badd3d7092817fbbf7224db24f1520aed9700f279a862501af7ddc"), looks := true }, kinds := [], alts := [], laidByText := true, laidKinds := [.sentinel, .sentinel, .sentinel, .sentinel, .sentinel, .sentinel], laidTests := true, laidLooks := .later }
def LowerHidesUptoCardSaid : Prop := Claim7.holds Tryz.pinned (.plain (OpenSpec.upto lowerHidesSpec)) lowerHidesUptoCard

/-- THE SECOND FORM's CARD OF 'alembiclaw19.LowerPlain'. -/
def lowerPlainUptoCard : Claim7 := { stood := { row := lowerPlainUptoRow, standIns := [], harness := (true, "04421d3ed5badd3d7092817fbbf7224db24f1520aed9700f279a862501af7ddc"), looks := true }, kinds := [], alts := [], laidByText := true, laidKinds := [.sentinel, .sentinel, .sentinel, .sentinel, .sentinel, .sentinel], laidTests := true, laidLooks := .later }
def LowerPlainUptoCardSaid : Prop := Claim7.holds Tryz.pinned (.plain (OpenSpec.upto lowerPlainSpec)) lowerPlainUptoCard

/-- THE SECOND FORM's CARD OF 'alembiclaw19.LowerSays'. -/
def lowerSaysUptoCard : Claim7 := { stood := { row := lowerSaysUptoRow, standIns := [], harness := (true, "04421d3ed5badd3d7092817fbbf7224db24f1520aed9700f279a862501af7ddc"), looks := true }, kinds := [], alts := [], laidByText := true, laidKinds := [.sentinel, .sentinel, .sentinel, .sentinel, .sentinel, .sentinel, .sentinel, .sentinel, .sentinel, .sentinel, .sentinel, .sentinel, .sentinel, .sentinel], laidTests := true, laidLooks := .later }
def LowerSaysUptoCardSaid : Prop := Claim7.holds Tryz.pinned (.plain (OpenSpec.upto lowerSaysSpec)) lowerSaysUptoCard
end Rows
end Go.Proofs.YtkplfaionpplaaaGreatDoor
