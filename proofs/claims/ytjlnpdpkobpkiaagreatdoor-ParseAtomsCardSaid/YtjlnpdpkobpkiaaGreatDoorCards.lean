/-
  DERIVED. GIVEN WITH THE SEED: THE CARDS: each row of YtjlnpdpkobpkiaaGreatDoorRows.lean that lists a variable, with what it lists TIED to the program's text (the seventh form; the later family's looks); each row that meets fmt, with fmt's text TOLD by the authors' own Lean function (tested against real Go, not proved from fmt's source: count such statements apart). THE CARD IS WHAT COUNTS. Prove the row's statement (the work); the ties are given (YtjlnpdpkobpkiaaGreatDoorTie.lean); close each card by the builder's one call (the guide's Derived/Test/ToyasCard.lean, 'card_holds'). Laid BY PROGRAM, IN A SANDBOX (cutbox-door.mjs). By AI agents, Wed Nov 11 2026. No macro, syntax, notation, axiom, sorry.
-/
import Derived.Test.YtjlnpdpkobpkiaaGreatDoorRows
import GoSem.ClaimSeven
namespace Go.Proofs.YtjlnpdpkobpkiaaGreatDoor
namespace Rows

/-- THE TIED CARD OF 'ergolaw16.SafeOrders'. -/
def safeOrdersCard : Claim7 := { stood := { row := safeOrdersRow, standIns := [], harness := (true, "0fed13266e6dc0697ab1322ff528e0a7262387ad492780328dec8e90daa64cc9"), looks := true }, kinds := [], alts := [], laidByText := true, laidKinds := [.handle], laidTests := true, laidLooks := .later }
def SafeOrdersCardSaid : Prop := Claim7.holds Tryz.pinned (.plain (OpenSpec.ofChange safeOrdersSpec)) safeOrdersCard

/-- THE TIED CARD OF 'ergolaw14.ParseBlanks'. -/
def parseBlanksCard : Claim7 := { stood := { row := parseBlanksRow, standIns := [], harness := (true, "0fed13266e6dc0697ab1322ff528e0a7262387ad492780328dec8e90daa64cc9"), looks := true }, kinds := [], alts := [], laidByText := true, laidKinds := [.data, .data, .data, .handle], laidTests := true, laidLooks := .later }
def ParseBlanksCardSaid : Prop := Claim7.holds Tryz.pinned (.plain (OpenSpec.ofChange parseBlanksSpec)) parseBlanksCard

/-- THE TIED CARD OF 'ergolaw14.ParseAtoms'. -/
def parseAtomsCard : Claim7 := { stood := { row := parseAtomsRow, standIns := [], harness := (true, "0fed13266e6dc0697ab1322ff528e0a7262387ad492780328dec8e90daa64cc9"), looks := true }, kinds := [], alts := [], laidByText := true, laidKinds := [.data, .data, .data, .handle], laidTests := true, laidLooks := .later }
def ParseAtomsCardSaid : Prop := Claim7.holds Tryz.pinned (.plain (OpenSpec.ofChange parseAtomsSpec)) parseAtomsCard

/-- THE TIED CARD OF 'ergolaw16.SafePrograms'. -/
def safeProgramsCard : Claim7 := { stood := { row := safeProgramsRow, standIns := [], harness := (true, "0fed13266e6dc0697ab1322ff528e0a7262387ad492780328dec8e90daa64cc9"), looks := true }, kinds := [], alts := [], laidByText := true, laidKinds := [.data, .data, .data, .handle], laidTests := true, laidLooks := .later }
def SafeProgramsCardSaid : Prop := Claim7.holds Tryz.pinned (.plain (OpenSpec.ofChange safeProgramsSpec)) safeProgramsCard

/-- THE SECOND FORM's CARD OF 'ergolaw16.SafeOrders'. -/
def safeOrdersUptoCard : Claim7 := { stood := { row := safeOrdersUptoRow, standIns := [], harness := (true, "0fed13266e6dc0697ab1322ff528e0a7262387ad492780328dec8e90daa64cc9"), looks := true }, kinds := [], alts := [], laidByText := true, laidKinds := [.handle], laidTests := true, laidLooks := .later }
def SafeOrdersUptoCardSaid : Prop := Claim7.holds Tryz.pinned (.plain (OpenSpec.upto safeOrdersSpec)) safeOrdersUptoCard

/-- THE SECOND FORM's CARD OF 'ergolaw14.ParseBlanks'. -/
def parseBlanksUptoCard : Claim7 := { stood := { row := parseBlanksUptoRow, standIns := [], harness := (true, "0fed13266e6dc0697ab1322ff528e0a7262387ad492780328dec8e90daa64cc9"), looks := true }, kinds := [], alts := [], laidByText := true, laidKinds := [.data, .data, .data, .handle], laidTests := true, laidLooks := .later }
def ParseBlanksUptoCardSaid : Prop := Claim7.holds Tryz.pinned (.plain (OpenSpec.upto parseBlanksSpec)) parseBlanksUptoCard

/-- THE SECOND FORM's CARD OF 'ergolaw14.ParseAtoms'. -/
def parseAtomsUptoCard : Claim7 := { stood := { row := parseAtomsUptoRow, standIns := [], harness := (true, "0fed13266e6dc0697ab1322ff528e0a7262387ad492780328dec8e90daa64cc9"), looks := true }, kinds := [], alts := [], laidByText := true, laidKinds := [.data, .data, .data, .handle], laidTests := true, laidLooks := .later }
def ParseAtomsUptoCardSaid : Prop := Claim7.holds Tryz.pinned (.plain (OpenSpec.upto parseAtomsSpec)) parseAtomsUptoCard

/-- THE SECOND FORM's CARD OF 'ergolaw16.SafePrograms'. -/
def safeProgramsUptoCard : Claim7 := { stood := { row := safeProgramsUptoRow, standIns := [], harness := (true, "0fed13266e6dc0697ab1322ff528e0a7262387ad492780328dec8e90daa64cc9"), looks := true }, kinds := [], alts := [], laidByText := true, laidKinds := [.data, .data, .data, .handle], laidTests := true, laidLooks := .later }
def SafeProgramsUptoCardSaid : Prop := Claim7.holds Tryz.pinned (.plain (OpenSpec.upto safeProgramsSpec)) safeProgramsUptoCard
end Rows
end Go.Proofs.YtjlnpdpkobpkiaaGreatDoor
