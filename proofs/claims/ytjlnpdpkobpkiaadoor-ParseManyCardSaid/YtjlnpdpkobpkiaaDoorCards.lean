/-
  DERIVED. GIVEN WITH THE SEED: THE CARDS: each row of YtjlnpdpkobpkiaaDoorRows.lean that lists a variable, with what it lists TIED to the program's text (the seventh form; the later family's looks); each row that meets fmt, with fmt's text TOLD by the authors' own Lean function (tested against real Go, not proved from fmt's source: count such statements apart). THE CARD IS WHAT COUNTS. Prove the row's statement (the work); the ties are given (YtjlnpdpkobpkiaaDoorTie.lean); close each card by the builder's one call (the guide's Derived/Test/ToyasCard.lean, 'card_holds'). Laid BY PROGRAM, IN A SANDBOX (cutbox-door.mjs). By AI agents, Wed Nov 11 2026. No macro, syntax, notation, axiom, sorry.
-/
import Derived.Test.YtjlnpdpkobpkiaaDoorRows
import GoSem.ClaimSeven
namespace Go.Proofs.YtjlnpdpkobpkiaaDoor
namespace Rows

/-- THE TIED CARD OF 'ergolaw13.SyntaxWrites'. -/
def syntaxWritesCard : Claim7 := { stood := { row := syntaxWritesRow, standIns := [], harness := (true, "9257455a6aee17f711a4c81afb4f7658fdf78ba957504386e3692b068462cc77"), looks := true }, kinds := [], alts := [], laidByText := true, laidKinds := [.data, .data, .data], laidTests := true, laidLooks := .later }
def SyntaxWritesCardSaid : Prop := Claim7.holds Tryd.pinned (.plain (OpenSpec.ofChange syntaxWritesSpec)) syntaxWritesCard

/-- THE TIED CARD OF 'ergolaw13.SyntaxVars'. -/
def syntaxVarsCard : Claim7 := { stood := { row := syntaxVarsRow, standIns := [], harness := (true, "9257455a6aee17f711a4c81afb4f7658fdf78ba957504386e3692b068462cc77"), looks := true }, kinds := [], alts := [], laidByText := true, laidKinds := [.data, .data, .data], laidTests := true, laidLooks := .later }
def SyntaxVarsCardSaid : Prop := Claim7.holds Tryd.pinned (.plain (OpenSpec.ofChange syntaxVarsSpec)) syntaxVarsCard

/-- THE TIED CARD OF 'ergolaw14.ParseErrors'. -/
def parseErrorsCard : Claim7 := { stood := { row := parseErrorsRow, standIns := [], harness := (true, "9257455a6aee17f711a4c81afb4f7658fdf78ba957504386e3692b068462cc77"), looks := true }, kinds := [], alts := [], laidByText := true, laidKinds := [.handle], laidTests := true, laidLooks := .later }
def ParseErrorsCardSaid : Prop := Claim7.holds Tryd.pinned (.plain (OpenSpec.ofChange parseErrorsSpec)) parseErrorsCard

/-- THE TIED CARD OF 'ergolaw14.ParseMany'. -/
def parseManyCard : Claim7 := { stood := { row := parseManyRow, standIns := [], harness := (true, "9257455a6aee17f711a4c81afb4f7658fdf78ba957504386e3692b068462cc77"), looks := true }, kinds := [], alts := [], laidByText := true, laidKinds := [.handle], laidTests := true, laidLooks := .later }
def ParseManyCardSaid : Prop := Claim7.holds Tryd.pinned (.plain (OpenSpec.ofChange parseManySpec)) parseManyCard

/-- THE SECOND FORM's CARD OF 'ergolaw13.SyntaxWrites'. -/
def syntaxWritesUptoCard : Claim7 := { stood := { row := syntaxWritesUptoRow, standIns := [], harness := (true, "9257455a6aee17f711a4c81afb4f7658fdf78ba957504386e3692b068462cc77"), looks := true }, kinds := [], alts := [], laidByText := true, laidKinds := [.data, .data, .data], laidTests := true, laidLooks := .later }
def SyntaxWritesUptoCardSaid : Prop := Claim7.holds Tryd.pinned (.plain (OpenSpec.upto syntaxWritesSpec)) syntaxWritesUptoCard

/-- THE SECOND FORM's CARD OF 'ergolaw13.SyntaxVars'. -/
def syntaxVarsUptoCard : Claim7 := { stood := { row := syntaxVarsUptoRow, standIns := [], harness := (true, "9257455a6aee17f711a4c81afb4f7658fdf78ba957504386e3692b068462cc77"), looks := true }, kinds := [], alts := [], laidByText := true, laidKinds := [.data, .data, .data], laidTests := true, laidLooks := .later }
def SyntaxVarsUptoCardSaid : Prop := Claim7.holds Tryd.pinned (.plain (OpenSpec.upto syntaxVarsSpec)) syntaxVarsUptoCard

/-- THE SECOND FORM's CARD OF 'ergolaw14.ParseErrors'. -/
def parseErrorsUptoCard : Claim7 := { stood := { row := parseErrorsUptoRow, standIns := [], harness := (true, "9257455a6aee17f711a4c81afb4f7658fdf78ba957504386e3692b068462cc77"), looks := true }, kinds := [], alts := [], laidByText := true, laidKinds := [.handle], laidTests := true, laidLooks := .later }
def ParseErrorsUptoCardSaid : Prop := Claim7.holds Tryd.pinned (.plain (OpenSpec.upto parseErrorsSpec)) parseErrorsUptoCard

/-- THE SECOND FORM's CARD OF 'ergolaw14.ParseMany'. -/
def parseManyUptoCard : Claim7 := { stood := { row := parseManyUptoRow, standIns := [], harness := (true, "9257455a6aee17f711a4c81afb4f7658fdf78ba957504386e3692b068462cc77"), looks := true }, kinds := [], alts := [], laidByText := true, laidKinds := [.handle], laidTests := true, laidLooks := .later }
def ParseManyUptoCardSaid : Prop := Claim7.holds Tryd.pinned (.plain (OpenSpec.upto parseManySpec)) parseManyUptoCard
end Rows
end Go.Proofs.YtjlnpdpkobpkiaaDoor
