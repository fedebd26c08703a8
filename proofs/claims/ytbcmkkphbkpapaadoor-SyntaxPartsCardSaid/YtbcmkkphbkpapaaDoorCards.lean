/-
  DERIVED. GIVEN WITH THE SEED: THE CARDS: each row of YtbcmkkphbkpapaaDoorRows.lean that lists a variable, with what it lists TIED to the program's text (the seventh form; the later family's looks); each row that meets fmt, with fmt's text TOLD by the authors' own Lean function (tested against real Go, not proved from fmt's source: count such statements apart). THE CARD IS WHAT COUNTS. Prove the row's statement (the work); the ties are given (YtbcmkkphbkpapaaDoorTie.lean); close each card by the builder's one call (the guide's Derived/Test/ToyasCard.lean, 'card_holds'). Laid BY PROGRAM, IN A SANDBOX (cutbox-door.mjs). By AI agents, Wed Nov 11 2026. No macro, syntax, notation, axiom, sorry.
-/
import Derived.Test.YtbcmkkphbkpapaaDoorRows
import GoSem.ClaimSeven
namespace Go.Proofs.YtbcmkkphbkpapaaDoor
namespace Rows

/-- THE TIED CARD OF 'ergolaw12.LexErrors'. -/
def lexErrorsCard : Claim7 := { stood := { row := lexErrorsRow, standIns := [], harness := (true, "417009f057216009cdb85fe4dc350f841f27f203e9e90ae44bf29e90bd8d3ebb"), looks := true }, kinds := [], alts := [], laidByText := true, laidKinds := [.handle], laidTests := true, laidLooks := .later }
def LexErrorsCardSaid : Prop := Claim7.holds Tryd.pinned (.plain (OpenSpec.ofChange lexErrorsSpec)) lexErrorsCard

/-- THE TIED CARD OF 'ergolaw12.LexReads'. -/
def lexReadsCard : Claim7 := { stood := { row := lexReadsRow, standIns := [], harness := (true, "417009f057216009cdb85fe4dc350f841f27f203e9e90ae44bf29e90bd8d3ebb"), looks := true }, kinds := [], alts := [], laidByText := true, laidKinds := [.handle], laidTests := true, laidLooks := .later }
def LexReadsCardSaid : Prop := Claim7.holds Tryd.pinned (.plain (OpenSpec.ofChange lexReadsSpec)) lexReadsCard

/-- THE TIED CARD OF 'ergolaw12.LexJoins'. -/
def lexJoinsCard : Claim7 := { stood := { row := lexJoinsRow, standIns := [], harness := (true, "417009f057216009cdb85fe4dc350f841f27f203e9e90ae44bf29e90bd8d3ebb"), looks := true }, kinds := [], alts := [], laidByText := true, laidKinds := [.handle], laidTests := true, laidLooks := .later }
def LexJoinsCardSaid : Prop := Claim7.holds Tryd.pinned (.plain (OpenSpec.ofChange lexJoinsSpec)) lexJoinsCard

/-- THE TIED CARD OF 'ergolaw12.LexQuotes'. -/
def lexQuotesCard : Claim7 := { stood := { row := lexQuotesRow, standIns := [], harness := (true, "417009f057216009cdb85fe4dc350f841f27f203e9e90ae44bf29e90bd8d3ebb"), looks := true }, kinds := [], alts := [], laidByText := true, laidKinds := [.handle], laidTests := true, laidLooks := .later }
def LexQuotesCardSaid : Prop := Claim7.holds Tryd.pinned (.plain (OpenSpec.ofChange lexQuotesSpec)) lexQuotesCard

/-- THE TIED CARD OF 'ergolaw13.SyntaxParts'. -/
def syntaxPartsCard : Claim7 := { stood := { row := syntaxPartsRow, standIns := [], harness := (true, "417009f057216009cdb85fe4dc350f841f27f203e9e90ae44bf29e90bd8d3ebb"), looks := true }, kinds := [], alts := [], laidByText := true, laidKinds := [.data, .data, .data], laidTests := true, laidLooks := .later }
def SyntaxPartsCardSaid : Prop := Claim7.holds Tryd.pinned (.plain (OpenSpec.ofChange syntaxPartsSpec)) syntaxPartsCard

/-- THE TIED CARD OF 'ergolaw13.SyntaxWrites'. -/
def syntaxWritesCard : Claim7 := { stood := { row := syntaxWritesRow, standIns := [], harness := (true, "417009f057216009cdb85fe4dc350f841f27f203e9e90ae44bf29e90bd8d3ebb"), looks := true }, kinds := [], alts := [], laidByText := true, laidKinds := [.data, .data, .data], laidTests := true, laidLooks := .later }
def SyntaxWritesCardSaid : Prop := Claim7.holds Tryd.pinned (.plain (OpenSpec.ofChange syntaxWritesSpec)) syntaxWritesCard

/-- THE TIED CARD OF 'ergolaw01.FaultBare'. -/
def faultBareCard : Claim7 := { stood := { row := faultBareRow, standIns := [], harness := (true, "417009f057216009cdb85fe4dc350f841f27f203e9e90ae44bf29e90bd8d3ebb"), looks := true }, kinds := [], alts := [], laidByText := true, laidKinds := [.handle], laidTests := true, laidLooks := .later }
def FaultBareCardSaid : Prop := Claim7.holds Tryd.pinned (.plain (OpenSpec.ofChange faultBareSpec)) faultBareCard

/-- THE TIED CARD OF 'ergolaw01.FaultWords'. -/
def faultWordsCard : Claim7 := { stood := { row := faultWordsRow, standIns := [], harness := (true, "417009f057216009cdb85fe4dc350f841f27f203e9e90ae44bf29e90bd8d3ebb"), looks := true }, kinds := [], alts := [], laidByText := true, laidKinds := [.data, .data, .data, .handle], laidTests := true, laidLooks := .later }
def FaultWordsCardSaid : Prop := Claim7.holds Tryd.pinned (.plain (OpenSpec.ofChange faultWordsSpec)) faultWordsCard

/-- THE SECOND FORM's CARD OF 'ergolaw12.LexErrors'. -/
def lexErrorsUptoCard : Claim7 := { stood := { row := lexErrorsUptoRow, standIns := [], harness := (true, "417009f057216009cdb85fe4dc350f841f27f203e9e90ae44bf29e90bd8d3ebb"), looks := true }, kinds := [], alts := [], laidByText := true, laidKinds := [.handle], laidTests := true, laidLooks := .later }
def LexErrorsUptoCardSaid : Prop := Claim7.holds Tryd.pinned (.plain (OpenSpec.upto lexErrorsSpec)) lexErrorsUptoCard

/-- THE SECOND FORM's CARD OF 'ergolaw12.LexReads'. -/
def lexReadsUptoCard : Claim7 := { stood := { row := lexReadsUptoRow, standIns := [], harness := (true, "417009f057216009cdb85fe4dc350f841f27f203e9e90ae44bf29e90bd8d3ebb"), looks := true }, kinds := [], alts := [], laidByText := true, laidKinds := [.handle], laidTests := true, laidLooks := .later }
def LexReadsUptoCardSaid : Prop := Claim7.holds Tryd.pinned (.plain (OpenSpec.upto lexReadsSpec)) lexReadsUptoCard

/-- THE SECOND FORM's CARD OF 'ergolaw12.LexJoins'. -/
def lexJoinsUptoCard : Claim7 := { stood := { row := lexJoinsUptoRow, standIns := [], harness := (true, "417009f057216009cdb85fe4dc350f841f27f203e9e90ae44bf29e90bd8d3ebb"), looks := true }, kinds := [], alts := [], laidByText := true, laidKinds := [.handle], laidTests := true, laidLooks := .later }
def LexJoinsUptoCardSaid : Prop := Claim7.holds Tryd.pinned (.plain (OpenSpec.upto lexJoinsSpec)) lexJoinsUptoCard

/-- THE SECOND FORM's CARD OF 'ergolaw12.LexQuotes'. -/
def lexQuotesUptoCard : Claim7 := { stood := { row := lexQuotesUptoRow, standIns := [], harness := (true, "417009f057216009cdb85fe4dc350f841f27f203e9e90ae44bf29e90bd8d3ebb"), looks := true }, kinds := [], alts := [], laidByText := true, laidKinds := [.handle], laidTests := true, laidLooks := .later }
def LexQuotesUptoCardSaid : Prop := Claim7.holds Tryd.pinned (.plain (OpenSpec.upto lexQuotesSpec)) lexQuotesUptoCard

/-- THE SECOND FORM's CARD OF 'ergolaw13.SyntaxParts'. -/
def syntaxPartsUptoCard : Claim7 := { stood := { row := syntaxPartsUptoRow, standIns := [], harness := (true, "417009f057216009cdb85fe4dc350f841f27f203e9e90ae44bf29e90bd8d3ebb"), looks := true }, kinds := [], alts := [], laidByText := true, laidKinds := [.data, .data, .data], laidTests := true, laidLooks := .later }
def SyntaxPartsUptoCardSaid : Prop := Claim7.holds Tryd.pinned (.plain (OpenSpec.upto syntaxPartsSpec)) syntaxPartsUptoCard

/-- THE SECOND FORM's CARD OF 'ergolaw13.SyntaxWrites'. -/
def syntaxWritesUptoCard : Claim7 := { stood := { row := syntaxWritesUptoRow, standIns := [], harness := (true, "417009f057216009cdb85fe4dc350f841f27f203e9e90ae44bf29e90bd8d3ebb"), looks := true }, kinds := [], alts := [], laidByText := true, laidKinds := [.data, .data, .data], laidTests := true, laidLooks := .later }
def SyntaxWritesUptoCardSaid : Prop := Claim7.holds Tryd.pinned (.plain (OpenSpec.upto syntaxWritesSpec)) syntaxWritesUptoCard

/-- THE SECOND FORM's CARD OF 'ergolaw01.FaultBare'. -/
def faultBareUptoCard : Claim7 := { stood := { row := faultBareUptoRow, standIns := [], harness := (true, "417009f057216009cdb85fe4dc350f841f27f203e9e90ae44bf29e90bd8d3ebb"), looks := true }, kinds := [], alts := [], laidByText := true, laidKinds := [.handle], laidTests := true, laidLooks := .later }
def FaultBareUptoCardSaid : Prop := Claim7.holds Tryd.pinned (.plain (OpenSpec.upto faultBareSpec)) faultBareUptoCard

/-- THE SECOND FORM's CARD OF 'ergolaw01.FaultWords'. -/
def faultWordsUptoCard : Claim7 := { stood := { row := faultWordsUptoRow, standIns := [], harness := (true, "417009f057216009cdb85fe4dc350f841f27f203e9e90ae44bf29e90bd8d3ebb"), looks := true }, kinds := [], alts := [], laidByText := true, laidKinds := [.data, .data, .data, .handle], laidTests := true, laidLooks := .later }
def FaultWordsUptoCardSaid : Prop := Claim7.holds Tryd.pinned (.plain (OpenSpec.upto faultWordsSpec)) faultWordsUptoCard
end Rows
end Go.Proofs.YtbcmkkphbkpapaaDoor
