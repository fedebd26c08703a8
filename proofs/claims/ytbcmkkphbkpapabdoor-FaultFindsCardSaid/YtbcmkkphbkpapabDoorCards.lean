/-
  DERIVED. GIVEN WITH THE SEED: THE CARDS: each row of YtbcmkkphbkpapabDoorRows.lean that lists a variable, with what it lists TIED to the program's text (the seventh form; the later family's looks); each row that meets fmt, with fmt's text TOLD by the authors' own Lean function (tested against real Go, not proved from fmt's source: count such statements apart). THE CARD IS WHAT COUNTS. Prove the row's statement (the work); the ties are given (YtbcmkkphbkpapabDoorTie.lean); close each card by the builder's one call (the guide's Derived/Test/ToyasCard.lean, 'card_holds'). Laid BY PROGRAM, IN A SANDBOX (cutbox-door.mjs). By AI agents, Wed Nov 11 2026. No macro, syntax, notation, axiom, sorry.
-/
import Derived.Test.YtbcmkkphbkpapabDoorRows
import GoSem.ClaimSeven
namespace Go.Proofs.YtbcmkkphbkpapabDoor
namespace Rows

/-- THE TIED CARD OF 'ergolaw01.FaultChains'. -/
def faultChainsCard : Claim7 := { stood := { row := faultChainsRow, standIns := [], harness := (true, "4b6f2abfcd44ab6469f9c6e397f9f197de94b39a5acdee87e0b29bbcb2e2c9bb"), looks := true }, kinds := [], alts := [], laidByText := true, laidKinds := [.handle], laidTests := true, laidLooks := .later }
def FaultChainsCardSaid : Prop := Claim7.holds Tryd.pinned (.plain (OpenSpec.ofChange faultChainsSpec)) faultChainsCard

/-- THE TIED CARD OF 'ergolaw01.FaultFinds'. -/
def faultFindsCard : Claim7 := { stood := { row := faultFindsRow, standIns := [], harness := (true, "4b6f2abfcd44ab6469f9c6e397f9f197de94b39a5acdee87e0b29bbcb2e2c9bb"), looks := true }, kinds := [], alts := [], laidByText := true, laidKinds := [.handle], laidTests := true, laidLooks := .later }
def FaultFindsCardSaid : Prop := Claim7.holds Tryd.pinned (.plain (OpenSpec.ofChange faultFindsSpec)) faultFindsCard

/-- THE TIED CARD OF 'ergolaw13.SyntaxVars'. -/
def syntaxVarsCard : Claim7 := { stood := { row := syntaxVarsRow, standIns := [], harness := (true, "4b6f2abfcd44ab6469f9c6e397f9f197de94b39a5acdee87e0b29bbcb2e2c9bb"), looks := true }, kinds := [], alts := [], laidByText := true, laidKinds := [.data, .data, .data], laidTests := true, laidLooks := .later }
def SyntaxVarsCardSaid : Prop := Claim7.holds Tryd.pinned (.plain (OpenSpec.ofChange syntaxVarsSpec)) syntaxVarsCard

/-- THE SECOND FORM's CARD OF 'ergolaw01.FaultChains'. -/
def faultChainsUptoCard : Claim7 := { stood := { row := faultChainsUptoRow, standIns := [], harness := (true, "4b6f2abfcd44ab6469f9c6e397f9f197de94b39a5acdee87e0b29bbcb2e2c9bb"), looks := true }, kinds := [], alts := [], laidByText := true, laidKinds := [.handle], laidTests := true, laidLooks := .later }
def FaultChainsUptoCardSaid : Prop := Claim7.holds Tryd.pinned (.plain (OpenSpec.upto faultChainsSpec)) faultChainsUptoCard

/-- THE SECOND FORM's CARD OF 'ergolaw01.FaultFinds'. -/
def faultFindsUptoCard : Claim7 := { stood := { row := faultFindsUptoRow, standIns := [], harness := (true, "4b6f2abfcd44ab6469f9c6e397f9f197de94b39a5acdee87e0b29bbcb2e2c9bb"), looks := true }, kinds := [], alts := [], laidByText := true, laidKinds := [.handle], laidTests := true, laidLooks := .later }
def FaultFindsUptoCardSaid : Prop := Claim7.holds Tryd.pinned (.plain (OpenSpec.upto faultFindsSpec)) faultFindsUptoCard

/-- THE SECOND FORM's CARD OF 'ergolaw13.SyntaxVars'. -/
def syntaxVarsUptoCard : Claim7 := { stood := { row := syntaxVarsUptoRow, standIns := [], harness := (true, "4b6f2abfcd44ab6469f9c6e397f9f197de94b39a5acdee87e0b29bbcb2e2c9bb"), looks := true }, kinds := [], alts := [], laidByText := true, laidKinds := [.data, .data, .data], laidTests := true, laidLooks := .later }
def SyntaxVarsUptoCardSaid : Prop := Claim7.holds Tryd.pinned (.plain (OpenSpec.upto syntaxVarsSpec)) syntaxVarsUptoCard
end Rows
end Go.Proofs.YtbcmkkphbkpapabDoor
