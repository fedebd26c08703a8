/-
  NARROWER THAN 'FOR EVERY INPUT', by the rows' own cells (each row's printed sentence says how): SafeEach: loops · SafeTurns: loops · PlanColumns: loops · PlanSymbols: loops.
  DERIVED. THE GIVEN ROWS OF THIS SEAT. 5 by the template 'for every input the law returns true; each argument reads behind the call as it read before'; 0 by the template 'total and deterministic' (their statements: YtjlnpdpkobpkiaaTotals.lean).
  GIVEN WITH THE SEED: the statements are not yours to turn. If you find one false, say at which input.
  Laid BY PROGRAM, IN A SANDBOX (cutbox-rows.mjs): the forced cells as the released guide's own fill.sh prints them over the translation 99194abd579c951d… (all of the seat's roots in one cut). By AI agents, Wed Nov 11 2026. No macro, syntax, notation, axiom, sorry.
-/
import Derived.Test.YtjlnpdpkobpkiaaChecked
import GoSem.Claim
import GoSem.ClaimJoined
import GoSem.ClaimMapViews
import Derived.JoinedTies
import Derived.KernelRfl
namespace Go.Proofs.Ytjlnpdpkobpkiaa
/- THE CELL 'sum', in the pinned program and in every row, IS THE sha256 OF THE DUMP (.gsa) THAT YtjlnpdpkobpkiaaProg.lean LOADS. Nothing in Lean hashes anything: it is a label: what it is worth is what the hold of that sum in a sandbox is worth. -/
noncomputable def Try.pinned : Pinned := { name := "ytjlnpdpkobpkiaa", sum := "99194abd579c951d1614591105a24e9b740ea00ab71804f1dd6992d074a84ea4", checked := Try.checked }
namespace Rows
def none {H : Type} : Left H := { results := [], args := [] }

/-- 'ergolaw14.ParseJoins': WHATEVER THE INPUT: true; the input reads as it did. -/
def parseJoinsSpec : ChangeSpec := { name := "parseJoins", fn := fun _ => fun
  | [d1, d2] => { results := [.lit (.bool true)], args := [d1, d2] }
  | _ => none }
def parseJoinsRow : OpenClaim := { program := "ytjlnpdpkobpkiaa", sum := "99194abd579c951d1614591105a24e9b740ea00ab71804f1dd6992d074a84ea4", func := "ergo/ergolaw14.ParseJoins", spec := "parseJoins", inPlace := ["internal/abi.NoEscape"], unfollowed := true, recurses := true, apart := false }
def ParseJoinsSaid : Prop := parseJoinsRow.holds Try.pinned (OpenSpec.ofChange parseJoinsSpec)

/-- ITS FALSE NEIGHBOUR: 'it returns false'. Refute it at one input. -/
def parseJoinsWrong : ChangeSpec := { name := "parseJoins", fn := fun _ => fun
  | [d1, d2] => { results := [.lit (.bool false)], args := [d1, d2] }
  | _ => none }
def ParseJoinsWrongFalsely : Prop := parseJoinsRow.holds Try.pinned (OpenSpec.ofChange parseJoinsWrong)

/-- 'ergolaw16.SafeEach': WHATEVER THE INPUT: true; the input reads as it did. -/
def safeEachSpec : ChangeSpec := { name := "safeEach", fn := fun _ => fun
  | [d] => { results := [.lit (.bool true)], args := [d] }
  | _ => none }
def safeEachRow : OpenClaim := { program := "ytjlnpdpkobpkiaa", sum := "99194abd579c951d1614591105a24e9b740ea00ab71804f1dd6992d074a84ea4", func := "ergo/ergolaw16.SafeEach", spec := "safeEach", inPlace := ["internal/abi.NoEscape"], unfollowed := true, recurses := true, loops := true, apart := false }
def SafeEachSaid : Prop := safeEachRow.holds Try.pinned (OpenSpec.ofChange safeEachSpec)

/-- ITS FALSE NEIGHBOUR: 'it returns false'. Refute it at one input. -/
def safeEachWrong : ChangeSpec := { name := "safeEach", fn := fun _ => fun
  | [d] => { results := [.lit (.bool false)], args := [d] }
  | _ => none }
def SafeEachWrongFalsely : Prop := safeEachRow.holds Try.pinned (OpenSpec.ofChange safeEachWrong)

/-- 'ergolaw16.SafeTurns': WHATEVER THE INPUT: true; the input reads as it did. -/
def safeTurnsSpec : ChangeSpec := { name := "safeTurns", fn := fun _ => fun
  | [d1, d2] => { results := [.lit (.bool true)], args := [d1, d2] }
  | _ => none }
def safeTurnsRow : OpenClaim := { program := "ytjlnpdpkobpkiaa", sum := "99194abd579c951d1614591105a24e9b740ea00ab71804f1dd6992d074a84ea4", func := "ergo/ergolaw16.SafeTurns", spec := "safeTurns", inPlace := ["internal/abi.NoEscape"], unfollowed := true, recurses := true, loops := true, apart := false }
def SafeTurnsSaid : Prop := safeTurnsRow.holds Try.pinned (OpenSpec.ofChange safeTurnsSpec)

/-- ITS FALSE NEIGHBOUR: 'it returns false'. Refute it at one input. -/
def safeTurnsWrong : ChangeSpec := { name := "safeTurns", fn := fun _ => fun
  | [d1, d2] => { results := [.lit (.bool false)], args := [d1, d2] }
  | _ => none }
def SafeTurnsWrongFalsely : Prop := safeTurnsRow.holds Try.pinned (OpenSpec.ofChange safeTurnsWrong)

/-- 'ergolaw21.PlanColumns': WHATEVER THE INPUT: true; the input reads as it did. -/
def planColumnsSpec : ChangeSpec := { name := "planColumns", fn := fun _ => fun
  | [d] => { results := [.lit (.bool true)], args := [d] }
  | _ => none }
def planColumnsRow : OpenClaim := { program := "ytjlnpdpkobpkiaa", sum := "99194abd579c951d1614591105a24e9b740ea00ab71804f1dd6992d074a84ea4", func := "ergo/ergolaw21.PlanColumns", spec := "planColumns", inPlace := ["internal/abi.NoEscape"], unfollowed := true, recurses := true, loops := true, apart := false }
def PlanColumnsSaid : Prop := planColumnsRow.holds Try.pinned (OpenSpec.ofChange planColumnsSpec)

/-- ITS FALSE NEIGHBOUR: 'it returns false'. Refute it at one input. -/
def planColumnsWrong : ChangeSpec := { name := "planColumns", fn := fun _ => fun
  | [d] => { results := [.lit (.bool false)], args := [d] }
  | _ => none }
def PlanColumnsWrongFalsely : Prop := planColumnsRow.holds Try.pinned (OpenSpec.ofChange planColumnsWrong)

/-- 'ergolaw21.PlanSymbols': WHATEVER THE INPUT: true; the input reads as it did. -/
def planSymbolsSpec : ChangeSpec := { name := "planSymbols", fn := fun _ => fun
  | [d1, d2] => { results := [.lit (.bool true)], args := [d1, d2] }
  | _ => none }
def planSymbolsRow : OpenClaim := { program := "ytjlnpdpkobpkiaa", sum := "99194abd579c951d1614591105a24e9b740ea00ab71804f1dd6992d074a84ea4", func := "ergo/ergolaw21.PlanSymbols", spec := "planSymbols", inPlace := ["internal/abi.NoEscape"], unfollowed := true, recurses := true, loops := true, apart := false }
def PlanSymbolsSaid : Prop := planSymbolsRow.holds Try.pinned (OpenSpec.ofChange planSymbolsSpec)

/-- ITS FALSE NEIGHBOUR: 'it returns false'. Refute it at one input. -/
def planSymbolsWrong : ChangeSpec := { name := "planSymbols", fn := fun _ => fun
  | [d1, d2] => { results := [.lit (.bool false)], args := [d1, d2] }
  | _ => none }
def PlanSymbolsWrongFalsely : Prop := planSymbolsRow.holds Try.pinned (OpenSpec.ofChange planSymbolsWrong)

/- THE SECOND FORM. 'bulk': how many values and letters a reading holds, each counted each time it is reached (what is shared counts as often as it is met; a slice's spare places count too). A statement '..UptoSaid' is the law's where the arguments, and the package variables that the reading takes, are together of bulk at most 1048576: NARROWER than '..Said'. Prove '..Said' where nothing that the law and all that it calls make is longer than what came in: it says more and counts as full. Else prove '..UptoSaid'. A law counts once. -/
mutual
def uptoBulk {H : Type} : DataW H → Nat
  | .lit (.string bytes) => bytes.length + 1
  | .lit _ => 1
  | .nil => 1
  | .ptr d => uptoBulk d + 1
  | .slice elems spare => uptoBulkAll elems + uptoBulkAll spare + 1
  | .agg parts => uptoBulkAll parts + 1
  | .iface _ d => uptoBulk d + 1
  | .map entries => uptoBulkEntries entries + 1
  | .held _ => 1
def uptoBulkAll {H : Type} : List (DataW H) → Nat
  | [] => 0
  | d :: r => uptoBulk d + uptoBulkAll r
def uptoBulkEntries {H : Type} : List (Lit × DataW H) → Nat
  | [] => 0
  | x :: r => uptoBulkEntry x + uptoBulkEntries r
def uptoBulkEntry {H : Type} : Lit × DataW H → Nat
  | (.string bytes, d) => bytes.length + uptoBulk d + 1
  | (_, d) => uptoBulk d + 1
 end
def uptoSmall : (H : Type) → List (DataW H) → Bool := fun _ ds => decide (uptoBulkAll ds ≤ 1048576)
def OpenSpec.upto (s : _root_.Go.ChangeSpec) : _root_.Go.OpenSpec := { _root_.Go.OpenSpec.ofChange s with cond := some uptoSmall }

/-- 'ergolaw14.ParseJoins', WHERE WHAT IT READS IS OF BULK AT MOST 1048576: true; the input reads as it did. -/
def parseJoinsUptoRow : OpenClaim := { program := "ytjlnpdpkobpkiaa", sum := "99194abd579c951d1614591105a24e9b740ea00ab71804f1dd6992d074a84ea4", func := "ergo/ergolaw14.ParseJoins", spec := "parseJoins", inPlace := ["internal/abi.NoEscape"], unfollowed := true, recurses := true, apart := false, narrowed := true }
def ParseJoinsUptoSaid : Prop := parseJoinsUptoRow.holds Try.pinned (OpenSpec.upto parseJoinsSpec)

/-- 'ergolaw16.SafeEach', WHERE WHAT IT READS IS OF BULK AT MOST 1048576: true; the input reads as it did. -/
def safeEachUptoRow : OpenClaim := { program := "ytjlnpdpkobpkiaa", sum := "99194abd579c951d1614591105a24e9b740ea00ab71804f1dd6992d074a84ea4", func := "ergo/ergolaw16.SafeEach", spec := "safeEach", inPlace := ["internal/abi.NoEscape"], unfollowed := true, recurses := true, loops := true, apart := false, narrowed := true }
def SafeEachUptoSaid : Prop := safeEachUptoRow.holds Try.pinned (OpenSpec.upto safeEachSpec)

/-- 'ergolaw16.SafeTurns', WHERE WHAT IT READS IS OF BULK AT MOST 1048576: true; the input reads as it did. -/
def safeTurnsUptoRow : OpenClaim := { program := "ytjlnpdpkobpkiaa", sum := "99194abd579c951d1614591105a24e9b740ea00ab71804f1dd6992d074a84ea4", func := "ergo/ergolaw16.SafeTurns", spec := "safeTurns", inPlace := ["internal/abi.NoEscape"], unfollowed := true, recurses := true, loops := true, apart := false, narrowed := true }
def SafeTurnsUptoSaid : Prop := safeTurnsUptoRow.holds Try.pinned (OpenSpec.upto safeTurnsSpec)

/-- 'ergolaw21.PlanColumns', WHERE WHAT IT READS IS OF BULK AT MOST 1048576: true; the input reads as it did. -/
def planColumnsUptoRow : OpenClaim := { program := "ytjlnpdpkobpkiaa", sum := "99194abd579c951d1614591105a24e9b740ea00ab71804f1dd6992d074a84ea4", func := "ergo/ergolaw21.PlanColumns", spec := "planColumns", inPlace := ["internal/abi.NoEscape"], unfollowed := true, recurses := true, loops := true, apart := false, narrowed := true }
def PlanColumnsUptoSaid : Prop := planColumnsUptoRow.holds Try.pinned (OpenSpec.upto planColumnsSpec)

/-- 'ergolaw21.PlanSymbols', WHERE WHAT IT READS IS OF BULK AT MOST 1048576: true; the input reads as it did. -/
def planSymbolsUptoRow : OpenClaim := { program := "ytjlnpdpkobpkiaa", sum := "99194abd579c951d1614591105a24e9b740ea00ab71804f1dd6992d074a84ea4", func := "ergo/ergolaw21.PlanSymbols", spec := "planSymbols", inPlace := ["internal/abi.NoEscape"], unfollowed := true, recurses := true, loops := true, apart := false, narrowed := true }
def PlanSymbolsUptoSaid : Prop := planSymbolsUptoRow.holds Try.pinned (OpenSpec.upto planSymbolsSpec)

end Rows
end Go.Proofs.Ytjlnpdpkobpkiaa
