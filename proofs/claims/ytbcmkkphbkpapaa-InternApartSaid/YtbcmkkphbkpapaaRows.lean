/-
  No cell of these rows narrows 'for every input' (looked for: loops, veiled, ifaces, maps, wideKeys, modest, calm, conditions, laid).
  DERIVED. THE GIVEN ROWS OF THIS SEAT. 4 by the template 'for every input the law returns true; each argument reads behind the call as it read before'; 0 by the template 'total and deterministic' (their statements: YtbcmkkphbkpapaaTotals.lean).
  GIVEN WITH THE SEED: the statements are not yours to turn. If you find one false, say at which input.
  Laid BY PROGRAM, IN A SANDBOX (cutbox-rows.mjs): the forced cells as the released guide's own fill.sh prints them over the translation 308509b8e745cc2a… (all of the seat's roots in one cut). By AI agents, Wed Nov 11 2026. No macro, syntax, notation, axiom, sorry.
-/
import Derived.Test.YtbcmkkphbkpapaaChecked
import GoSem.Claim
import GoSem.ClaimJoined
import GoSem.ClaimMapViews
import Derived.JoinedTies
import Derived.KernelRfl
namespace Go.Proofs.Ytbcmkkphbkpapaa
/- THE CELL 'sum', in the pinned program and in every row, IS THE sha256 OF THE DUMP (.gsa) THAT YtbcmkkphbkpapaaProg.lean LOADS. Nothing in Lean hashes anything: it is a label: what it is worth is what the hold of that sum in a sandbox is worth. -/
noncomputable def Try.pinned : Pinned := { name := "ytbcmkkphbkpapaa", sum := "308509b8e745cc2a7192697e59980ad1d796544a4135c396c10541ef5ef2ec9d", checked := Try.checked }
namespace Rows
def none {H : Type} : Left H := { results := [], args := [] }

/-- 'ergolaw04.InternOrders': WHATEVER THE INPUT: true; the input reads as it did. -/
def internOrdersSpec : ChangeSpec := { name := "internOrders", fn := fun _ => fun
  | [d1, d2, d3] => { results := [.lit (.bool true)], args := [d1, d2, d3] }
  | _ => none }
def internOrdersRow : OpenClaim := { program := "ytbcmkkphbkpapaa", sum := "308509b8e745cc2a7192697e59980ad1d796544a4135c396c10541ef5ef2ec9d", func := "ergo/ergolaw04.InternOrders", spec := "internOrders", inPlace := ["internal/bytealg.abigen_runtime_cmpstring"], apart := false }
def InternOrdersSaid : Prop := internOrdersRow.holds Try.pinned (OpenSpec.ofChange internOrdersSpec)

/-- ITS FALSE NEIGHBOUR: 'it returns false'. Refute it at one input. -/
def internOrdersWrong : ChangeSpec := { name := "internOrders", fn := fun _ => fun
  | [d1, d2, d3] => { results := [.lit (.bool false)], args := [d1, d2, d3] }
  | _ => none }
def InternOrdersWrongFalsely : Prop := internOrdersRow.holds Try.pinned (OpenSpec.ofChange internOrdersWrong)

/-- 'ergolaw04.InternIDs': WHATEVER THE INPUT: true; the input reads as it did. -/
def internIDsSpec : ChangeSpec := { name := "internIDs", fn := fun _ => fun
  | [d1, d2, d3] => { results := [.lit (.bool true)], args := [d1, d2, d3] }
  | _ => none }
def internIDsRow : OpenClaim := { program := "ytbcmkkphbkpapaa", sum := "308509b8e745cc2a7192697e59980ad1d796544a4135c396c10541ef5ef2ec9d", func := "ergo/ergolaw04.InternIDs", spec := "internIDs", inPlace := ["internal/bytealg.abigen_runtime_cmpstring"], apart := false }
def InternIDsSaid : Prop := internIDsRow.holds Try.pinned (OpenSpec.ofChange internIDsSpec)

/-- ITS FALSE NEIGHBOUR: 'it returns false'. Refute it at one input. -/
def internIDsWrong : ChangeSpec := { name := "internIDs", fn := fun _ => fun
  | [d1, d2, d3] => { results := [.lit (.bool false)], args := [d1, d2, d3] }
  | _ => none }
def InternIDsWrongFalsely : Prop := internIDsRow.holds Try.pinned (OpenSpec.ofChange internIDsWrong)

/-- 'ergolaw04.InternMany': WHATEVER THE INPUT: true; the input reads as it did. -/
def internManySpec : ChangeSpec := { name := "internMany", fn := fun _ => fun
  | [d1, d2] => { results := [.lit (.bool true)], args := [d1, d2] }
  | _ => none }
def internManyRow : OpenClaim := { program := "ytbcmkkphbkpapaa", sum := "308509b8e745cc2a7192697e59980ad1d796544a4135c396c10541ef5ef2ec9d", func := "ergo/ergolaw04.InternMany", spec := "internMany", inPlace := ["internal/bytealg.abigen_runtime_cmpstring"], apart := false }
def InternManySaid : Prop := internManyRow.holds Try.pinned (OpenSpec.ofChange internManySpec)

/-- ITS FALSE NEIGHBOUR: 'it returns false'. Refute it at one input. -/
def internManyWrong : ChangeSpec := { name := "internMany", fn := fun _ => fun
  | [d1, d2] => { results := [.lit (.bool false)], args := [d1, d2] }
  | _ => none }
def InternManyWrongFalsely : Prop := internManyRow.holds Try.pinned (OpenSpec.ofChange internManyWrong)

/-- 'ergolaw04.InternApart': WHATEVER THE INPUT: true; the input reads as it did. -/
def internApartSpec : ChangeSpec := { name := "internApart", fn := fun _ => fun
  | [d1, d2, d3] => { results := [.lit (.bool true)], args := [d1, d2, d3] }
  | _ => none }
def internApartRow : OpenClaim := { program := "ytbcmkkphbkpapaa", sum := "308509b8e745cc2a7192697e59980ad1d796544a4135c396c10541ef5ef2ec9d", func := "ergo/ergolaw04.InternApart", spec := "internApart", inPlace := ["internal/bytealg.abigen_runtime_cmpstring", "maps.clone"], apart := false }
def InternApartSaid : Prop := internApartRow.holds Try.pinned (OpenSpec.ofChange internApartSpec)

/-- ITS FALSE NEIGHBOUR: 'it returns false'. Refute it at one input. -/
def internApartWrong : ChangeSpec := { name := "internApart", fn := fun _ => fun
  | [d1, d2, d3] => { results := [.lit (.bool false)], args := [d1, d2, d3] }
  | _ => none }
def InternApartWrongFalsely : Prop := internApartRow.holds Try.pinned (OpenSpec.ofChange internApartWrong)

/- THE SECOND FORM. 'bulk': how many values and letters a reading holds, each counted each time it is reached (what is shared counts as often as it is met; a slice's spare places count too). A statement '..UptoSaid' is the law's where the arguments, and the package variables that the reading takes, are together of bulk at most 1048576: NARROWER than '..Said'. Prove '..Said' where nothing that the law and all that it calls make is longer than what came in: it says more and counts as full. Else prove '..UptoSaid'. A law counts once. -/
mutual
def uptoBulk {H : Type} : DataW H → Nat
  | .lit (.string bytes) => bytes.length + 1
  | .lit _ => 1
  | .nil => 1
  | .ptr d => uptoBulk d + 1
  | .slice elems spare => uptoBulkAll elems + uptoBulkAll spare + 1
  | .agg parts => uptoBulkAll parts + 1
  | .iface _ d => uptoBulk d + 1
  | .map entries => uptoBulkEntries entries + 1
  | .held _ => 1
def uptoBulkAll {H : Type} : List (DataW H) → Nat
  | [] => 0
  | d :: r => uptoBulk d + uptoBulkAll r
def uptoBulkEntries {H : Type} : List (Lit × DataW H) → Nat
  | [] => 0
  | x :: r => uptoBulkEntry x + uptoBulkEntries r
def uptoBulkEntry {H : Type} : Lit × DataW H → Nat
  | (.string bytes, d) => bytes.length + uptoBulk d + 1
  | (_, d) => uptoBulk d + 1
 end
def uptoSmall : (H : Type) → List (DataW H) → Bool := fun _ ds => decide (uptoBulkAll ds ≤ 1048576)
def OpenSpec.upto (s : _root_.Go.ChangeSpec) : _root_.Go.OpenSpec := { _root_.Go.OpenSpec.ofChange s with cond := some uptoSmall }

/-- 'ergolaw04.InternOrders', WHERE WHAT IT READS IS OF BULK AT MOST 1048576: true; the input reads as it did. -/
def internOrdersUptoRow : OpenClaim := { program := "ytbcmkkphbkpapaa", sum := "308509b8e745cc2a7192697e59980ad1d796544a4135c396c10541ef5ef2ec9d", func := "ergo/ergolaw04.InternOrders", spec := "internOrders", inPlace := ["internal/bytealg.abigen_runtime_cmpstring"], apart := false, narrowed := true }
def InternOrdersUptoSaid : Prop := internOrdersUptoRow.holds Try.pinned (OpenSpec.upto internOrdersSpec)

/-- 'ergolaw04.InternIDs', WHERE WHAT IT READS IS OF BULK AT MOST 1048576: true; the input reads as it did. -/
def internIDsUptoRow : OpenClaim := { program := "ytbcmkkphbkpapaa", sum := "308509b8e745cc2a7192697e59980ad1d796544a4135c396c10541ef5ef2ec9d", func := "ergo/ergolaw04.InternIDs", spec := "internIDs", inPlace := ["internal/bytealg.abigen_runtime_cmpstring"], apart := false, narrowed := true }
def InternIDsUptoSaid : Prop := internIDsUptoRow.holds Try.pinned (OpenSpec.upto internIDsSpec)

/-- 'ergolaw04.InternMany', WHERE WHAT IT READS IS OF BULK AT MOST 1048576: true; the input reads as it did. -/
def internManyUptoRow : OpenClaim := { program := "ytbcmkkphbkpapaa", sum := "308509b8e745cc2a7192697e59980ad1d796544a4135c396c10541ef5ef2ec9d", func := "ergo/ergolaw04.InternMany", spec := "internMany", inPlace := ["internal/bytealg.abigen_runtime_cmpstring"], apart := false, narrowed := true }
def InternManyUptoSaid : Prop := internManyUptoRow.holds Try.pinned (OpenSpec.upto internManySpec)

/-- 'ergolaw04.InternApart', WHERE WHAT IT READS IS OF BULK AT MOST 1048576: true; the input reads as it did. -/
def internApartUptoRow : OpenClaim := { program := "ytbcmkkphbkpapaa", sum := "308509b8e745cc2a7192697e59980ad1d796544a4135c396c10541ef5ef2ec9d", func := "ergo/ergolaw04.InternApart", spec := "internApart", inPlace := ["internal/bytealg.abigen_runtime_cmpstring", "maps.clone"], apart := false, narrowed := true }
def InternApartUptoSaid : Prop := internApartUptoRow.holds Try.pinned (OpenSpec.upto internApartSpec)

end Rows
end Go.Proofs.Ytbcmkkphbkpapaa
