import Derived.Test.YtbcmkkphbkpapaaDoorZ1LexP
set_option linter.unusedVariables false
set_option linter.unusedSimpArgs false
namespace Go.Proofs.YtbcmkkphbkpapaaDoor
open Go.RowKit
def TksAt (w : World) (g sz : Nat) (ts : List Tk) : Prop := ∀ i t, ts[i]? = some t → w.cell? ⟨g, i * 4, none⟩ = some (.int .i64 (t.kind : Int)) ∧ w.cell? ⟨g, i * 4 + 1, none⟩ = some (.string (bytesOf t.text)) ∧ w.cell? ⟨g, i * 4 + 2, none⟩ = some (.int .u64 (t.num : Int)) ∧ w.cell? ⟨g, i * 4 + 3, none⟩ = some (.int .i64 ((sz - t.start : Nat) : Int))
end Go.Proofs.YtbcmkkphbkpapaaDoor
