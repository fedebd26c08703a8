import Derived.Test.YtdbpboipiceifaaDoorZ1Lib
import Derived.Test.YtdbpboipiceifaaDoorRows
import Derived.LaidEql
import Derived.Stop.Asserts
import Derived.RowKitTokens
set_option linter.unusedVariables false
set_option linter.unusedSimpArgs false
namespace Go.Proofs.YtdbpboipiceifaaDoor
open Go.RowKit Go.Extern.Stop Go.Stop Go.Extern
abbrev hnd (t : Nat) : Value := .pointer (some ⟨5, t, none⟩)
def ErrT (w : World) : Prop := w.cell? ⟨0, 0, none⟩ = some (.iface 185 (.agg #[hnd 68]))
theorem ErrT.lt {w : World} (h : ErrT w) : 0 < w.heap.size := World.block_lt_of_cell? w _ h
end Go.Proofs.YtdbpboipiceifaaDoor
