import Derived.Test.YtdbpboipiceifaaDoorZ1As
import Derived.Test.YtdbpboipiceifaaDoorZ1Fault
import Derived.Test.YtdbpboipiceifaaDoorZ1Shelf
set_option linter.unusedVariables false
set_option linter.unusedSimpArgs false
namespace Go.Proofs.YtdbpboipiceifaaDoor
open Go.RowKit Go.Extern.Stop Go.Stop Go.Extern
abbrev bytesL (l : List UInt8) : ByteArray := ⟨l.toArray⟩
end Go.Proofs.YtdbpboipiceifaaDoor
