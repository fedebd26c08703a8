import Derived.Test.YtbcmkkphbkpapaaDoorZ1As
import Derived.Test.YtbcmkkphbkpapaaDoorZ1Fault
import Derived.Test.YtbcmkkphbkpapaaDoorZ1Shelf
set_option linter.unusedVariables false
set_option linter.unusedSimpArgs false
namespace Go.Proofs.YtbcmkkphbkpapaaDoor
open Go.RowKit Go.Extern.Stop Go.Stop Go.Extern
abbrev bytesL (l : List UInt8) : ByteArray := ⟨l.toArray⟩
end Go.Proofs.YtbcmkkphbkpapaaDoor
