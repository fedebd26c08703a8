import Derived.Test.YtdbpboipiceifaaDoorZ1Pl13e
import Derived.Test.YtdbpboipiceifaaDoorZ1PSPx13
import Derived.Test.YtdbpboipiceifaaDoorZ1PSPx0
import Derived.Test.YtdbpboipiceifaaDoorZ1PSPx8
set_option linter.unusedVariables false
set_option linter.unusedSimpArgs false
namespace Go.Proofs.YtdbpboipiceifaaDoorPSP
open Go.RowKit Go.Extern.Stop Go.Stop Go.Extern Go.Proofs.YtdbpboipiceifaaDoorW.PrintWords Go.Proofs.YtdbpboipiceifaaDoor
theorem rd69_0 (a : S57) (l : List S57) : rd_T57 (a :: l) 0 = a := rfl
theorem rd69_1 (a b : S57) (l : List S57) : rd_T57 (a :: b :: l) 1 = b := rfl
end Go.Proofs.YtdbpboipiceifaaDoorPSP
