import Derived.Test.YtdbpboipiceifaaDoorRows
import Derived.Test.YtdbpboipiceifaaDoorTie
import Derived.Test.YtdbpboipiceifaaDoorCards
import Derived.Test.YtdbpboipiceifaaDoorZ1Fault
import Derived.Lib.LaidTab
import Derived.Lib.ItoaNum
import Derived.ChangeSame
import Derived.ChangeVars
import Derived.JoinedOf
import Derived.RowKit
import Derived.RowKitTokens
import Derived.LaidLaws
import Derived.LaidHandle
import Derived.Stop.Joined
import Derived.Stop.LaidErr
import Derived.SevenTiedAt
set_option linter.unusedVariables false
namespace Go.Proofs.YtdbpboipiceifaaDoor
open Go.ChangeShapes Go.WideShapes Go.RowKit
namespace tied
theorem own : ownKnob Tryd.prog.godebug = none := by kernel_rfl
theorem laidOut : laidOutB Tryd.prog = true := by kernel_rfl
end tied
def TabT (w : World) : Prop := Lib.TabIs Tryd.prog w "internal/strconv.uint64pow10" .u64 Lib.pow10Tab
def laidTabs : List (String × DataW Unit) := [("math/bits.deBruijn32tab", Rows.laid_math_bits_deBruijn32tab), ("math/bits.deBruijn64tab", Rows.laid_math_bits_deBruijn64tab), ("internal/strconv.uint64pow10", Rows.laid_internal_strconv_uint64pow10)]
theorem tabT_of {W : World} (h : laidMet Tryd.prog laidTabs W) : TabT W :=
  Lib.tabIs_of_head (g := 1) (n := 20) (e := 108) (t := 220) (by kernel_rfl) (by kernel_rfl) (by kernel_rfl) (by kernel_rfl) (by kernel_rfl) (by kernel_rfl) (laidMet.tail (laidMet.tail h))
def tabCells : DataW Unit → Array Value
  | .agg l => (l.map fun | .lit (.int k z) => Value.int k z | _ => undef).toArray
  | _ => #[]
noncomputable def laidWorldT (os : Os) : World :=
  let w0 := World.holding Tryd.prog os ⟨#[], #[], []⟩
  let put (g : Nat) (cs : Array Value) (h : Array Obj) : Array Obj := h.modify g fun
      | .cells _ t frozen => .cells cs t frozen
      | o => o
  { w0 with heap := put 3 (tabCells Rows.laid_math_bits_deBruijn32tab) (put 4 (tabCells Rows.laid_math_bits_deBruijn64tab) (put 1 (tabCells Rows.laid_internal_strconv_uint64pow10) (put 0 #[.iface 185 (.agg #[hnd 68])] w0.heap))) }
theorem laidT_met (os : Os) (args : Array Value) : laidMetH Tryd.prog laidTabs ((laidWorldT os).forCall (fun _ _ => 0) ⟨#[], args, []⟩).memory :=
  laidMetH_of_parts (laidMet_of_run' 10 (by kernel_rfl) (by kernel_rfl)) (by kernel_rfl)
end Go.Proofs.YtdbpboipiceifaaDoor
