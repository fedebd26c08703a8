import Derived.Test.YtbcmkkphbkpapaaDoorRows
import Derived.Test.YtbcmkkphbkpapaaDoorTie
import Derived.Test.YtbcmkkphbkpapaaDoorCards
import Derived.Test.YtbcmkkphbkpapaaDoorFault
import Derived.Lib.LaidTab
import Derived.Lib.ItoaNum
import Derived.ChangeSame
import Derived.ChangeVars
import Derived.JoinedOf
import Derived.RowKit
import Derived.RowKitTokens
import Derived.LaidLaws
import Derived.LaidHandle
import Derived.Stop.Joined
import Derived.Stop.LaidErr
import Derived.SevenTiedAt
set_option linter.unusedVariables false
namespace Go.Proofs.YtbcmkkphbkpapaaDoor
open Go.ChangeShapes Go.WideShapes Go.RowKit

/-! Rows that list strconv's tables, and errors' type handle. -/
namespace tied
theorem own : ownKnob Tryd.prog.godebug = none := by kernel_rfl
theorem laidOut : laidOutB Tryd.prog = true := by kernel_rfl
theorem etName : Tryd.prog.globalNamed "errors.errorType" = some 0 := by kernel_rfl
theorem rtName : (Tryd.prog.cutTypes.find? (·.1 == "internal/reflectlite.rtype")).map (·.2) = some 156 := by kernel_rfl
theorem oneRow : ((List.range 217).filter fun t => Tryd.prog.rowNamed t [101, 114, 114, 111, 114]) = [29] := by kernel_rfl
theorem typesSize : Tryd.prog.types.size = 217 := by kernel_rfl
end tied
/-- strconv's table of powers. -/
def TabT (w : World) : Prop := Lib.TabIs Tryd.prog w "internal/strconv.uint64pow10" .u64 Lib.pow10Tab
def laidTabs : List (String × DataW Unit) := [("math/bits.deBruijn32tab", Rows.laid_math_bits_deBruijn32tab), ("math/bits.deBruijn64tab", Rows.laid_math_bits_deBruijn64tab), ("internal/strconv.uint64pow10", Rows.laid_internal_strconv_uint64pow10)]
def laidAll : List (String × DataW Unit) := [("math/bits.deBruijn32tab", Rows.laid_math_bits_deBruijn32tab), ("math/bits.deBruijn64tab", Rows.laid_math_bits_deBruijn64tab), ("internal/strconv.uint64pow10", Rows.laid_internal_strconv_uint64pow10), ("errors.errorType", Rows.laid_errors_errorType)]
theorem tabT_of {W : World} (h : laidMet Tryd.prog laidTabs W) : TabT W :=
  Lib.tabIs_of_head (g := 1) (n := 20) (e := 36) (t := 182) (by kernel_rfl) (by kernel_rfl) (by kernel_rfl) (by kernel_rfl) (by kernel_rfl) (by kernel_rfl) (laidMet.tail (laidMet.tail h))
theorem allT_of {W : World} (h : laidMetH Tryd.prog laidAll W) : TabT W ∧ ErrT W := by
  have h' : laidMet Tryd.prog laidTabs W ∧ handlesMet Tryd.prog [("errors.errorType", Rows.laid_errors_errorType)] W := h
  refine ⟨tabT_of h'.1, ?_⟩
  obtain ⟨name, u, ty, e1, e2, e3, e4, e5⟩ := h'.2 _ (List.mem_singleton.2 rfl)
  have en : name = [101, 114, 114, 111, 114] := (Option.some.inj e1).symm
  subst en
  obtain rfl := Option.some.inj (tied.rtName.symm.trans e2)
  have hm : ty ∈ (List.range 217).filter fun t => Tryd.prog.rowNamed t [101, 114, 114, 111, 114] := List.mem_filter.2 ⟨List.mem_range.2 (by rw [← tied.typesSize]; exact e3), e4⟩
  rw [tied.oneRow] at hm
  obtain rfl := List.mem_singleton.1 hm
  have hh : typeHandle Tryd.prog 29 = hnd 29 := by kernel_rfl
  rw [hh] at e5
  have := World.var?_cell tied.etName e5 0
  show _ = _
  simpa using this

/-- A world that meets the conditions. -/
def tabCells : DataW Unit → Array Value
  | .agg l => (l.map fun | .lit (.int k z) => Value.int k z | _ => undef).toArray
  | _ => #[]
noncomputable def laidWorldT (os : Os) : World :=
  let w0 := World.holding Tryd.prog os ⟨#[], #[], []⟩
  let put (g : Nat) (cs : Array Value) (h : Array Obj) : Array Obj := h.modify g fun
      | .cells _ t frozen => .cells cs t frozen
      | o => o
  { w0 with heap := put 3 (tabCells Rows.laid_math_bits_deBruijn32tab) (put 4 (tabCells Rows.laid_math_bits_deBruijn64tab) (put 1 (tabCells Rows.laid_internal_strconv_uint64pow10) (put 0 #[.iface 156 (.agg #[hnd 29])] w0.heap))) }
theorem laidT_met (os : Os) (args : Array Value) : laidMetH Tryd.prog laidTabs ((laidWorldT os).forCall (fun _ _ => 0) ⟨#[], args, []⟩).memory :=
  laidMetH_of_parts (laidMet_of_run' 10 (by kernel_rfl) (by kernel_rfl)) (by kernel_rfl)
theorem laidA_met (os : Os) (args : Array Value) : laidMetH Tryd.prog laidAll ((laidWorldT os).forCall (fun _ _ => 0) ⟨#[], args, []⟩).memory :=
  laidMetH_of_parts (laidMet_of_run' 10 (by kernel_rfl) (by kernel_rfl)) (by kernel_rfl)
end Go.Proofs.YtbcmkkphbkpapaaDoor
